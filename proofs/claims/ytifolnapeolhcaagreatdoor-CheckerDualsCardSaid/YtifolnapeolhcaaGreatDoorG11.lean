/- Laws that the proofs of this seat share, part 11. -/
import Derived.Test.YtifolnapeolhcaaGreatDoorG10
import Derived.Test.YtifolnapeolhcaaGreatDoorShelf
import Derived.Lib.AppendZeros
import Derived.Test.YtifolnapeolhcaaGreatDoorCards
import Derived.Test.YtifolnapeolhcaaGreatDoorTie
import Derived.Stop.LaidErr
import Derived.Lib.LaidTab
import Derived.Carry
import Derived.Deep.Strs
import Derived.Laws.IdiomArrays
set_option maxHeartbeats 4000000
namespace Go.Proofs.YtifolnapeolhcaaGreatDoor
open Go Go.Jog
set_option maxRecDepth 100000

theorem feasO_form {p:Lp.Sys}{t:Lp.Tab}{u:Value}(h:FeasO p t u):∃ (row:Int)(is:Bool),u=.tuple #[.int .i64 row,.bool is]/\(is=true->t.Feas p.n) /\
  (is=false->∃ r:Nat,row=r/\r<t.basic.length/\p.n<=t.bas r/\(t.line r).c<0/\∀ s,s<t.others.length->p.n<=t.oth s->(t.line r).g s<=0):=by
 cases h with
 | yes h=>exact ⟨0,true,rfl,fun _=>h,fun h=>by cases h⟩
 | no r h1 h2 h3 h4=>exact ⟨r,false,rfl,fun h=>(by cases h),fun _=>⟨r,rfl,h1,h2,h3,h4⟩⟩
theorem minO_form {p:Lp.Sys}{t:Lp.Tab}{u:Value}(h:MinO p t u):∃ (at_:Int)(is:Bool),u=.tuple #[.int .i64 at_,.bool is]/\(is=true->Lp.RelW p.n t/\∀ s,s<t.others.length->p.n<=t.oth s->0<=t.worth.g s) /\
  (is=false->∃ s:Nat,at_=s/\s<t.others.length/\rayK t s*t.worth.g s<0/\(∀ i,i<t.basic.length->p.n<=t.bas i->0<=rayK t s*(t.line i).g s)/\(p.n<=t.oth s->0<=rayK t s)):=by
 cases h with
 | yes h1 h2=>exact ⟨0,true,rfl,fun _=>⟨h1,h2⟩,fun h=>by cases h⟩
 | no s h1 h2 h3 h4=>exact ⟨s,false,rfl,fun h=>(by cases h),fun _=>⟨s,rfl,h1,h2,h3,h4⟩⟩
inductive SolO (p:Lp.Sys) (cc:Nat->Rat) (D:Mem):Value->Prop where
 | opt (val:Rat) (pt du:Nat->Rat) (vp vd:Value):Lp.OptR p cc 1 val pt du->Sl D 1 vp (((List.range p.n).map pt).map encR)->Sl D 1 vd (((List.range p.m).map du).map encR)->SolO p cc D (.agg ⟨[.int .i64 1,strV (qtx val),vp,vd,.slice none 0 0]⟩)
 | inf (du:Nat->Rat) (vd:Value):Lp.InfR p 1 du->Sl D 1 vd (((List.range p.m).map du).map encR)->SolO p cc D (.agg ⟨[.int .i64 2,strV [],.slice none 0 0,vd,.slice none 0 0]⟩)
 | unb (pt ra:Nat->Rat) (vp vr:Value):Lp.UnbR p cc 1 pt ra->Sl D 1 vp (((List.range p.n).map pt).map encR)->Sl D 1 vr (((List.range p.n).map ra).map encR)->SolO p cc D (.agg ⟨[.int .i64 3,strV [],vp,.slice none 0 0,vr]⟩)
theorem rayK_one {t:Lp.Tab}{s:Nat}:rayK t s=1∨rayK t s=-1:=by unfold rayK;split <;> simp
theorem solve_fn (C:Mem)(hT:Tabs C)(n:Nat)(rv ov:Value)(rs:List (List Rat × Rat))(ob:List Rat)(hr:RowsT C rv (rs.map bd))(ho:Sl C 1 ov (ob.map encR))(hq:RowsQ n rs)(hn:n<=1000)(hol:ob.length=n)(hl:Lp.Lim (cm n rs) (fun j=>ob.getD j 0) 1) :
  Pur cx.P 21 [.agg ⟨[.int .i64 n,rv,ov]⟩] C fun u D=>SolO (cm n rs) (fun j=>ob.getD j 0) D u:=by
 have hmx:maxLen<=9223372036854775807:=by simp [maxLen]
 have hm:=hq.m
 have hvr:=hr
 obtain ⟨vs,hvl,_,hvs⟩:=hvr
 obtain ⟨Ar,cr,rfl,_⟩:=id hvs
 rw [eA hvl,List.length_map] at hr ⊢
 obtain ⟨p,hp⟩:∃ p,cm n rs=p:=⟨_,rfl⟩
 obtain ⟨cc,hcc⟩:∃ cc:Nat->Rat,(fun j=>ob.getD j 0)=cc:=⟨_,rfl⟩
 have hpn:p.n=n:=by rw [<- hp];rfl
 have hpm:p.m=rs.length:=by rw [<- hp];rfl
 have hpo:=fun (D:Mem)(hle:C.le D)=>popen_fn D (hT.mono hle) n (.slice Ar rs.length cr) ov rs ob (hr.mono hle) (ho.mono hle) hq hn hol
 rw [hp,hcc] at hl hpo ⊢
 rw [<- hpn] at hpo hn ⊢
 rw [<- hpm] at hpo ⊢
 refine Fn.it kr_ Tryz.func21 57 fun w0=>?_
 refine G.rg fun R hR=>?_
 refine D.aX (fun b1=>?_)
 refine D.aC (fun b2=>?_)
 refine D.e2 1 2 hR ?_;clear hR R
 refine G.freeze 1 rfl (fun C1 hle1 hb1=>?_)
 refine G.aA [(1,3)] rfl (fun R hR=>?_)
 refine D.ac (bkT hb1 3) ?_
 refine D.call (hpo _ mup) rfl (.inr (by decide)) rfl rfl rfl rfl rfl rfl (List.Perm.refl _) fl_ (fun v9 C9 L9 hle9 hq9=>?_)
 obtain ⟨b,wB,wL,wO,wW,wF,rfl,rfl⟩:=hq9
 refine D.q3 1 1 2 3 hR ?_;clear hR R
 refine G.aA [(1,3)] rfl (fun R hR=>?_)
 refine D.ae ?_
 refine D.call (release_fn _ (hT.mono mup) p cc b _ wB wL wO wW wF Lp.openT_inv rfl hl om_ om_) rfl (.inr (by decide)) rfl rfl rfl rfl rfl rfl (List.Perm.refl _) fl_ (fun v11 C11 L11 hle11 hq11=>?_)
 refine D.e3 1 2 3 hR ?_;clear hR R
 obtain ⟨-,t1,wF1,hI1,hR1,rfl⟩:=hq11
 refine G.aA [(1,3)] rfl (fun R hR=>?_)
 refine D.ae ?_
 refine D.call (feasible_fn _ (hT.mono mup) p cc b t1 wB wL wO wW wF1 hI1 hR1 hl om_ om_) rfl (.inr (by decide)) rfl rfl rfl rfl rfl rfl (List.Perm.refl _) fl_ (fun v14 C14 L14 hle14 hq14=>?_)
 obtain ⟨t,wF2,hI,hRe,hF,rfl⟩:=hq14
 obtain ⟨row,is,rfl,hF1,hF2⟩:=feasO_form hF
 refine D.q5 5 1 2 3 4 5 hR ?_;clear hR R
 refine G.z5 2 1 2 3 4 18 ?_
 refine G.cd (fun h18=>?_) fun h18=>?_
 ·have his:is=false:=by simpa using h18
  obtain ⟨r,rfl,hr1,hr2,hr3,hr4⟩:=hF2 his
  refine G.d4 (tabL b p.n t wB wL wO wW wF2) (d9 hI.tab.ok) (fun C5 hle5 hse=>?_)
  have hV:=dt hI.tab.ok hse
  refine G.rp 3 fun R hR=>?_
  refine D.ac (bkT hb1 1) ?_
  refine D.ae ?_
  refine D.ax (refut_fn _ p b r t wB wL wO wW _ (hV.mono mup) hI.tab om_ hr1 hr2 (fun q=>(hI.dualQ hl (by decide) hr1 q).le (by decide))) rfl rfl rfl rfl rfl rfl rfl fl_ (fun v24 C24 hle24 hq24=>?_)
  obtain ⟨g,rfl,hg⟩:=hq24
  refine D.build [.int .i64 2,strV [],.slice none 0 0,.slice (some ⟨g,0,none⟩) p.m p.m,.slice none 0 0] rfl rfl rfl rfl rfl rfl rfl rfl ?_
  refine D.ag (j:=0) ?_
  refine D.e1 2 hR ?_;clear hR R
  refine G.ay (G.dz (.head _) rfl rfl rfl rfl ?_)
  exact ⟨rfl,.inf _ _ (hI.inf hl (by decide) hRe hr1 hr2 hr3 hr4) (hg.mono mup)⟩
 ·have his:is=true:=by simpa using h18
  have hFe:=hF1 his
  refine G.aA [(1,3)] rfl (fun R hR=>?_)
  refine D.ae ?_
  refine D.call (minimize_fn _ (hT.mono mup) p cc b t wB wL wO wW wF2 hI hRe hFe hl om_ om_) rfl (.inr (by decide)) rfl rfl rfl rfl rfl rfl (List.Perm.refl _) fl_ (fun v28 C28 L28 hle28 hq28=>?_)
  obtain ⟨t3,wF3,hI3,hF3,hM,rfl⟩:=hq28
  obtain ⟨at_,is2,rfl,hM1,hM2⟩:=minO_form hM
  refine D.q5 5 1 2 3 6 7 hR ?_;clear hR R
  refine G.z5 2 1 2 3 6 32 ?_
  refine G.cd (fun h32=>?_) fun h32=>?_
  ·have his2:is2=false:=by simpa using h32
   obtain ⟨s,rfl,hs1,hs2,hs3,hs4⟩:=hM2 his2
   refine G.d4 (tabL b p.n t3 wB wL wO wW wF3) (d9 hI3.tab.ok) (fun C5 hle5 hse=>?_)
   have hV:=dt hI3.tab.ok hse
   refine G.aA [(1,3),(4,3)] rfl (fun R hR=>?_)
   refine D.ae ?_
   refine D.call (point_fn _ b p.n (p.n+p.m) t3 wB wL wO wW _ (hV.mono mup) hI3.tab.ok om_) rfl (.inr (by decide)) rfl rfl rfl rfl rfl rfl (List.Perm.refl _) fl_ (fun v34 C34 L34 hle34 hq34=>?_)
   obtain ⟨g1,rfl,rfl⟩:=hq34
   refine D.ps 2 ?_
   refine D.call (ray_fn _ (hT.mono mup) p b s t3 wB wL wO wW _ (hV.mono mup) hI3.tab hs1 om_ (fun i hi=>hI3.fac hl hi hs1) (hI3.wfac hl hs1)) rfl (.inr (by decide)) rfl rfl rfl rfl rfl rfl (List.Perm.refl _) fl_ (fun v37 C37 L37 hle37 hq37=>?_)
   obtain ⟨g2,rfl,rfl⟩:=hq37
   refine D.build [.int .i64 3,strV [],.slice (some ⟨g1,0,none⟩) p.n p.n,.slice none 0 0,.slice (some ⟨g2,0,none⟩) p.n p.n] rfl rfl rfl rfl rfl rfl rfl rfl ?_
   refine D.ag (j:=2) ?_
   refine D.e1 2 hR ?_;clear hR R
   refine G.freezeArr 1 (((List.range p.n).map fun v=>rayK t3 s*t3.dir s v).map encR) rfl rfl bK (by simp) (fun C8 hle8 hg2=>?_)
   refine G.freezeArr 1 (((List.range p.n).map t3.sol).map encR) rfl rfl bK (by simp) (fun C9 hle9 hg1=>?_)
   refine G.ay (G.dz (.head _) rfl rfl rfl rfl ?_)
   exact ⟨rfl,.unb _ _ _ _ (hI3.unb hl (by decide) hF3 hs1 rayK_one hs2 hs3 hs4) hg1 (hg2.mono mup)⟩
  ·have his2:is2=true:=by simpa using h32
   obtain ⟨hW1,hW2⟩:=hM1 his2
   refine G.d4 (tabL b p.n t3 wB wL wO wW wF3) (d9 hI3.tab.ok) (fun C5 hle5 hse=>?_)
   have hV:=dt hI3.tab.ok hse
   refine G.aH [0,1,2,3,4,5,7,8,9,10,11,12,13,14,6,15,16,17,18] [(6,3),(15,3),(4,0),(11,0),(13,0)] rfl kr_ (fun R hB hR=>?_)
   refine D.ps 4 ?_
   refine D.fm (fun _=>((PtrTo.blockT hV.o _ 1).mono hB)) rfl rfl rfl rfl rfl rfl rfl rfl rfl ?_
   refine D.ps 5 ?_
   refine D.fm (fun _=>((PtrTo.blockT hV.o _ 2).mono hB)) rfl rfl rfl rfl rfl rfl rfl rfl rfl ?_
   refine D.ae ?_
   refine D.fm (fun _=>((bkT hb1 1).mono hB)) rfl rfl rfl rfl rfl rfl rfl rfl rfl ?_
   refine D.ae ?_
   refine D.call (point_fn _ b p.n (p.n+p.m) t3 wB wL wO wW _ (hV.mono mup) hI3.tab.ok om_) rfl (.inr (by decide)) rfl rfl rfl rfl rfl rfl (List.Perm.refl _) fl_ (fun v45 C45 L45 hle45 hq45=>?_)
   refine D.call (dual_fn _ p b t3 t3.worth wB wL wO wW wW _ (hV.mono mup) hI3.tab om_ (hV.W.mono mup) hI3.tab.ok.wl) rfl (.inr (by decide)) rfl rfl rfl rfl rfl rfl (List.Perm.refl _) fl_ (fun v54 C54 L54 hle54 hq54=>?_)
   obtain ⟨g2,rfl,rfl⟩:=hq54
   obtain ⟨g1,rfl,rfl⟩:=hq45
   refine D.build [.slice (some ⟨g2,0,none⟩) p.m p.m] rfl rfl rfl rfl rfl rfl rfl rfl ?_
   refine D.build [.int .i64 1,strV (qtx t3.worth.c),.slice (some ⟨g1,0,none⟩) p.n p.n,.slice (some ⟨g2,0,none⟩) p.m p.m,.slice none 0 0] rfl rfl rfl rfl rfl rfl rfl rfl ?_
   refine D.ag (j:=2) ?_
   refine D.e1 2 hR ?_;clear hR hB R
   refine G.freezeArr 1 (((List.range p.m).map (Lp.dualV p t3 t3.worth)).map encR) rfl rfl bK (by simp) (fun C8 hle8 hg2=>?_)
   refine G.freezeArr 1 (((List.range p.n).map t3.sol).map encR) rfl rfl bK (by simp) (fun C9 hle9 hg1=>?_)
   refine G.ay (G.dz (.head _) rfl rfl rfl rfl ?_)
   exact ⟨rfl,.opt _ _ _ _ _ (hI3.opt hl (by decide) hF3 hW1 hW2) hg1 (hg2.mono mup)⟩
end Go.Proofs.YtifolnapeolhcaaGreatDoor
namespace Go.Jog
open Go

section
variable {cx:Cx} {n:Nat} {ds:List (Option Nat)} {R:Rg n ds} {its:List It} {fr:Fr} {C:Mem} {L:List Ent} {i k d:Nat} {o:Oper}
theorem D.capV {t e len cap:Nat}{A:Option Addr}{x:Operand}{g:GL}{ti:TI}(hk:Nat.ble k 1=true)(hd:o.dst=some d)(hop:o.op=.call ⟨.builtin .cap,#[x],#[t]⟩)(hg:gOf ds fr o.guard=some g)(hx:ev fr g x=some (.slice A len cap))
  (ht:cx.T.get t=some ti) (hte:ti.k=.slice e) (hp:aF n ds ((d,g,.int .i64 cap)::fr) d=true) (hwf:wfG ds fr g=true)
  (hh:D cx R its ((d,g,.int .i64 cap)::fr) C L):D cx R ((i,k,o)::its) fr C L:=by
 have hu:cx.P.underlying t=some (.slice e):=by
  obtain ⟨kk,s1,b1,z1,g1⟩:=ti
  simp only at hte
  subst hte
  exact bC cx.hT ht
 refine D.run _ hk hd hg (fun hG a hs w=>?_) hp hwf hh
 have e1:execOp a.eval o=(do let dd <- resolve a.eval ⟨.builtin .cap,#[x],#[t]⟩ o.type;invoke dd.target dd.args:Sem Next):=by unfold execOp;rw [hop]
 rw [e1]
 simp [resolve,invoke,builtin,Sem.run_bind,hs _ _ hx,Builtin.cap_,run_underlying hu,goInt]
theorem D.appendNilZ {t tn e m:Nat}{x y:Operand}{kq kn:IntKind}{ti tni te:TI}(hk:k=3)(hd:o.dst=some d)(hg:gOn ds fr o.guard=true)(hop:o.op=.call ⟨.builtin .append,#[x,y],#[t,tn]⟩)
  (ht:cx.T.get t=some ti) (hte:ti.k=.slice e) (he:cx.T.get e=some te) (hs0:Nat.beq te.size 0=false) (htn:cx.T.get tn=some tni) (hkn:tni.k=.int kn)
  (hx:ev fr [] x=some (.slice none 0 0)) (hy:ev fr [] y=some (.int kq (m:Nat))) (hm0:0<m) (hb:m*te.bytes<=281474976710656) (hmx:m<=maxLen) (hp:∀ v,aF n ds ((d,[],v)::fr) d=true)
  (h:∀ b c,m<=c->D cx R its ((d,[],.slice (some ⟨b,0,none⟩) m c)::fr) C (.arr (.slice (some ⟨b,0,none⟩) m c) e te.size m (zrow (te.zero.map Zv.val) m)::L)):D cx R ((i,k,o)::its) fr C L:=by
 have hu:cx.P.underlying t=some (.slice e):=by
  obtain ⟨kk,s1,b1,z1,g1⟩:=ti
  simp only at hte
  subst hte
  exact bC cx.hT ht
 have hun:cx.P.underlying tn=some (.int kn):=by
  obtain ⟨kk,s1,b1,z1,g1⟩:=tni
  simp only at hkn
  subst hkn
  exact und_int cx.hT htn
 obtain ⟨inf,hi,hsize,hby,hz,hzc⟩:=(cJ cx.hT he).info
 have hpos:0<te.size:=Nat.pos_of_ne_zero (fun e=>by rw [e] at hs0;cases hs0)
 have hmx2:maxLen<=9223372036854775807:=by simp [maxLen]
 refine D.eff (S:=fun v' C' L'=>C'=C/\∃ b c,m<=c/\v'=.slice (some ⟨b,0,none⟩) m c/\L'=.arr (.slice (some ⟨b,0,none⟩) m c) e te.size m (zrow (te.zero.map Zv.val) m)::L) (by subst hk;rfl) hd hg hp (fun a hs w _ hw=>?_) (fun v' C' L' _ ⟨e0,b,c,hc,e1,e2⟩=>by subst e0;subst e1;subst e2;exact h b c hc)
 have hr:=Lib.run_append_nil_zeros (P:=cx.P) w t tn o.type e inf te.zv kq kn hu hun hi hz m hm0 (by rw [hsize];exact hpos) om_ (by rw [hby];exact hb)
 have hrun:(execOp a.eval o).run cx.P w=.ok (.value (.slice (some ⟨w.heap.size,0,none⟩) m (grownCap w m 0 e))) (w.drew.alloc (.cells (Builtin.zeroCells te.zv.cells m++Builtin.zeroCells te.zv.cells (grownCap w m 0 e-m)) e)):=by
  have e1:execOp a.eval o=(do let dd <- resolve a.eval ⟨.builtin .append,#[x,y],#[t,tn]⟩ o.type;invoke dd.target dd.args:Sem Next):=by unfold execOp;rw [hop]
  rw [e1]
  simp only [resolve,invoke,builtin,Sem.run_bind,Sem.run_pure,Result.andThen_ok,List.map_toArray,List.map_cons,List.map_nil,hs _ _ hx,hs _ _ hy,hr]
 unfold Oper.wp
 rw [hrun]
 have hge:=grownCap_ge w m 0 e
 have hle:=grownCap_le_maxLen w m 0 e hmx
 have hst:=St.alloc (St.drew hw) (.cells (Builtin.zeroCells te.zv.cells m++Builtin.zeroCells te.zv.cells (grownCap w m 0 e-m)) e)
 have hzl:(te.zero.map Zv.val).length=te.size:=by
  have:=(cJ cx.hT he).zsize
  rw [hzc] at this;simpa using this
 have hzz:∀ q,Builtin.zeroCells te.zv.cells q=⟨zrow (te.zero.map Zv.val) q⟩:=fun q=>by
  rw [<- made_eq,hzc]
  rfl
 have hcat:(⟨zrow (te.zero.map Zv.val) m⟩++⟨zrow (te.zero.map Zv.val) (grownCap w m 0 e-m)⟩:Array Value)=⟨zrow (te.zero.map Zv.val) m++zrow (te.zero.map Zv.val) (grownCap w m 0 e-m)⟩:=by simp
 rw [hzz,hzz,hcat] at hst ⊢
 refine ⟨_,C,.arr (.slice (some ⟨w.heap.size,0,none⟩) m (grownCap w m 0 e)) e te.size m (zrow (te.zero.map Zv.val) m)::L,rfl,Mem.le.refl _,fun h2=>by omega,St.objArr hst (List.take_left' (by rw [bM,hzl])) ?_ hge hle,rfl,_,_,hge,rfl,rfl⟩
 rw [List.length_append,bM,bM,hzl,<- Nat.add_mul]
 congr 1
 omega
end
end Go.Jog
namespace Go.Proofs.YtifolnapeolhcaaGreatDoor
open Go Go.Jog
set_option maxRecDepth 100000

theorem right_txt {z:Int}(h:(decS z.natAbs).length<=200):bq (txt z)=true:=by
 refine el.2 ?_
 rw [bZ]
 refine ⟨eI.2 ⟨(aO _).1,h⟩,fun hz=>?_⟩
 have h1:=of_decide_eq_true hz
 show 0<decV (decS z.natAbs)
 rw [(aO _).2]
 omega
theorem decZ_txt (z:Int):decZ (txt z)=z:=by
 unfold decZ
 rw [bZ]
 show sgZ (decide (z<0)) (decV (decS z.natAbs))=z
 rw [(aO _).2]
 unfold sgZ
 by_cases h:z<0
 ·rw [decide_eq_true h,if_pos rfl];omega
 ·rw [decide_eq_false h,if_neg (by decide)];omega
theorem ratOk_qtx {q:Rat}(h:QB 22 q):aY (qtx q)=true:=by
 have h1:(decS q.num.natAbs).length<=200:=by have:=bl h.1 (by decide);omega
 have h2:(decS q.den).length<=200:=by have:=bl h.2 (by decide);omega
 unfold aY
 rw [cut1_qtx]
 show (bq (txt q.num) && bq ((denS q.den).getD [49]) && restOk (decZ (txt q.num)) (denS q.den))=true
 rw [den_get,decZ_txt,right_txt h1,<- cH,right_txt (by rw [Int.natAbs_natCast];exact h2),Bool.true_and,Bool.true_and]
 by_cases hd:q.den=1
 ·rw [dens_one hd];rfl
 ·rw [dZ hd]
  unfold restOk
  show (decide (1<decZ (decS q.den)) && !(q.num == 0) && (Nat.gcd q.num.natAbs (decZ (decS q.den)).natAbs == 1))=true
  have hz:decZ (decS q.den)=((q.den:Nat):Int):=by rw [<- cH,decZ_txt]
  have hp:=pos_den q
  rw [hz,decide_eq_true om_,Int.natAbs_natCast,show Nat.gcd q.num.natAbs q.den=1 from q.reduced]
  have hn:q.num≠0:=by
   intro e
   have h3:=q.reduced
   rw [e] at h3
   have h4:Nat.gcd 0 q.den=1:=h3
   rw [Nat.gcd_zero_left] at h4
   exact hd h4
  simp [hn]

theorem grow_fn (C:Mem)(n:Nat)(hn:n<=1000000):Jog.Fn cx.P 120 [.slice none 0 0,.int .i64 n] C [] fun u _ L'=>∃ A n2 c,u=.slice A n2 c/\L'=[.arr u 27 1 0 []]:=by
 have hmx:maxLen<=9223372036854775807:=by simp [maxLen]
 refine Fn.it kr_ Tryz.func120 27 fun w0=>?_
 refine G.z2 1 0 1 ?_
 refine G.z3 2 0 1 6 ?_
 refine G.cd (fun h6=>?_) fun h6=>?_
 ·simp at h6;omega
 ·refine G.rp 2 fun R hR=>?_
  refine D.capV rfl rfl rfl rfl rfl rfl rfl rfl rfl ?_
  refine D.ps 2 ?_
  refine D.aq _ ?_
  refine D.aq _ ?_
  refine D.q2 1 0 1 hR ?_
  refine G.z3 2 0 1 16 ?_
  refine G.cd (fun h16=>?_) fun h16=>?_
  ·have hpos:0<n:=by
    simp at h16;omega
   refine G.rp 2 fun R hR=>?_
   refine D.capV rfl rfl rfl rfl rfl rfl rfl rfl rfl ?_
   refine D.dq 0 0 0 rfl rfl rfl rfl rfl rfl rfl rfl rfl rfl rfl rfl (fun _=>⟨.inl ⟨rfl,rfl⟩,.inr ⟨_,rfl⟩,.inl ⟨rfl,rfl⟩,Nat.le_refl _,Nat.le_refl _,Nat.le_refl _⟩) rfl rfl ?_
   refine D.ae ?_
   refine D.appendNilZ (m:=n) rfl rfl rfl rfl rfl rfl rfl rfl rfl rfl rfl rfl hpos (by show n*16<=_;omega) (by simp only [maxLen];omega) fl_ (fun b22 c22 hc22=>?_)
   refine D.ps 2 ?_
   refine D.dq 0 0 c22 rfl rfl rfl rfl rfl rfl rfl rfl rfl rfl rfl rfl (fun _=>⟨.inl ⟨rfl,rfl⟩,.inr ⟨_,rfl⟩,.inl ⟨rfl,rfl⟩,Nat.le_refl _,Nat.zero_le _,Nat.le_refl _⟩) rfl rfl ?_
   refine D.q1 1 0 hR ?_
   refine G.z1 2 4 ?_
   refine G.shrink 0 0 rfl (Nat.zero_le _) ?_
   refine G.ay (G.dC rfl rfl ?_)
   refine ⟨_,_,_,rfl, ?_⟩
   have e:(if c22=0 then some (⟨b22,0,none⟩:Addr) else (some (⟨b22,0,none⟩:Addr)).map (·.add (0*1)))=some ⟨b22,0,none⟩:=by
    split
    ·rfl
    ·simp [Addr.add_lit]
   rw [e]
   simp
  ·refine G.z1 2 4 ?_
   refine G.nilArr 27 1 ?_
   refine G.ay (G.dC rfl rfl ?_)
   exact ⟨none,0,0,rfl,rfl⟩
def catR (xs:List (Value × List Rat)):List Rat:=(xs.map (·.2)).flatten
theorem catR_snoc {xs:List (Value × List Rat)}{i:Nat}{x:Value × List Rat}(h:xs[i]?=some x):catR (xs.take (i+1))=catR (xs.take i)++x.2:=by
 unfold catR
 rw [List.take_add_one,h]
 simp
theorem catR_le (xs:List (Value × List Rat))(i:Nat):(catR (xs.take i)).length<=(catR xs).length:=by
 have h:catR xs=catR (xs.take i)++catR (xs.drop i):=by
  unfold catR
  rw [<- List.flatten_append,<- List.map_append,List.take_append_drop]
 rw [h,List.length_append]
 omega
def encV1 (x:Value × List Rat):List Value:=[x.1]
theorem concat_fn (C:Mem)(v:Value)(xs:List (Value × List Rat))(hv:Sl C 1 v (xs.map encV1))(hx:∀ x∈xs,Sl C 1 x.1 (x.2.map encR))(hl:(catR xs).length<=1000000) :
  Jog.Fn cx.P 61 [v] C [] fun u _ L'=>∃ A n2 c,u=.slice A n2 c/\L'=[.arr u 27 1 (catR xs).length ((catR xs).map encR).flatten]:=by
 obtain ⟨A0,c0,rfl,hc1,hc2,_⟩:=id hv
 have hmx:maxLen<=9223372036854775807:=by simp [maxLen]
 simp only [List.length_map] at hv hc1 ⊢
 refine Fn.it kr_ Tryz.func61 36 fun w0=>?_
 refine G.z1 1 0 ?_
 refine G.z2 1 0 3 ?_
 refine G.z5 3 0 3 9 10 11 ?_
 refine G.loop (fun fr C' L' μ=>∃ (i:Nat)(z:Int),(i<=xs.length/\z=(catR (xs.take i)).length)/\fr=[(0,[],.slice A0 xs.length c0),(3,[],.int .i64 z),(9,[],.slice A0 xs.length c0),(10,[],.int .i64 xs.length),(11,[],.int .i64 i)]/\L'=[]/\μ=xs.length-i) (h_5 0 3 9 10 11) ⟨0,0,⟨Nat.zero_le _,rfl⟩,rfl,rfl,rfl⟩ (fun fr C0' L0' m hle0 hI=>?_)
 obtain ⟨i,z,⟨hi,hz⟩,rfl,rfl,rfl⟩:=hI
 refine G.z6 1 0 3 9 10 11 12 ?_
 refine G.cd (fun h12=>?_) fun h12=>?_
 ·have hil:i<xs.length:=by
   have:=of_decide_eq_true h12
   omega
  obtain ⟨x,hxi⟩:∃ x,xs[i]?=some x:=⟨xs[i],List.getElem?_eq_getElem hil⟩
  have hxs:=hx x (List.mem_of_getElem? hxi)
  obtain ⟨w,l⟩:=x
  simp only at hxs
  obtain ⟨Ax,cx2,rfl,hx1,hx2,_⟩:=id hxs
  simp only [List.length_map] at hxs hx1 hxi
  have hsn:=catR_snoc hxi
  have hle1:=catR_le xs (i+1)
  have hsl:(catR (xs.take (i+1))).length=(catR (xs.take i)).length+l.length:=by rw [hsn,List.length_append]
  refine G.rg fun R hR=>?_
  refine D.ak (hv.mono mup) rfl rfl rfl rfl rfl rfl rfl rfl rfl rfl om_ (show (xs.map encV1)[i]?=some [_] from cQ hxi) fl_ (fun p13 hp13=>?_)
  refine D.ac hp13 ?_
  refine D.q6 1 0 3 5 9 10 11 hR ?_
  refine G.rp 3 fun R hR=>?_
  refine D.aq _ ?_
  refine D.q5 1 0 3 9 10 11 hR ?_
  refine G.z6 2 0 3 9 10 11 20 ?_
  refine G.cd (fun h20=>?_) fun h20=>?_
  ·exfalso
   have h20':=of_decide_eq_true h20
   omega
  ·refine G.rg fun R hR=>?_
   refine D.aq _ ?_
   refine D.q5 1 0 3 9 10 11 hR ?_
   refine G.ap (m':=xs.length-(i+1)) om_ mup (h_5 0 3 9 10 11) ⟨i+1,_,⟨by omega,by rw [hz];omega⟩,rfl,rfl,rfl⟩
 ·have hil:i=xs.length:=by
   have:=of_decide_eq_false h12
   omega
  rw [hil,List.take_length] at hz
  subst hz
  refine G.aA [(1,3)] rfl (fun R hR=>?_)
  refine D.ae ?_
  refine D.call (grow_fn _ (catR xs).length hl) rfl (.inr (by decide)) rfl rfl rfl rfl rfl rfl (List.Perm.refl _) fl_ (fun v24 C24 L24 hle24 hq24=>?_)
  obtain ⟨A6,n6,c6,rfl,rfl⟩:=hq24
  refine D.q2 1 0 6 hR ?_
  refine G.z4 3 6 25 26 27 ?_
  refine G.loop (fun fr C' L' μ=>∃ (i:Nat)(A1:Option Addr)(n1 c1:Nat),(i<=xs.length)/\fr=[(6,[],.slice A1 n1 c1),(25,[],.slice A0 xs.length c0),(26,[],.int .i64 xs.length),(27,[],.int .i64 i)]/\L'=[.arr (.slice A1 n1 c1) 27 1 (catR (xs.take i)).length ((catR (xs.take i)).map encR).flatten]/\μ=xs.length-i) (h_4 6 25 26 27) ⟨0,A6,n6,c6,Nat.zero_le _,rfl,rfl,rfl⟩ (fun fr C1' L1' m hle1 hI=>?_)
  obtain ⟨i,A1,n1,c1,hi2,rfl,rfl,rfl⟩:=hI
  refine G.z5 1 6 25 26 27 28 ?_
  refine G.cd (fun h28=>?_) fun h28=>?_
  ·have hil:i<xs.length:=by
    have:=of_decide_eq_true h28
    omega
   obtain ⟨x,hxi⟩:∃ x,xs[i]?=some x:=⟨xs[i],List.getElem?_eq_getElem hil⟩
   have hxs:=hx x (List.mem_of_getElem? hxi)
   have hsn:=catR_snoc hxi
   have hle1:=catR_le xs (i+1)
   have hsl:(catR (xs.take (i+1))).length=(catR (xs.take i)).length+x.2.length:=by rw [hsn,List.length_append]
   refine G.rg fun R hR=>?_
   refine D.ak (hv.mono mup) rfl rfl rfl rfl rfl rfl rfl rfl rfl rfl om_ (show (xs.map encV1)[i]?=some [x.1] from cQ hxi) fl_ (fun p29 hp29=>?_)
   refine D.ac hp29 ?_
   refine D.q5 1 6 8 25 26 27 hR ?_
   refine G.rp 2 fun R hR=>?_
   refine D.ai (j:=0) rfl rfl rfl rfl rfl rfl rfl rfl rfl rfl rfl (hxs.mono mup) (by simp [encR,oneB,strV]) (by simp only [List.length_map,maxLen];omega) (by show ((catR (xs.take i)).length+(x.2.map encR).length)*16<=_;rw [List.length_map];omega) fl_ (fun A33 n33 c33=>?_)
   refine D.q4 1 6 25 26 27 hR ?_
   refine G.rg fun R hR=>?_
   refine D.aq _ ?_
   refine D.q4 1 6 25 26 27 hR ?_
   refine G.aM (L':=[.arr (.slice A33 n33 c33) 27 1 (catR (xs.take (i+1))).length ((catR (xs.take (i+1))).map encR).flatten]) (by rw [hsn,List.map_append,List.flatten_append,List.length_append,List.length_map];rfl) ?_
   refine G.ap (m':=xs.length-(i+1)) om_ mup (h_4 6 25 26 27) ⟨i+1,A33,n33,c33,om_,rfl,rfl,rfl⟩
  ·have hil2:i=xs.length:=by
    have:=of_decide_eq_false h28
    omega
   refine G.z1 2 2 ?_
   refine G.ay (G.dC rfl rfl ?_)
   exact ⟨A1,n1,c1,rfl,by rw [hil2,List.take_length]⟩
theorem short_fn (C:Mem)(hT:Tabs C)(kd:Int)(val:Str)(vp vd vr:Value)(a b c:List Rat)(ha:Sl C 1 vp (a.map encR))(hb:Sl C 1 vd (b.map encR))(hc:Sl C 1 vr (c.map encR))(qa:∀ x∈a,QB 1 x)(qb:∀ x∈b,QB 1 x)(qc:∀ x∈c,QB 1 x)(hal:a.length<=1000)(hbl:b.length<=1000)(hcl:c.length<=1000)
  (hv:kd=1->∃ q,val=qtx q/\QB 1 q):Gives cx.P 22 [.agg ⟨[.int .i64 kd,strV val,vp,vd,vr]⟩] C (.bool true):=by
 have hcat:catR [(vp,a),(vd,b),(vr,c)]=a++(b++(c++[])):=rfl
 have hlen:(catR [(vp,a),(vd,b),(vr,c)]).length<=1000000:=by rw [hcat];simp;omega
 obtain ⟨all,hall⟩:∃ all,catR [(vp,a),(vd,b),(vr,c)]=all:=⟨_,rfl⟩
 have qall:∀ x∈all,QB 1 x:=fun x hx=>by
  rw [<- hall,hcat] at hx
  simp only [List.mem_append,List.not_mem_nil,or_false] at hx
  rcases hx with h | h | h
  ·exact qa x h
  ·exact qb x h
  ·exact qc x h
 have hany:∀ l:List Rat,(∀ x∈l,QB 1 x)->((l.map qtx).any fun s=>!aY s)=false:=fun l hl=>List.any_eq_false.2 fun s hs=>by
  obtain ⟨x,hx,rfl⟩:=List.mem_map.1 hs
  rw [ratOk_qtx ((hl x hx).le (by decide))];decide
 obtain ⟨A5,c5,rfl,_⟩:=id ha
 obtain ⟨A6,c6,rfl,_⟩:=id hb
 obtain ⟨A7,c7,rfl,_⟩:=id hc
 have hsl:∀ D:Mem,C.le D->∀ x∈[(Value.slice A5 (a.map encR).length c5,a),(Value.slice A6 (b.map encR).length c6,b),(Value.slice A7 (c.map encR).length c7,c)],Sl D 1 x.1 (x.2.map encR):=fun D hD x hx=>by
  simp only [List.mem_cons,List.not_mem_nil,or_false] at hx
  rcases hx with h | h | h
  ·rw [h];exact ha.mono hD
  ·rw [h];exact hb.mono hD
  ·rw [h];exact hc.mono hD
 refine Fn.it kr_ Tryz.func22 24 fun w0=>?_
 refine G.rg fun R hR=>?_
 refine D.aX (fun b1=>?_)
 refine D.q1 1 1 hR ?_
 refine G.freeze 0 rfl (fun C1 hle1 hb1=>?_)
 refine G.aA [(8,3)] rfl (fun R hR=>?_)
 refine D.ae ?_
 refine D.ac (bkT hb1 1) ?_
 refine D.ps 2 ?_
 refine D.ac (bkT hb1 1) ?_
 refine D.ae ?_
 refine D.ac (bkT hb1 1) ?_
 refine D.af [[.slice A5 (a.map encR).length c5],[.slice A6 (b.map encR).length c6],[.slice A7 (c.map encR).length c7]] (fun p11 C11 hle11 hs11=>?_)
 refine D.call (concat_fn _ _ [(.slice A5 (a.map encR).length c5,a),(.slice A6 (b.map encR).length c6,b),(.slice A7 (c.map encR).length c7,c)] (hs11.mono mup) (hsl _ mup) hlen) rfl (.inr (by decide)) rfl rfl rfl rfl rfl rfl (List.Perm.refl _) fl_ (fun v12 C12 L12 hle12 hq12=>?_)
 obtain ⟨A3,n3,c3,rfl,rfl⟩:=hq12
 rw [hall] at hlen ⊢
 refine D.q2 1 1 3 hR ?_
 refine G.rp 1 fun R hR=>?_
 refine D.ac (bkT hb1 1) ?_
 refine D.q3 1 1 3 15 hR ?_
 refine G.bW (fun fr C' L' μ=>∃ (v3:Value)(l:List Rat),(∀ x∈l,QB 1 x)/\fr=[(3,[],v3)]/\L'=[.arr v3 27 1 l.length (l.map encR).flatten]) ?_ (fun fr C15 L15 μ hle15 hI=>?_)
 ·refine G.cd (fun h15=>?_) fun h15=>?_
  ·have h15':kd=1:=by simpa using h15
   obtain ⟨q,rfl,hqv⟩:=hv h15'
   refine G.rp 2 fun R hR=>?_
   refine D.ac (bkT hb1 1) ?_
   refine D.af [[strV (qtx q)]] (fun p19 C19 hle19 hs19=>?_)
   refine D.append (j:=0) rfl rfl rfl rfl rfl rfl rfl rfl rfl rfl rfl hs19 rfl (by simp only [List.length_singleton,maxLen];omega) (by show (all.length+1)*16<=_;omega) fl_ (fun v20=>?_)
   refine D.q1 1 3 hR ?_
   refine G.aM (L':=[.arr v20 27 1 (all++[q]).length ((all++[q]).map encR).flatten]) (by rw [List.map_append,List.flatten_append,List.length_append];rfl) ?_
   refine G.ar 0 mup (h_1 3) ⟨v20,all++[q],fun x hx=>by
    rcases List.mem_append.1 hx with h | h
    ·exact qall x h
    ·rw [List.mem_singleton.1 h];exact hqv,rfl,rfl⟩
  ·refine G.ar 0 (Mem.le.refl _) (h_1 3) ⟨_,all,qall,rfl,rfl⟩
 ·obtain ⟨v3 ,l,hlq,rfl,rfl⟩:=hI
  refine G.freezeArr 0 (l.map encR) rfl rfl bK (by simp) (fun C4 hle4 hob=>?_)
  refine G.rp 1 fun R hR=>?_
  refine D.al (pany_fn _ v3 (l.map qtx) 35 [] (fun s=>!aY s) (by rw [<- bS];exact hob.mono mup) kr_ (fun s hs D hD=>by
   obtain ⟨x,hx,rfl⟩:=List.mem_map.1 hs
   exact pwrong_fn D (hT.mono (Mem.le.trans mup hD)) (qtx x) (Nat.le_trans (aZ (hlq x hx) (by decide)) (by decide)))) rfl rfl rfl rfl rfl rfl rfl fl_ ?_
  refine D.q1 2 2 hR ?_
  refine G.rf ?_
  exact ⟨by rw [hany l hlq];rfl,rfl⟩

theorem SolO.mono {p:Lp.Sys}{cc:Nat->Rat}{D E:Mem}{u:Value}(h:SolO p cc D u)(hl:D.le E):SolO p cc E u:=by
 cases h with
 | opt val pt du vp vd ho h1 h2=>exact .opt val pt du vp vd ho (h1.mono hl) (h2.mono hl)
 | inf du vd hi h1=>exact .inf du vd hi (h1.mono hl)
 | unb pt ra vp vr hu h1 h2=>exact .unb pt ra vp vr hu (h1.mono hl) (h2.mono hl)
theorem solO_form {p:Lp.Sys}{cc:Nat->Rat}{D:Mem}{u:Value}(h:SolO p cc D u):∃ (kd:Int)(val:Str)(vp vd vr:Value)(a b c:List Rat),u=.agg ⟨[.int .i64 kd,strV val,vp,vd,vr]⟩/\Sl D 1 vp (a.map encR)/\Sl D 1 vd (b.map encR)/\Sl D 1 vr (c.map encR) /\
  (∀ x∈a,QB 1 x)/\(∀ x∈b,QB 1 x)/\(∀ x∈c,QB 1 x)/\a.length<=p.n/\b.length<=p.m/\c.length<=p.n/\(kd=1->∃ q,val=qtx q/\QB 1 q):=by
 have hr:∀ (n:Nat)(f:Nat->Rat),(∀ j,QB 1 (f j))->∀ x∈(List.range n).map f,QB 1 x:=fun n f hf x hx=>by
  obtain ⟨j,_,rfl⟩:=List.mem_map.1 hx
  exact hf j
 cases h with
 | opt val pt du vp vd ho h1 h2=>exact ⟨1,qtx val,vp,vd,.slice none 0 0,_,_,[],rfl,h1,h2,Sl.nil _ _,hr _ _ ho.qp,hr _ _ ho.qd,fun x hx=>(by cases hx),by simp,by simp,Nat.zero_le _,fun _=>⟨val,rfl,ho.qv⟩⟩
 | inf du vd hi h1=>exact ⟨2,[],.slice none 0 0,vd,.slice none 0 0,[],_,[],rfl,Sl.nil _ _,h1,Sl.nil _ _,fun x hx=>(by cases hx),hr _ _ hi.qd,fun x hx=>(by cases hx),Nat.zero_le _,by simp,Nat.zero_le _,fun h=>absurd h (by decide)⟩
 | unb pt ra vp vr hu h1 h2=>exact ⟨3,[],vp,.slice none 0 0,vr,_,[],_,rfl,h1,Sl.nil _ _,h2,hr _ _ hu.qp,fun x hx=>(by cases hx),hr _ _ hu.qr,by simp,Nat.zero_le _,by simp,fun h=>absurd h (by decide)⟩
theorem d3 {l:List Rat}(h:∀ x∈l,QB 22 x):(l.map qtx).all aY=true:=List.all_eq_true.2 fun s hs=>by
 obtain ⟨x,hx,rfl⟩:=List.mem_map.1 hs
 exact ratOk_qtx (h x hx)
theorem dS {n:Nat}:∀ {rs:List (List Rat × Rat)},(∀ r∈rs,r.1.length=n)->(∀ r∈rs,(∀ x∈r.1,QB 22 x)/\QB 22 r.2)->eF n (rs.map bd)=0
 | [],_,_=>rfl
 | r::rs,hl,hq=>by
  have e:eF n ((r::rs).map bd)=if rowZ n (bd r)≠0 then rowZ n (bd r) else eF n (rs.map bd):=rfl
  have h0:rowZ n (bd r)=0:=rowZ_zero.2 ⟨bv.2 ⟨by show ((r.1.map qtx).length:Int)=n;rw [List.length_map,hl r List.mem_cons_self],d3 (hq r List.mem_cons_self).1⟩,ratOk_qtx (hq r List.mem_cons_self).2⟩
  rw [e,if_neg fun h=>h h0]
  exact dS (fun r hr=>hl r (List.mem_cons_of_mem _ hr)) fun r hr=>hq r (List.mem_cons_of_mem _ hr)
theorem chkP_right {n:Nat}{rs:List (List Rat × Rat)}{ob:List Rat}(hn:n<=60)(hm:rs.length<=300)(hl:∀ r∈rs,r.1.length=n)(hq:∀ r∈rs,(∀ x∈r.1,QB 22 x)/\QB 22 r.2)(hol:ob.length=n)(hqo:∀ x∈ob,QB 22 x):chkP n (rs.map bd) (ob.map qtx)=0:=by
 unfold chkP
 rw [if_neg om_,if_neg (by rw [List.length_map];omega),if_neg fun h=>h (bv.2 ⟨by rw [List.length_map,hol],d3 hqo⟩)]
 exact dS hl hq
theorem pmin_fn (C:Mem)(hT:Tabs C)(n:Nat)(rv ov:Value)(rs:List (List Rat × Rat))(ob:List Rat)(hr:RowsT C rv (rs.map bd))(ho:Sl C 1 ov (ob.map encR))(hq:RowsQ n rs)(hqo:∀ x∈ob,QB 22 x)(hqr:∀ r∈rs,(∀ x∈r.1,QB 22 x)/\QB 22 r.2)(hn:n<=60)(hol:ob.length=n)(hl:Lp.Lim (cm n rs) (fun j=>ob.getD j 0) 1) :
  Pur cx.P 7 [.agg ⟨[.int .i64 n,rv,ov]⟩] C fun u D=>∃ r,u=.tuple #[r,.int .i64 0]/\SolO (cm n rs) (fun j=>ob.getD j 0) D r:=by
 have hmx:maxLen<=9223372036854775807:=by simp [maxLen]
 have hm:=hq.m
 have hz:chkP n (rs.map bd) (ob.map qtx)=0:=chkP_right hn om_ hq.l hqr hol hqo
 have hck:∀ D:Mem,C.le D->Gives cx.P 20 [.agg ⟨[.int .i64 n,rv,ov]⟩] D (.int .i64 0):=fun D hD=>by
  have h:=pcheck_fn D (hT.mono hD) n rv ov (rs.map bd) (ob.map qtx) (hr.mono hD) (by rw [<- bS];exact ho.mono hD) (fun r hr=>by
   obtain ⟨r,hr0,rfl⟩:=List.mem_map.1 hr
   obtain ⟨h1,h2⟩:=hqr r hr0
   refine ⟨fun s hs=>?_,Nat.le_trans (aZ h2 (by decide)) (by decide)⟩
   obtain ⟨x,hx,rfl⟩:=List.mem_map.1 hs
   exact Nat.le_trans (aZ (h1 x hx) (by decide)) (by decide)) (fun s hs=>by
   obtain ⟨x,hx,rfl⟩:=List.mem_map.1 hs
   exact Nat.le_trans (aZ (hqo x hx) (by decide)) (by decide))
  rw [hz] at h
  exact h
 refine Fn.it kr_ Tryz.func7 19 fun w0=>?_
 refine G.rg fun R hR=>?_
 refine D.aX (fun b1=>?_)
 refine D.aC (fun b2=>?_)
 refine D.q2 1 1 2 hR ?_
 refine G.freeze 1 rfl (fun C1 hle1 hb1=>?_)
 refine G.rg fun R hR=>?_
 refine D.ac (bkT hb1 3) ?_
 refine D.aj (hck _ mup) ?_
 refine D.q3 1 1 2 4 hR ?_
 refine G.z4 2 1 2 4 9 ?_
 refine G.cd (fun h9=>?_) fun h9=>?_
 ·exact absurd h9 (by decide)
 ·refine G.rg fun R hR=>?_
  refine D.ac (bkT hb1 3) ?_
  refine D.ax (solve_fn _ (hT.mono mup) n rv ov rs ob (hr.mono mup) (ho.mono mup) hq om_ hol hl) rfl rfl rfl rfl rfl rfl rfl fl_ (fun v13 C13 hle13 hq13=>?_)
  obtain ⟨kd,val,vp,vd,vr,a,b,c,rfl,ha,hb,hc,qa,qb,qc,hal,hbl,hcl,hv⟩:=solO_form hq13
  obtain ⟨Ap,cp,rfl,_⟩:=id ha
  obtain ⟨Ad,cd,rfl,_⟩:=id hb
  obtain ⟨Ar,cr,rfl,_⟩:=id hc
  refine D.aC (fun b5=>?_)
  refine D.ag (j:=0) ?_
  refine D.e2 2 5 hR ?_
  refine G.freeze 0 rfl (fun C5 hle5 hb5=>?_)
  refine G.rg fun R hR=>?_
  refine D.ac (bkT hb5 5) ?_
  refine D.al (short_fn _ (hT.mono mup) kd val _ _ _ a b c (ha.mono mup) (hb.mono mup) (hc.mono mup) qa qb qc (Nat.le_trans hal (by show n<=_;omega)) (Nat.le_trans hbl (by show rs.length<=_;omega)) (Nat.le_trans hcl (by show n<=_;omega)) hv) rfl rfl rfl rfl rfl rfl rfl fl_ ?_
  refine D.q3 1 2 5 16 hR ?_
  refine G.cd (fun h16=>?_) fun h16=>?_
  ·exact absurd h16 (by decide)
  ·refine G.rg fun R hR=>?_
   refine D.ac (bkT hb5 5) ?_
   refine D.ag (j:=0) ?_
   refine D.q2 1 2 3 hR ?_
   refine G.ay (G.eY (.head _) rfl rfl rfl rfl rfl ?_)
   exact ⟨rfl,_,rfl,hq13.mono mup⟩



theorem sg_div (z:Int){g:Nat}(hg:g ∣ z.natAbs):sgZ (decide (z<0) != false) (z.natAbs / g)=z / (g:Int):=by
 obtain ⟨m,hm⟩:=hg
 rcases Nat.eq_zero_or_pos g with h | hg0
 ·subst h
  have hz:z=0:=by omega
  subst hz
  rfl
 rw [hm,Nat.mul_div_cancel_left _ hg0,Bool.bne_false]
 unfold sgZ
 by_cases hz:z<0
 ·rw [decide_eq_true hz,if_pos rfl,show z=(g:Int)*(-(m:Int)) by rw [Int.mul_neg,<- Int.natCast_mul];omega,Int.mul_ediv_cancel_left _ om_]
 ·rw [decide_eq_false hz,if_neg (by decide),show z=(g:Int)*(m:Int) by rw [<- Int.natCast_mul];omega,Int.mul_ediv_cancel_left _ om_]
theorem divmod_ex_fn (C:Mem)(hT:Tabs C)(z:Int)(b:Nat)(ha:z.natAbs<BP ^ 200)(hb:b<BP ^ 200)(hb0:0<b)(hd:b ∣ z.natAbs):Gives cx.P 105 [strV (txt z),strV (decS b)] C (.tuple #[strV (txt (z / (b:Int))),strV (decS 0)]):=by
 have hBl:=BP_lt
 have hm0:z.natAbs % b=0:=Nat.mod_eq_zero_of_dvd hd
 have hdi:(b:Int) ∣ z:=Int.dvd_natAbs.1 (Int.natCast_dvd_natCast.2 hd)
 have hq:(z / (b:Int)).natAbs<=z.natAbs:=by
  rw [Int.natAbs_ediv_of_dvd hdi,Int.natAbs_natCast]
  exact Nat.div_le_self _ _
 refine Fn.it kr_ Tryz.func105 93 fun w0=>?_
 refine G.z2 2 0 1 ?_
 refine G.rp 1 fun R hR=>?_
 refine D.aj (brief_fn C z) ?_
 refine D.q4 5 0 1 6 7 hR ?_
 refine G.rp 1 fun R hR=>?_
 refine D.aj (brief_dec _ b) ?_
 refine D.q6 5 0 1 6 7 8 9 hR ?_
 refine G.rp 3 fun R hR=>?_
 refine D.au ?_
 refine D.e5 0 1 6 8 31 hR ?_
 refine G.cd (fun h31=>?_) fun h31=>?_
 ·have hs:(decS z.natAbs).length<=17/\(decS b).length<=17:=by simpa using h31
  have h1:=brief_lt hs.1
  have h2:=briefN_lt hs.2
  rw [if_pos hs.1,if_pos hs.2]
  refine G.aH [0,1,2,3,4,5,6,7] [] rfl kr_ (fun R hB hR=>?_)
  refine D.ps 2 ?_
  refine D.quoT (z / (b:Int)) rfl rfl rfl rfl rfl rfl om_ (quotT_dvd hd) (wrap_i64 om_ om_) rfl rfl ?_
  refine D.ps 2 ?_
  refine D.remZ 0 rfl rfl rfl rfl rfl rfl om_ (Int.tmod_eq_zero_of_dvd hdi) rfl rfl ?_
  refine D.q4 2 6 8 10 11 hR ?_
  refine G.z5 2 6 8 10 11 39 ?_
  refine G.cd (fun h39=>?_) fun h39=>?_
  ·exfalso
   simp at h39
  ·refine G.rp 1 fun R hR=>?_
   refine D.al (of_ref_fn _ hT (z / (b:Int)) om_ om_) rfl rfl rfl rfl rfl rfl rfl fl_ ?_
   refine D.ae ?_
   refine D.al (of_dec _ hT 0 om_) rfl rfl rfl rfl rfl rfl rfl fl_ ?_
   refine D.q2 2 4 5 hR ?_
   refine G.ay (G.dropAll (G.bg rfl rfl rfl ?_))
   exact ⟨rfl,rfl⟩
 ·refine G.rp 1 fun R hR=>?_
  refine D.aj (split_txt _ z) ?_
  refine D.q3 5 1 12 13 hR ?_
  refine G.rp 1 fun R hR=>?_
  refine D.aj (split_dec _ b) ?_
  refine D.q4 5 12 13 14 15 hR ?_
  refine G.rp 1 fun R hR=>?_
  refine D.aS (takeN_fn _ z.natAbs ha) (fun v67 C67 hle67 hq67=>?_)
  obtain ⟨lp,hcp,hvp,hlp,hsp⟩:=hq67
  refine D.ae ?_
  refine D.aS (takeN_fn _ b hb) (fun v69 C69 hle69 hq69=>?_)
  obtain ⟨lq,hcq,hvq,hlq,hsq⟩:=hq69
  refine D.ax (parts_fn _ _ _ lp lq (hsp.mono mup) (hsq.mono mup) hcp.1 hcq om_ om_ om_) rfl rfl rfl rfl rfl rfl rfl fl_ (fun v70 C70 hle70 hq70=>?_)
  obtain ⟨u1,u2,rfl,hu1,hu2⟩:=hq70
  rw [hvp,hvq] at hu1 hu2
  rw [hm0] at hu2
  obtain ⟨l1,hc1,hv1,hl1,hs1⟩:=PieC.take hu1 (by have:=Nat.div_le_self z.natAbs b;omega)
  obtain ⟨l2,hc2,hv2,hl2,hs2⟩:=PieC.take hu2 om_
  obtain ⟨A2,c2,rfl,_⟩:=id hs2
  obtain rfl:=(canP_nil hc2).1 hv2
  refine D.q5 5 12 14 15 16 17 hR ?_
  refine G.rp 5 fun R hR=>?_
  refine D.au ?_
  refine D.e6 12 14 15 16 17 78 hR ?_
  refine G.cd (fun h78=>?_) fun h78=>?_
  ·exfalso
   simp at h78
  ·refine G.rp 4 fun R hR=>?_
   refine D.al (made_fn _ (hT.mono mup) _ _ l1 (hs1.mono mup) hc1.1 om_) rfl rfl rfl rfl rfl rfl rfl fl_ ?_
   refine D.ae ?_
   refine D.al (made_dec _ (hT.mono mup) _ [] (hs2.mono mup) hc2.1 (by simp)) rfl rfl rfl rfl rfl rfl rfl fl_ ?_
   refine D.q2 2 4 5 hR ?_
   refine G.ay (G.dropAll (G.bg rfl rfl rfl ?_))
   refine ⟨?_,rfl⟩
   show Value.tuple #[strV (txt (sgZ (decide (z<0) != false) (valP l1))),_]=_
   rw [hv1,sg_div z hd]
   rfl


theorem abs_lt_of {z:Int}{m:Nat}(h:z.natAbs<m)(g:Nat)(hd:g ∣ z.natAbs):(z / (g:Int)).natAbs<m:=by
 rw [Int.natAbs_ediv_of_dvd (Int.dvd_natAbs.1 (Int.natCast_dvd_natCast.2 hd)),Int.natAbs_natCast]
 exact Nat.lt_of_le_of_lt (Nat.div_le_self _ _) h
theorem gcd_ref2 (C:Mem)(hT:Tabs C)(y:Int)(d:Nat)(hy:y.natAbs<BP ^ 200)(hd:d<BP ^ 200):Gives cx.P 104 [strV (txt y),strV (decS d)] C (strV (decS (Nat.gcd y.natAbs d))):=by
 have h:=gcd_ref_fn C hT y (d:Nat) hy om_
 rwa [cH,Int.natAbs_natCast] at h

theorem make3_fn (C:Mem)(hT:Tabs C)(y:Int)(d:Nat)(hy:y.natAbs<1000000)(hd:d<1000000)(hd0:d≠0):Gives cx.P 51 [strV (txt y),strV (decS d)] C (strV (qtx (mkRat y d))):=by
 have hBP:1000000<=BP ^ 200:=by decide +kernel
 obtain ⟨g,hg⟩:∃ g,Nat.gcd y.natAbs d=g:=⟨_,rfl⟩
 have hg0:0<g:=by rw [<- hg];exact Nat.gcd_pos_of_pos_right _ om_
 have hgd:g ∣ d:=by rw [<- hg];exact Nat.gcd_dvd_right _ _
 have hgy:g ∣ y.natAbs:=by rw [<- hg];exact Nat.gcd_dvd_left _ _
 have hgl:g<=d:=Nat.le_of_dvd om_ hgd
 rw [qtx_mk hd0,hg]
 have hyl:=abs_lt_of (z:=y) (m:=BP ^ 200) om_ g hgy
 have hyl2:=decS_short hyl
 have hdl:d / g<BP ^ 200:=Nat.lt_of_le_of_lt (Nat.div_le_self _ _) om_
 have hdl2:=decS_short hdl
 have hT1:=txt_len (y / (g:Int))
 refine Fn.it kr_ Tryz.func51 28 fun w0=>?_
 refine G.z2 1 0 1 ?_
 refine G.rp 2 fun R hR=>?_
 refine D.al (gcd_ref2 _ (hT.mono mup) y d om_ om_) rfl rfl rfl rfl rfl rfl rfl fl_ ?_
 refine D.q3 1 0 1 5 hR ?_
 rw [hg]
 refine G.rp 2 fun R hR=>?_
 refine D.al (divmod_ex_fn _ (hT.mono mup) y g om_ om_ hg0 hgy) rfl rfl rfl rfl rfl rfl rfl fl_ ?_
 refine D.q3 4 0 1 5 hR ?_
 refine G.rp 2 fun R hR=>?_
 refine D.al (divmod_ref_fn _ (hT.mono mup) d g om_ om_ hg0) rfl rfl rfl rfl rfl rfl rfl fl_ ?_
 refine D.q2 4 0 1 hR ?_
 refine G.z3 2 0 1 22 ?_
 refine G.cd (fun h22=>?_) fun h22=>?_
 ·have h1:d / g=1:=by rw [decEq1] at h22;exact of_decide_eq_true h22
  refine G.z1 2 4 ?_
  refine G.rf ?_
  refine ⟨?_,rfl⟩
  rw [dens_one h1]
  simp [dh]
 ·have h1:d / g≠1:=by rw [decEq1] at h22;exact of_decide_eq_false h22
  refine G.rp 1 fun R hR=>?_
  refine D.dr rfl rfl rfl rfl rfl rfl (fun _=>(by simp only [List.length_cons,List.length_nil];omega)) rfl rfl ?_
  refine D.ae ?_
  refine D.dr rfl rfl rfl rfl rfl rfl (fun _=>(by simp only [List.length_append,List.length_cons,List.length_nil];omega)) rfl rfl ?_
  refine D.q1 1 4 hR ?_
  refine G.rf ?_
  refine ⟨?_,rfl⟩
  rw [dZ h1,List.append_assoc]
  rfl
theorem number7_fn (C:Mem)(hT:Tabs C)(y:Int)(d:Nat)(hy:y.natAbs<1000000)(hd:d<1000000)(hd0:d≠0):Gives cx.P 19 [.int .i64 y,.int .i64 d] C (strV (qtx (mkRat y d))):=by
 refine Fn.it kr_ Tryz.func19 10 fun w0=>?_
 refine G.z2 1 0 1 ?_
 refine G.rp 1 fun R hR=>?_
 refine D.al (of_ref_fn _ (hT.mono mup) y om_ om_) rfl rfl rfl rfl rfl rfl rfl fl_ ?_
 refine D.ae ?_
 refine D.al (of_ref_fn _ (hT.mono mup) (d:Nat) om_ om_) rfl rfl rfl rfl rfl rfl rfl fl_ ?_
 rw [cH]
 refine D.aj (make3_fn _ (hT.mono mup) y d hy hd hd0) ?_
 refine D.q1 1 4 hR ?_
 refine G.rf ?_
 exact ⟨rfl,rfl⟩
def facL (l:List Int)(n:Nat):List Rat:=(List.range n).map fun j=>mkRat ((l.getD j 0).tmod 10) 1
theorem facL_next {l:List Int}{n:Nat}:facL l (n+1)=facL l n++[mkRat ((l.getD n 0).tmod 10) 1]:=by unfold facL;rw [List.range_succ,List.map_append];rfl
theorem eC {z q:Int}(hq:0<q):(z.tmod q).natAbs<q.natAbs:=by
 rw [Int.natAbs_tmod]
 exact Nat.mod_lt _ om_
theorem list7_fn (C:Mem)(hT:Tabs C)(a0 a1 a2:Int)(n:Nat)(hn:n<=3)(h0:-128<=a0/\a0<=127)(h1:-128<=a1/\a1<=127)(h2:-128<=a2/\a2<=127) :
  Pur cx.P 18 [.agg ⟨[.int .i8 a0,.int .i8 a1,.int .i8 a2]⟩,.int .i64 n] C fun u D=>∃ A n2 c,u=.slice A n2 c/\Sl D 1 (.slice A n2 c) ((facL [a0,a1,a2] n).map encR):=by
 have hmx:maxLen<=9223372036854775807:=by simp [maxLen]
 have hm0:=eC (z:=a0) (q:=10) (by decide)
 have hm1:=eC (z:=a1) (q:=10) (by decide)
 have hm2:=eC (z:=a2) (q:=10) (by decide)
 refine Fn.it kr_ Tryz.func18 23 fun w0=>?_
 refine G.rg fun R hR=>?_
 refine D.aX (fun b2=>?_)
 refine D.q2 1 1 2 hR ?_
 refine G.rg fun R hR=>?_
 refine D.bw [] rfl rfl rfl rfl rfl rfl rfl rfl rfl rfl rfl rfl fl_ (fun b7=>?_)
 refine D.q3 1 1 2 5 hR ?_
 refine G.z4 1 1 2 5 6 ?_
 refine G.freeze 1 rfl (fun C2 hle2 hb2=>?_)
 refine G.loop (fun fr C' L' μ=>∃ (j:Nat)(A:Option Addr)(m c:Nat),(j<=n)/\fr=[(1,[],.int .i64 n),(2,[],.pointer (some ⟨b2,0,none⟩)),(5,[],.slice A m c),(6,[],.int .i64 j)]/\L'=[.arr (.slice A m c) 27 1 j ((facL [a0,a1,a2] j).map encR).flatten]/\μ=n-j) (h_4 1 2 5 6) ⟨0,_,_,_,Nat.zero_le _,rfl,rfl,rfl⟩ (fun fr C0' L0' m hle0 hI=>?_)
 obtain ⟨j,A,m,c,hj,rfl,rfl,rfl⟩:=hI
 refine G.z5 3 1 2 5 6 10 ?_
 refine G.cd (fun h10=>?_) fun h10=>?_
 ·have hjn:j<n:=by
   have:=of_decide_eq_true h10
   omega
  rcases (by omega:j=0∨j=1∨j=2) with rfl | rfl | rfl
  ·refine G.rp 2 fun R hR=>?_
   refine D.indexP (_) rfl rfl rfl rfl rfl rfl rfl rfl rfl (fun _=>⟨by decide,by decide,rfl⟩) rfl rfl ?_
   refine D.ac (bkT hb2 1) ?_
   refine D.bT (c:=a0) rfl rfl rfl rfl rfl rfl rfl rfl (by rw [IntKind.wrap_i64];omega) fl_ ?_
   refine D.remZ (a0.tmod 10) rfl rfl rfl rfl rfl rfl (by decide) rfl rfl rfl ?_
   refine D.al (number7_fn _ (hT.mono mup) (a0.tmod 10) 1 om_ (by decide) (by decide)) rfl rfl rfl rfl rfl rfl rfl fl_ ?_
   refine D.af [[strV (qtx (mkRat (a0.tmod 10) 1))]] (fun p20 C20 hle20 hs20=>?_)
   refine D.ai (j:=0) rfl rfl rfl rfl rfl rfl rfl rfl rfl rfl rfl hs20 rfl (by simp only [List.length_singleton,maxLen];omega) (by simp) fl_ (fun A21 n21 c21=>?_)
   refine D.q4 1 1 2 5 6 hR ?_
   refine G.rp 1 fun R hR=>?_
   refine D.aq _ ?_
   refine D.q4 1 1 2 5 6 hR ?_
   refine G.aM (L':=[.arr (.slice A21 n21 c21) 27 1 (0+1) ((facL [a0,a1,a2] (0+1)).map encR).flatten]) (by rw [facL_next,List.map_append,List.flatten_append];rfl) ?_
   refine G.ap (m':=n-(0+1)) om_ mup (h_4 1 2 5 6) ⟨0+1,A21,n21,c21,om_,rfl,rfl,rfl⟩
  ·refine G.rp 2 fun R hR=>?_
   refine D.indexP (_) rfl rfl rfl rfl rfl rfl rfl rfl rfl (fun _=>⟨by decide,by decide,rfl⟩) rfl rfl ?_
   refine D.ac (bkT hb2 1) ?_
   refine D.bT (c:=a1) rfl rfl rfl rfl rfl rfl rfl rfl (by rw [IntKind.wrap_i64];omega) fl_ ?_
   refine D.remZ (a1.tmod 10) rfl rfl rfl rfl rfl rfl (by decide) rfl rfl rfl ?_
   refine D.al (number7_fn _ (hT.mono mup) (a1.tmod 10) 1 om_ (by decide) (by decide)) rfl rfl rfl rfl rfl rfl rfl fl_ ?_
   refine D.af [[strV (qtx (mkRat (a1.tmod 10) 1))]] (fun p20 C20 hle20 hs20=>?_)
   refine D.ai (j:=0) rfl rfl rfl rfl rfl rfl rfl rfl rfl rfl rfl hs20 rfl (by simp only [List.length_singleton,maxLen];omega) (by simp) fl_ (fun A21 n21 c21=>?_)
   refine D.q4 1 1 2 5 6 hR ?_
   refine G.rp 1 fun R hR=>?_
   refine D.aq _ ?_
   refine D.q4 1 1 2 5 6 hR ?_
   refine G.aM (L':=[.arr (.slice A21 n21 c21) 27 1 (1+1) ((facL [a0,a1,a2] (1+1)).map encR).flatten]) (by rw [facL_next,List.map_append,List.flatten_append];rfl) ?_
   refine G.ap (m':=n-(1+1)) om_ mup (h_4 1 2 5 6) ⟨1+1,A21,n21,c21,om_,rfl,rfl,rfl⟩
  ·refine G.rp 2 fun R hR=>?_
   refine D.indexP (_) rfl rfl rfl rfl rfl rfl rfl rfl rfl (fun _=>⟨by decide,by decide,rfl⟩) rfl rfl ?_
   refine D.ac (bkT hb2 1) ?_
   refine D.bT (c:=a2) rfl rfl rfl rfl rfl rfl rfl rfl (by rw [IntKind.wrap_i64];omega) fl_ ?_
   refine D.remZ (a2.tmod 10) rfl rfl rfl rfl rfl rfl (by decide) rfl rfl rfl ?_
   refine D.al (number7_fn _ (hT.mono mup) (a2.tmod 10) 1 om_ (by decide) (by decide)) rfl rfl rfl rfl rfl rfl rfl fl_ ?_
   refine D.af [[strV (qtx (mkRat (a2.tmod 10) 1))]] (fun p20 C20 hle20 hs20=>?_)
   refine D.ai (j:=0) rfl rfl rfl rfl rfl rfl rfl rfl rfl rfl rfl hs20 rfl (by simp only [List.length_singleton,maxLen];omega) (by simp) fl_ (fun A21 n21 c21=>?_)
   refine D.q4 1 1 2 5 6 hR ?_
   refine G.rp 1 fun R hR=>?_
   refine D.aq _ ?_
   refine D.q4 1 1 2 5 6 hR ?_
   refine G.aM (L':=[.arr (.slice A21 n21 c21) 27 1 (2+1) ((facL [a0,a1,a2] (2+1)).map encR).flatten]) (by rw [facL_next,List.map_append,List.flatten_append];rfl) ?_
   refine G.ap (m':=n-(2+1)) om_ mup (h_4 1 2 5 6) ⟨2+1,A21,n21,c21,om_,rfl,rfl,rfl⟩
 ·have hjn:j=n:=by
   have:=of_decide_eq_false h10
   omega
  refine G.z1 2 4 ?_
  refine G.freezeArr 0 ((facL [a0,a1,a2] j).map encR) rfl rfl bK (by simp [facL]) (fun C9 hle9 hob=>?_)
  refine G.rf ?_
  exact ⟨rfl,A,m,c,rfl,by rw [hjn] at hob;exact hob⟩

structure PRow where
 a:Int
 b:Int
 c:Int
 d:Int
def PRow.enc (r:PRow):List Value:=[.int .i8 r.a,.int .i8 r.b,.int .i8 r.c,.int .i8 r.d]
def i8R (z:Int):Prop:=-128<=z/\z<=127
def PRow.ok (r:PRow):Prop:=i8R r.a/\i8R r.b/\i8R r.c/\i8R r.d
def aR (n:Nat)(r:PRow):List Rat × Rat:=(facL [r.a,r.b,r.c] n,mkRat (r.d.tmod 41) 2)
abbrev sR (A:Option Addr)(n c:Nat):Value:=.slice A n c
theorem make7_fn (C:Mem)(hT:Tabs C)(v:Nat)(rv:Value)(rows:List PRow)(o0 o1 o2:Int)(hr:Sl C 4 rv (rows.map PRow.enc))(hl:rows.length<=6)(hok:∀ r∈rows,r.ok)(h0:i8R o0)(h1:i8R o1)(h2:i8R o2)(_hv:v<256) :
  Pur cx.P 6 [.agg ⟨[.int .u8 v,rv,.int .i8 o0,.int .i8 o1,.int .i8 o2]⟩] C fun u D=>∃ rv ov,u=.agg ⟨[.int .i64 (v % 4:Nat),rv,ov]⟩/\RowsT D rv ((rows.map (aR (v % 4))).map bd)/\Sl D 1 ov ((facL [o0,o1,o2] (v % 4)).map encR):=by
 obtain ⟨A0,c0,rfl,hc1,hc2,_⟩:=id hr
 have hmx:maxLen<=9223372036854775807:=by simp [maxLen]
 simp only [List.length_map] at hr hc1 ⊢
 obtain ⟨n,hn⟩:∃ n,v % 4=n:=⟨_,rfl⟩
 have hn3:n<=3:=by omega
 rw [hn]
 refine Fn.it kr_ Tryz.func6 66 fun w0=>?_
 refine G.rg fun R hR=>?_
 refine D.aX (fun b1=>?_)
 refine D.aC (fun b2=>?_)
 refine D.e2 1 2 hR ?_
 refine G.freeze 1 rfl (fun C1 hle1 hb1=>?_)
 refine G.rp 1 fun R hR=>?_
 refine D.ac (bkT hb1 1) ?_
 refine D.remN v 4 rfl rfl rfl rfl rfl rfl (by decide) rfl rfl ?_
 refine D.bT (c:=(n:Int)) rfl rfl rfl rfl rfl rfl rfl rfl (by rw [hn,IntKind.wrap_i64];omega) fl_ ?_
 refine D.q3 1 1 2 3 hR ?_
 refine G.rp 2 fun R hR=>?_
 refine D.ac (bkT hb1 3) ?_
 refine D.ae ?_
 refine D.aS (list7_fn _ (hT.mono mup) o0 o1 o2 n hn3 h0 h1 h2) (fun v15 C15 hle15 hq15=>?_)
 obtain ⟨Ao,no,co,rfl,ho⟩:=hq15
 refine D.build [.int .i64 n,.slice none 0 0,.slice Ao no co] rfl rfl rfl rfl rfl rfl rfl rfl ?_
 refine D.aC (fun b4=>?_)
 refine D.ag (j:=0) ?_
 refine D.e4 1 2 3 4 hR ?_
 refine G.z5 1 1 2 3 4 5 ?_
 refine G.nilArr 59 2 ?_
 refine G.loop (fun fr C' L' μ=>∃ (i:Nat)(A:Option Addr)(m c:Nat)(ws:List Value),(i<=rows.length/\ws.length=i/\∀ (q:Nat)(w:Value)(r:PRow),ws[q]?=some w->rows[q]?=some r->Sl C' 1 w ((aR n r).1.map encR))/\fr=[(1,[],.pointer (some ⟨b1,0,none⟩)),(2,[],.pointer (some ⟨b2,0,none⟩)),(3,[],.int .i64 n),(4,[],.pointer (some ⟨b4,0,none⟩)),(5,[],.int .i64 i)]/\L'=[.arr (sR A m c) 59 2 i (List.zipWith (fun w r=>[w,strV (qtx (aR n r).2)]) ws (rows.take i)).flatten,.obj b4 (.cells ⟨[.int .i64 n,.slice A m c,.slice Ao no co]⟩ 35 (0,0)),.obj b2 (.cells ⟨[.int .i64 0,.slice none 0 0,.slice none 0 0]⟩ 35 (0,0))]/\μ=rows.length-i) (h_5 1 2 3 4 5) ⟨0,none,0,0,[],⟨Nat.zero_le _,rfl,fun q w r h=>by simp at h⟩,rfl,rfl,rfl⟩ (fun fr C0' L0' m hle0 hI=>?_)
 obtain ⟨i,A,m,c,ws,⟨hi,hwl,hws⟩,rfl,rfl,rfl⟩:=hI
 refine G.rp 2 fun R hR=>?_
 refine D.ac (bkT hb1 1) ?_
 refine D.ps 5 ?_
 refine D.au ?_
 refine D.e6 1 2 3 4 5 25 hR ?_
 refine G.cd (fun h25=>?_) fun h25=>?_
 ·have hil:i<rows.length:=by
   have h25':(decide ((i:Int)<(rows.length:Int)) && decide ((i:Int)<6))=true:=h25
   simp only [Bool.and_eq_true,decide_eq_true_eq] at h25'
   omega
  obtain ⟨r,hri⟩:∃ r,rows[i]?=some r:=⟨rows[i],List.getElem?_eq_getElem hil⟩
  obtain ⟨ra,rb,rc,rd⟩:=r
  obtain ⟨ha,hb,hc,hd⟩:=hok _ (List.mem_of_getElem? hri)
  simp only at ha hb hc hd
  have hd2:-128<=rd/\rd<=127:=hd
  have hm:=eC (z:=rd) (q:=41) (by decide)
  have hrow:(rows.map PRow.enc)[i]?=some [.int .i8 ra,.int .i8 rb,.int .i8 rc,.int .i8 rd]:=by rw [List.getElem?_map,hri];rfl
  have htk:rows.take (i+1)=rows.take i++[⟨ra,rb,rc,rd⟩]:=by rw [List.take_add_one,hri];rfl
  refine G.aH [0,1,2,3,4,5,6,7,8,9,10,11,12,13,14,15,16,17,18,19,20] [] rfl kr_ (fun R hB hR=>?_)
  refine D.ae ?_
  refine D.ac (bkT hb1 1) ?_
  refine D.ae ?_
  refine D.ak (hr.mono mup) rfl rfl rfl rfl rfl rfl rfl rfl rfl rfl om_ hrow fl_ (fun p31 hp31=>?_)
  refine D.indexA rfl rfl rfl rfl rfl rfl rfl rfl rfl (fun _=>hp31) (fun _=>⟨by omega,om_⟩) fl_ rfl (fun p32 hp320=>?_)
  have hp32:=hp320 trivial
  refine D.ac hp32 ?_
  refine D.ae ?_
  refine D.ac (bkT hb1 1) ?_
  refine D.ae ?_
  refine D.ak (hr.mono mup) rfl rfl rfl rfl rfl rfl rfl rfl rfl rfl om_ hrow fl_ (fun p37 hp37=>?_)
  refine D.indexA rfl rfl rfl rfl rfl rfl rfl rfl rfl (fun _=>hp37) (fun _=>⟨by omega,om_⟩) fl_ rfl (fun p38 hp380=>?_)
  have hp38:=hp380 trivial
  refine D.ac hp38 ?_
  refine D.ae ?_
  refine D.ac (bkT hb1 1) ?_
  refine D.ae ?_
  refine D.ak (hr.mono mup) rfl rfl rfl rfl rfl rfl rfl rfl rfl rfl om_ hrow fl_ (fun p43 hp43=>?_)
  refine D.indexA rfl rfl rfl rfl rfl rfl rfl rfl rfl (fun _=>hp43) (fun _=>⟨by omega,om_⟩) fl_ rfl (fun p44 hp440=>?_)
  have hp44:=hp440 trivial
  refine D.ac hp44 ?_
  refine D.build [.int .i8 ra,.int .i8 rb,.int .i8 rc] rfl rfl rfl rfl rfl rfl rfl rfl ?_
  refine D.aC (fun b6=>?_)
  refine D.ag (j:=0) ?_
  refine D.e6 1 2 3 4 5 6 hR ?_
  refine G.freeze 0 rfl (fun C6 hle6 hb6=>?_)
  refine G.aH [0,1,2,3,5,6,7,8,9,10,11,12,4,13,14,15,16,17,18] [(13,1),(11,0)] rfl kr_ (fun R hB hR=>?_)
  refine D.ae ?_
  refine D.ah (.tail _ (.head _)) ?_
  refine D.ac (bkT hb6 3) ?_
  refine D.ps 2 ?_
  refine D.ac (bkT hb1 1) ?_
  refine D.ae ?_
  refine D.ak (hr.mono mup) rfl rfl rfl rfl rfl rfl rfl rfl rfl rfl om_ hrow fl_ (fun p55 hp55=>?_)
  refine D.indexA rfl rfl rfl rfl rfl rfl rfl rfl rfl (fun _=>hp55) (fun _=>⟨by omega,om_⟩) fl_ rfl (fun p56 hp560=>?_)
  have hp56:=hp560 trivial
  refine D.ac hp56 ?_
  refine D.convQ (c:=rd) rfl rfl rfl rfl rfl rfl rfl rfl (by rw [IntKind.wrap_i64];omega) rfl rfl ?_
  refine D.remZ (rd.tmod 41) rfl rfl rfl rfl rfl rfl (by decide) rfl rfl rfl ?_
  refine D.aS (list7_fn _ (hT.mono mup) ra rb rc n hn3 ha hb hc) (fun v51 C51 hle51 hq51=>?_)
  refine D.a6 (fun _=>(number7_fn _ (hT.mono mup) (rd.tmod 41) 2 om_ (by decide) (by decide))) rfl rfl rfl rfl rfl rfl rfl rfl rfl ?_
  obtain ⟨Aw,nw,cw,rfl,hw⟩:=hq51
  refine D.build [.slice Aw nw cw,strV (qtx (mkRat (rd.tmod 41) 2))] rfl rfl rfl rfl rfl rfl rfl rfl ?_
  refine D.af [[.slice Aw nw cw,strV (qtx (mkRat (rd.tmod 41) 2))]] (fun p62 C62 hle62 hs62=>?_)
  refine D.ai (j:=0) rfl rfl rfl rfl rfl rfl rfl rfl rfl rfl rfl (hs62.mono mup) rfl (by simp only [List.length_singleton,maxLen];omega) (by show (i+1)*40<=_;omega) fl_ (fun A63 n63 c63=>?_)
  refine D.ae ?_
  refine D.ag (j:=1) ?_
  refine D.e5 1 2 3 4 5 hR ?_
  refine G.rp 1 fun R hR=>?_
  refine D.aq _ ?_
  refine D.q5 1 1 2 3 4 5 hR ?_
  refine G.perm (L':=[.arr (sR A63 n63 c63) 59 2 (i+1) (List.zipWith (fun w r=>[w,strV (qtx (aR n r).2)]) (ws++[.slice Aw nw cw]) (rows.take (i+1))).flatten,.obj b4 (.cells ⟨[.int .i64 n,.slice A63 n63 c63,.slice Ao no co]⟩ 35 (0,0)),.obj b2 (.cells ⟨[.int .i64 0,.slice none 0 0,.slice none 0 0]⟩ 35 (0,0))]) (by
   rw [htk,List.zipWith_append (by rw [List.length_take];omega),List.flatten_append]
   exact List.Perm.swap _ _ _) ?_
  refine G.ap (m':=rows.length-(i+1)) om_ mup (h_5 1 2 3 4 5) ⟨i+1,A63,n63,c63,ws++[.slice Aw nw cw],⟨by omega,by simp [hwl],fun q w r h1 h2=>by
   by_cases hq:q<i
   ·rw [List.getElem?_append_left om_] at h1
    exact (hws q w r h1 h2).mono mup
   ·rw [List.getElem?_append_right om_] at h1
    have hq0:q-ws.length=0:=by
     have:=(List.getElem?_eq_some_iff.1 h1).1
     simp at this
     omega
    rw [hq0] at h1
    cases h1
    have hqi:q=i:=by omega
    rw [hqi,hri] at h2
    cases h2
    exact hw.mono mup⟩,rfl,rfl,rfl⟩
 ·have hil:i=rows.length:=by
   have h25':(decide ((i:Int)<(rows.length:Int)) && decide ((i:Int)<6))=false:=h25
   simp only [Bool.and_eq_false_iff,decide_eq_false_iff_not] at h25'
   omega
  have hzl:(List.zipWith (fun w r=>[w,strV (qtx (aR n r).2)]) ws (rows.take i)).length=i:=by rw [List.length_zipWith,List.length_take];omega
  refine G.freezeArr 0 (List.zipWith (fun w r=>[w,strV (qtx (aR n r).2)]) ws (rows.take i)) rfl rfl (fun r hr=>by
   obtain ⟨q,hq,rfl⟩:=List.mem_iff_getElem.1 hr
   rw [List.getElem_zipWith];rfl) hzl (fun C8 hle8 hob=>?_)
  refine G.rg fun R hR=>?_
  refine D.ah (.head _) ?_
  refine D.ag (j:=1) ?_
  refine D.e1 2 hR ?_
  refine G.ay (G.dz (.head _) rfl rfl rfl rfl ?_)
  refine ⟨rfl,.slice A m c,.slice Ao no co,rfl,⟨ws,by simp [hwl,hil],fun q w r h1 h2=>?_, ?_⟩,ho.mono mup⟩
  ·rw [List.getElem?_map,List.getElem?_map] at h2
   cases hx:rows[q]? with
   | none=>rw [hx] at h2;cases h2
   | some x =>
    rw [hx] at h2
    cases h2
    have:=(hws q w x h1 hx).mono (D:=C8) mup
    rw [bS] at this
    exact this
  ·rw [List.map_map,List.zipWith_map_right]
   rw [hil,List.take_length] at hob
   exact hob.mono mup

def OneB (l:List Rat):Prop:=∃ i,∀ k,QB (if k=i then 3 else 1) (l.getD k 0)
theorem oneB_23 {l:List Rat}(h:OneB l):∀ x∈l,QB 23 x:=fun x hx=>by
 obtain ⟨i,h⟩:=h
 obtain ⟨k,hk,rfl⟩:=List.mem_iff_getElem.1 hx
 have h1:=h k
 rw [List.getD_eq_getElem?_getD,List.getElem?_eq_getElem hk] at h1
 exact h1.le (by split <;> omega)
theorem sum_q {f g:Nat->Rat}{i:Nat}(hf:∀ k,QB (if k=i then 3 else 1) (f k))(hg:∀ k,QB 1 (g k)):∀ m,QB (1+3*m+if i<m then 2 else 0) (Lp.sumN (fun k=>f k*g k) m)
 | 0=>(show QB 1 (0:Rat) from ⟨by decide,by decide⟩).le om_
 | m+1=>by
  have h1:=sum_q hf hg m
  have h2:=dV (hf m) (hg m)
  refine (pQB_add h1 h2).le ?_
  by_cases hm:m=i
  ·rw [if_pos hm,if_neg om_,if_pos om_];omega
  ·rw [if_neg hm]
   by_cases h3:i<m
   ·rw [if_pos h3,if_pos om_];omega
   ·rw [if_neg h3,if_neg om_];omega
theorem vio_zero {n:Nat}{rs:List (List Rat × Rat)}{ps:List Rat}:∀ i,(vioF rs ps n i).length=0 ↔ ∀ k,k<i->dotQ (rs.getD k ([],0)).1 ps n<=(rs.getD k ([],0)).2:=by
 intro i
 induction i with
 | zero=>exact ⟨fun _ k hk=>absurd hk (Nat.not_lt_zero _),fun _=>rfl⟩
 | succ i ih =>
  unfold vioF
  by_cases h:(rs.getD i ([],0)).2<dotQ (rs.getD i ([],0)).1 ps n
  ·rw [if_pos h]
   refine ⟨fun h2=>by simp at h2,fun h2=>?_⟩
   have:=h2 i (Nat.lt_succ_self _)
   grind
  ·rw [if_neg h,ih]
   refine ⟨fun h2 k hk=>?_,fun h2 k hk=>h2 k om_⟩
   rcases Nat.lt_or_eq_of_le (Nat.le_of_lt_succ hk) with h3 | h3
   ·exact h2 k h3
   ·rw [h3];grind
theorem opt_core {n:Nat}{rs:List (List Rat × Rat)}{cs ps ds:List Rat}(hcl:cs.length=n)(hrl:∀ r∈rs,r.1.length=n)(hpl:ps.length=n)(hdl:ds.length=rs.length)(_hno:ds.any (fun q=>decide (q<0))=false){rows:List (List Str × Str)}{obj pt d:List Str}
  (h1:aN obj=some cs) (h2:aN pt=some ps) (h3:cA (obj.length:Int) rows d=some (rs,ds)) :
  optM rows obj pt d=true ↔ BouP n rs ds cs/\(vioF rs ps n rs.length).length=0/\-bndS rs ds rs.length=dotQ cs ps n:=by
 have hdot:∀ (a b:List Rat),dotR a b=dotQ a b a.length:=fun a b=>by
  unfold dotR dotQ
  rw [dot_sum]
 have hb:dotR ds (rs.map (·.2))=bndS rs ds rs.length:=by
  unfold dotR bndS
  rw [dot_sum,hdl]
  exact Lp.sumN_congr fun k _=>by rw [getD_map0 (d:=(([]:List Rat),(0:Rat))) rfl]
 have hfc:∀ v,dotR ds (colR rs v)=facS rs ds v rs.length:=fun v=>by
  unfold dotR facS colR
  rw [dot_sum,hdl]
  exact Lp.sumN_congr fun k _=>by rw [getD_map0 (f:=fun p:List Rat × Rat=>gQ p.1 v) (d:=(([]:List Rat),(0:Rat))) rfl];rfl
 have hvio:=vio_zero (rs:=rs) (ps:=ps) (n:=n)
 have hsg:∀ q:Rat,(sgn q == 0)=true ↔ q=0:=fun q=>by
  rw [beq_iff_eq]
  have h:=sgn_zero q
  rw [decide_eq_decide] at h
  exact h
 have hsl:∀ q:Rat,sgn q<=0 ↔ q<=0:=fun q=>by
  unfold sgn
  by_cases h1:q<0
  ·rw [if_pos h1];exact ⟨fun _=>by grind,fun _=>by decide⟩
  ·rw [if_neg h1]
   by_cases h2:q=0
   ·rw [if_pos h2];exact ⟨fun _=>by grind,fun _=>by decide⟩
   ·rw [if_neg h2];exact ⟨fun h=>absurd h (by decide),fun h=>by grind⟩
 unfold optM
 rw [h1,h2,h3]
 simp only [Bool.and_eq_true,decide_eq_true_eq,List.all_eq_true,List.mem_range,hb,hfc,hsg,hsl,hdot]
 rw [hcl,hvio]
 constructor
 ·rintro ⟨⟨⟨_,e1⟩,e2⟩,e3⟩
  refine ⟨fun j hj=>?_,fun k hk=>?_,by grind⟩
  ·have:=e2 j hj
   unfold gQ at this
   exact this
  ·have hm:rs.getD k ([],0)∈rs:=by rw [List.getD_eq_getElem?_getD,List.getElem?_eq_getElem hk];exact List.getElem_mem _
   have:=e1 _ hm
   rw [hrl _ hm] at this
   grind
 ·rintro ⟨e2,e1,e3⟩
  refine ⟨⟨⟨by omega,fun r hr=>?_⟩,fun j hj=>?_⟩,by grind⟩
  ·obtain ⟨k,hk,rfl⟩:=List.mem_iff_getElem.1 hr
   have:=e1 k hk
   rw [List.getD_eq_getElem?_getD,List.getElem?_eq_getElem hk] at this
   simp only [Option.getD_some] at this
   rw [hrl _ (List.getElem_mem hk)]
   grind
  ·exact e2 j hj
theorem rowsM_right {n:Int}{rs:List (List Rat × Rat)}(h:eF n (rs.map bd)=0):cP n (rs.map bd)=some rs:=by
 have h2:=(rowsM_some n (rs.map bd)).2 h
 cases h3:cP n (rs.map bd) with
 | none=>rw [h3] at h2;cases h2
 | some ps=>rw [rowsM_tx h3]
theorem dw {l:List Str}{qs:List Rat}(h:l.all aY=true)(hq:l=qs.map qtx):aN l=some qs:=by
 have h3:=dg l
 rw [h] at h3
 cases h4:aN l with
 | none=>rw [h4] at h3;cases h3
 | some ms=>rw [hq] at h4;rw [df h4]
theorem dP {m:Nat}{d:List Str}{ds:List Rat}:sumE m d ds=0 ↔ bk m d=0/\ds.any (fun q=>decide (q<0))=false:=by
 unfold sumE
 by_cases h:bk m d=0
 ·rw [if_neg fun h2=>h2 h]
  cases ha:ds.any (fun q=>decide (q<0)) with
  | true=>rw [if_pos rfl];exact ⟨fun h=>(by cases h),fun h=>(by cases h.2)⟩
  | false=>exact ⟨fun _=>⟨h,rfl⟩,fun _=>rfl⟩
 ·rw [if_pos h];exact ⟨fun h2=>absurd h2 h,fun h2=>absurd h2.1 h⟩
theorem noneg {ds:List Rat}:ds.any (fun q=>decide (q.num<0))=ds.any (fun q=>decide (q<0)):=by
 congr 1
 funext q
 rw [decide_eq_decide];exact num_neg' q
theorem openM_right {n:Int}{rs:List (List Rat × Rat)}{d:List Str}{ds:List Rat}(hz:eF n (rs.map bd)=0)(hds:d.all aY=true->d=ds.map qtx/\∀ x∈ds,QB 23 x)(h:sumE rs.length d ds=0):cA n (rs.map bd) d=some (rs,ds)/\ds.length=rs.length:=by
 obtain ⟨h1,h2⟩:=dP.1 h
 obtain ⟨h3,h4⟩:=bv.1 h1
 have hd:=(hds h4).1
 have hl:ds.length=rs.length:=by rw [hd,List.length_map] at h3;omega
 refine ⟨?_,hl⟩
 unfold cA
 rw [rowsM_right hz,dw h4 hd]
 simp only
 rw [if_pos ⟨by rw [List.length_map];exact hl,by rw [noneg];exact h2⟩]
theorem openM_wrong {n:Int}{rs:List (List Rat × Rat)}{d:List Str}{ds:List Rat}(hds:d.all aY=true->d=ds.map qtx/\∀ x∈ds,QB 23 x)(h:sumE rs.length d ds≠0):cA n (rs.map bd) d=none:=by
 cases ho:cA n (rs.map bd) d with
 | none=>rfl
 | some pm =>
  exfalso
  obtain ⟨h1,h2,h3,h4⟩:=openM_parts (ps:=pm.1) (ms:=pm.2) ho
  have hall:d.all aY=true:=by rw [<- dg,h2];rfl
  have hd:=(hds hall).1
  rw [hd] at h2
  have hms:=df h2
  rw [hms] at h3 h4
  rw [List.length_map] at h3
  exact h (dP.2 ⟨bv.2 ⟨by rw [hd,List.length_map];omega,hall⟩,by rw [<- noneg];exact h4⟩)
theorem opt_same {n m:Nat}{rs:List (List Rat × Rat)}{cs ps ds:List Rat}{pt d:List Str}(hz:eF n (rs.map bd)=0)(hrl:∀ r∈rs,r.1.length=n)(hcl:cs.length=n)(hcr:(cs.map qtx).all aY=true)
  (hps:pt.all aY=true->pt=ps.map qtx/\∀ x∈ps,QB 23 x) (hds:d.all aY=true->d=ds.map qtx/\∀ x∈ds,QB 23 x) (hm:bk n pt=0->m=(vioF rs ps n rs.length).length)
  (hok:bk n pt=0->sumE rs.length d ds=0->aY (qtx (-bndS rs ds rs.length))=true/\aY (qtx (dotQ cs ps n))=true) :
  (((((bouE n rs d ds cs == 0) && (worE n pt cs ps == 0)) && (bk n pt == 0)) && ((m:Int) == 0)) && (bouV n rs d ds cs == worV n pt cs ps))=optM (rs.map bd) (cs.map qtx) pt d:=by
 have hobj:aN (cs.map qtx)=some cs:=dw hcr rfl
 have hol:((cs.map qtx).length:Int)=n:=by rw [List.length_map,hcl]
 by_cases h1:bk n pt=0
 ·obtain ⟨hpl,hpr⟩:=bv.1 h1
  have hpe:=(hps hpr).1
  have hpm:=dw hpr hpe
  have hpn:ps.length=n:=by rw [hpe,List.length_map] at hpl;omega
  by_cases h2:sumE rs.length d ds=0
  ·obtain ⟨ho,hdl⟩:=openM_right hz hds h2
   rw [<- hol] at ho
   have hc:=opt_core hcl hrl hpn hdl (dP.1 h2).2 hobj hpm ho
   obtain ⟨hr1,hr2⟩:=hok h1 h2
   have hw:worE n pt cs ps=0:=by
    unfold worE
    rw [if_neg fun h=>h h1,if_pos hr2]
   have hwv:worV n pt cs ps=qtx (dotQ cs ps n):=by unfold worV;rw [if_pos hw]
   rw [Bool.eq_iff_iff,hc,hw,h1,hwv,hm h1]
   simp only [Bool.and_eq_true,beq_iff_eq]
   unfold bouV bouE
   rw [if_neg fun h=>h h2,if_pos hr1]
   by_cases hB:BouP n rs ds cs
   ·rw [if_neg fun h=>h hB,if_pos rfl]
    constructor
    ·rintro ⟨⟨_,e1⟩,e2⟩
     exact ⟨hB,by omega,qtx_eq e2⟩
    ·rintro ⟨_,e1,e2⟩
     exact ⟨⟨⟨⟨rfl,trivial⟩,trivial⟩,by omega⟩,by rw [e2]⟩
   ·rw [if_pos hB]
    constructor
    ·rintro ⟨⟨⟨⟨e,_⟩,_⟩,_⟩,_⟩
     cases e
    ·rintro ⟨e,_⟩
     exact absurd e hB
  ·have ho:=openM_wrong (n:=((cs.map qtx).length:Int)) hds h2
   have e1:(bouE n rs d ds cs == 0)=false:=by
    unfold bouE
    rw [if_pos h2]
    exact beq_eq_false_iff_ne.2 h2
   rw [e1]
   unfold optM
   rw [hobj,hpm,ho]
   rfl
 ·have e1:(bk n pt == 0)=false:=beq_eq_false_iff_ne.2 h1
  rw [e1,Bool.and_false,Bool.false_and,Bool.false_and]
  unfold optM
  rw [hobj]
  cases h2:aN pt with
  | none=>rfl
  | some qs =>
   have hpr:pt.all aY=true:=by rw [<- dg,h2];rfl
   have hpe:=(hps hpr).1
   have hqs:qs=ps:=by rw [hpe] at h2;exact df h2
   have hne:¬ qs.length=cs.length:=fun h=>h1 (bv.2 ⟨by rw [hpe,List.length_map,<- hqs,h,hcl],hpr⟩)
   cases h3:cA ((cs.map qtx).length:Int) (rs.map bd) d with
   | none=>rfl
   | some pm =>
    obtain ⟨a,b⟩:=pm
    simp only
    rw [decide_eq_false hne]
    rfl
theorem short_qb {q:Rat}(h:(qtx q).length<=20):QB 3 q:=by
 have h1:(decS q.num.natAbs).length<=20:=by
  unfold qtx at h
  simp only [List.length_append] at h
  omega
 have h2:(decS q.den).length<=20:=by
  by_cases hd:q.den=1
  ·rw [hd];decide +kernel
  ·unfold qtx at h
   rw [dZ hd] at h
   simp only [List.length_append,dh,List.length_cons] at h
   omega
 have key:∀ k:Nat,(decS k).length<=20->k<B9 ^ 3:=fun k hk=>by
  have e:=cg (aO k).1.1
  rw [(aO k).2] at e
  have h3:10 ^ (decS k).length<=10 ^ 20:=Nat.pow_le_pow_right (by decide) hk
  have h4:10 ^ 20<=B9 ^ 3:=by decide
  omega
 exact ⟨key _ h1,key _ h2⟩
def Spoil (s:Str)(l l':List Str):Prop:=l'=l∨(∃ i,i<l.length/\l'=l.set i s)∨l'=l++[s]
theorem oneB_all {a:List Rat}(h:∀ x∈a,QB 1 x):OneB a:=⟨a.length,fun k=>by
 rw [List.getD_eq_getElem?_getD]
 by_cases hk:k<a.length
 ·rw [List.getElem?_eq_getElem hk,if_neg om_]
  exact h _ (List.getElem_mem _)
 ·rw [List.getElem?_eq_none om_]
  exact (show QB 1 (0:Rat) from ⟨by decide,by decide⟩).le (by split <;> omega)⟩
theorem spoil_one {s:Str}{a:List Rat}{l':List Str}(h:Spoil s (a.map qtx) l')(ha:∀ x∈a,QB 1 x)(hs:s.length<=20):∃ qs,l'.all aY=true->l'=qs.map qtx/\OneB qs:=by
 have h0:∀ k,QB 1 (a.getD k 0):=fun k=>by
  rw [List.getD_eq_getElem?_getD]
  by_cases hk:k<a.length
  ·rw [List.getElem?_eq_getElem hk]
   exact ha _ (List.getElem_mem _)
  ·rw [List.getElem?_eq_none om_]
   exact ⟨by decide,by decide⟩
 by_cases hsr:aY s=true
 ·obtain ⟨q,hq,_⟩:=rat_of hsr
  have hq3:QB 3 q:=short_qb (by rw [<- hq];exact hs)
  rcases h with rfl | ⟨i,hi,rfl⟩ | rfl
  ·exact ⟨a,fun _=>⟨rfl,oneB_all ha⟩⟩
  ·refine ⟨a.set i q,fun _=>⟨by rw [List.map_set,<- hq],i,fun k=>?_⟩⟩
   rw [List.getD_eq_getElem?_getD,List.getElem?_set]
   rw [List.length_map] at hi
   by_cases e:i=k
   ·rw [if_pos e,if_pos hi,if_pos e.symm];exact hq3
   ·rw [if_neg e,if_neg (Ne.symm e),<- List.getD_eq_getElem?_getD];exact h0 k
  ·refine ⟨a++[q],fun _=>⟨by rw [List.map_append,hq];rfl,a.length,fun k=>?_⟩⟩
   rw [List.getD_eq_getElem?_getD,List.getElem?_append]
   by_cases e:k<a.length
   ·rw [if_pos e,if_neg om_,<- List.getD_eq_getElem?_getD];exact h0 k
   ·rw [if_neg e]
    by_cases e2:k=a.length
    ·rw [if_pos e2,e2,Nat.sub_self];exact hq3
    ·rw [if_neg e2,List.getElem?_eq_none (by simp;omega)]
     exact ⟨by decide,by decide⟩
 ·rcases h with rfl | ⟨i,hi,rfl⟩ | rfl
  ·exact ⟨a,fun _=>⟨rfl,oneB_all ha⟩⟩
  ·refine ⟨[],fun h=>absurd (List.all_eq_true.1 h s ?_) hsr⟩
   exact List.mem_iff_getElem.2 ⟨i,by rw [List.length_set];exact hi,List.getElem_set_self _⟩
  ·exact ⟨[],fun h=>absurd (List.all_eq_true.1 h s (by simp)) hsr⟩
theorem spoil_len {s:Str}{a:List Rat}{l':List Str}(h:Spoil s (a.map qtx) l')(ha:∀ x∈a,QB 1 x)(hs:s.length<=20):∀ x∈l',x.length<=100:=by
 have h0:∀ x∈a.map qtx,x.length<=100:=fun x hx=>by
  obtain ⟨q,hq,rfl⟩:=List.mem_map.1 hx
  exact Nat.le_trans (aZ (ha q hq) (by decide)) (by decide)
 rcases h with rfl | ⟨i,hi,rfl⟩ | rfl
 ·exact h0
 ·intro x hx
  rcases List.mem_or_eq_of_mem_set hx with h | h
  ·exact h0 x h
  ·rw [h];omega
 ·intro x hx
  rcases List.mem_append.1 hx with h | h
  ·exact h0 x h
  ·rw [List.mem_singleton.1 h];omega
theorem spoil_count {s:Str}{a l':List Str}(h:Spoil s a l'):l'.length<=a.length+1:=by
 rcases h with rfl | ⟨i,hi,rfl⟩ | rfl
 ·omega
 ·simp
 ·simp
theorem mk_qb {z:Int}{d:Nat}(hz:z.natAbs<1000000)(hd:d<1000000)(hd0:d≠0):QB 1 (mkRat z d):=mk_bound hd0 (Nat.lt_of_lt_of_le hz (by decide)) (Nat.lt_of_lt_of_le hd (by decide))
theorem eQ {l:List Int}{n:Nat}:∀ x∈facL l n,QB 1 x:=fun x hx=>by
 obtain ⟨j,_,rfl⟩:=List.mem_map.1 hx
 exact mk_qb (Nat.lt_trans (eC (by decide)) (by decide)) (by decide) (by decide)
theorem cD {l:List Int}{n:Nat}:(facL l n).length=n:=by simp [facL]
theorem facL_at {l:List Int}{n j:Nat}(h:j<n):(facL l n).getD j 0=mkRat ((l.getD j 0).tmod 10) 1:=by
 unfold facL
 rw [List.getD_eq_getElem?_getD,List.getElem?_map,List.getElem?_range h];rfl
theorem row7_qb {n:Nat}{r:PRow}:QB 1 (aR n r).2:=mk_qb (Nat.lt_trans (eC (by decide)) (by decide)) (by decide) (by decide)
theorem rows7_q {n:Nat}{rows:List PRow}(hl:rows.length<=6):RowsQ n (rows.map (aR n)):=by
 refine ⟨fun r hr=>?_,fun r hr=>?_,by rw [List.length_map];omega⟩
 ·obtain ⟨x,_,rfl⟩:=List.mem_map.1 hr
  exact cD
 ·obtain ⟨x,_,rfl⟩:=List.mem_map.1 hr
  exact ⟨fun q hq=>(eQ q hq).le (by decide),row7_qb.le (by decide)⟩
theorem rows7_get {n:Nat}{rows:List PRow}{r:Nat}(h:r<rows.length):∃ x,(rows.map (aR n)).getD r ([],0)=aR n x:=by
 refine ⟨rows[r], ?_⟩
 rw [List.getD_eq_getElem?_getD,List.getElem?_map,List.getElem?_eq_getElem h];rfl
theorem lim7 {n:Nat}{rows:List PRow}{l:List Int}(hn:n<=3):Lp.Lim (cm n (rows.map (aR n))) (fun j=>(facL l n).getD j 0) 1:=by
 have e1:∀ z:Int,mkRat z 1=(z:Rat):=fun z=>by rw [Rat.mkRat_eq_div];grind
 have e2:∀ z:Int,2*mkRat z 2=(z:Rat):=fun z=>by rw [Rat.mkRat_eq_div];grind
 refine Lp.lim_plan hn (fun r j hr hj=>?_) (fun r hr=>?_) (fun j hj=>?_)
 ·obtain ⟨x,hx⟩:=rows7_get (n:=n) (rows:=rows) (r:=r) (by simpa [cm] using hr)
  show ∃ z:Int,((rows.map (aR n)).getD r ([],0)).1.getD j 0=z/\_
  rw [hx]
  show ∃ z:Int,(facL _ n).getD j 0=z/\_
  rw [facL_at (n:=n) hj,e1]
  exact ⟨_,rfl,Nat.le_of_lt_succ (eC (by decide))⟩
 ·obtain ⟨x,hx⟩:=rows7_get (n:=n) (rows:=rows) (r:=r) (by simpa [cm] using hr)
  show ∃ z:Int,2*((rows.map (aR n)).getD r ([],0)).2=z/\_
  rw [hx]
  show ∃ z:Int,2*mkRat _ 2=z/\_
  rw [e2]
  exact ⟨_,rfl,Nat.le_of_lt_succ (eC (by decide))⟩
 ·show ∃ z:Int,(facL l n).getD j 0=z/\_
  rw [facL_at (n:=n) hj,e1]
  exact ⟨_,rfl,Nat.le_of_lt_succ (eC (by decide))⟩
theorem sums_right {n:Nat}{rows:List PRow}{l:List Int}{ps ds:List Rat}(hn:n<=3)(hl:rows.length<=6)(hp:OneB ps)(hd:OneB ds) :
  aY (qtx (-bndS (rows.map (aR n)) ds (rows.map (aR n)).length))=true/\aY (qtx (dotQ (facL l n) ps n))=true:=by
 obtain ⟨i,hp⟩:=hp
 obtain ⟨k0,hd⟩:=hd
 have hb:∀ k,QB 1 ((rows.map (aR n)).getD k ([],0)).2:=fun k=>by
  by_cases hk:k<rows.length
  ·obtain ⟨x,hx⟩:=rows7_get (n:=n) hk
   rw [hx];exact row7_qb
  ·rw [List.getD_eq_getElem?_getD,List.getElem?_eq_none (by rw [List.length_map];omega)]
   exact ⟨by decide,by decide⟩
 have hc:∀ k,QB 1 ((facL l n).getD k 0):=fun k=>by
  rw [List.getD_eq_getElem?_getD]
  by_cases hk:k<(facL l n).length
  ·rw [List.getElem?_eq_getElem hk];exact eQ _ (List.getElem_mem _)
  ·rw [List.getElem?_eq_none om_];exact ⟨by decide,by decide⟩
 refine ⟨ratOk_qtx (QB_neg ((sum_q hd hb _).le ?_)),ratOk_qtx ?_⟩
 ·rw [List.length_map];split <;> omega
 ·have e:dotQ (facL l n) ps n=Lp.sumN (fun k=>ps.getD k 0*(facL l n).getD k 0) n:=Lp.sumN_congr fun k _=>Rat.mul_comm _ _
  rw [e]
  exact (sum_q hp hc n).le (by split <;> omega)
theorem map_at {f:Nat->Rat}{n j:Nat}(h:j<n):((List.range n).map f).getD j 0=f j:=Lp.map_range_getD h
theorem mapqb {f:Nat->Rat}{n:Nat}(h:∀ j,QB 1 (f j)):∀ x∈(List.range n).map f,QB 1 x:=fun x hx=>by
 obtain ⟨j,_,rfl⟩:=List.mem_map.1 hx
 exact h j
theorem pos_list {f:Nat->Rat}{n:Nat}(h:∀ j,0<=f j):((List.range n).map f).any (fun q=>decide (q<0))=false:=List.any_eq_false.2 fun x hx=>by
 obtain ⟨j,_,rfl⟩:=List.mem_map.1 hx
 have:=h j
 simp only [decide_eq_true_eq]
 grind
theorem opt_taken {n:Nat}{rows:List PRow}{l:List Int}{val:Rat}{pt du:Nat->Rat}(_hn:n<=3)(hl:rows.length<=6)(h:Lp.OptR (cm n (rows.map (aR n))) (fun j=>(facL l n).getD j 0) 1 val pt du) :
  optM ((rows.map (aR n)).map bd) ((facL l n).map qtx) (((List.range n).map pt).map qtx) (((List.range (rows.map (aR n)).length).map du).map qtx)=true:=by
 have hq:=rows7_q (n:=n) hl
 have hz:eF n ((rows.map (aR n)).map bd)=0:=dS hq.l fun r hr=>by
  obtain ⟨x,_,rfl⟩:=List.mem_map.1 hr
  exact ⟨fun q hq=>(eQ q hq).le (by decide),row7_qb.le (by decide)⟩
 have hdr:=d3 fun x hx=>(mapqb (n:=(rows.map (aR n)).length) h.qd x hx).le (show 1<=22 by decide)
 have hpr:=d3 fun x hx=>(mapqb (n:=n) h.qp x hx).le (show 1<=22 by decide)
 have hcr:=d3 fun x hx=>(eQ (l:=l) (n:=n) x hx).le (show 1<=22 by decide)
 have hs:sumE (rows.map (aR n)).length (((List.range (rows.map (aR n)).length).map du).map qtx) ((List.range (rows.map (aR n)).length).map du)=0:=dP.2 ⟨bv.2 ⟨by simp,hdr⟩,pos_list h.pos⟩
 obtain ⟨ho,hdl⟩:=openM_right (n:=(((facL l n).map qtx).length:Int)) (by rw [List.length_map,cD];exact hz) (fun _=>⟨rfl,fun x hx=>(mapqb h.qd x hx).le (by decide)⟩) hs
 refine (opt_core cD hq.l (by simp) hdl (dP.1 hs).2 (dw hcr rfl) (dw hpr rfl) ho).2 ⟨fun j hj=>?_,(vio_zero _).2 fun k hk=>?_, ?_⟩
 ·have e:facS (rows.map (aR n)) ((List.range (rows.map (aR n)).length).map du) j (rows.map (aR n)).length=Lp.sumN (fun r=>du r*(cm n (rows.map (aR n))).a r j) (rows.map (aR n)).length:=Lp.sumN_congr fun k hk=>by rw [map_at hk];rfl
  rw [e]
  have:=h.fac j hj
  have e2:Lp.sumN (fun r=>du r*(cm n (rows.map (aR n))).a r j) (rows.map (aR n)).length=-(facL l n).getD j 0:=this
  rw [e2];grind
 ·have e:dotQ ((rows.map (aR n)).getD k ([],0)).1 ((List.range n).map pt) n=Lp.sumN (fun j=>(cm n (rows.map (aR n))).a k j*pt j) n:=Lp.sumN_congr fun j hj=>by rw [map_at hj];rfl
  rw [e]
  exact h.row k hk
 ·have e:bndS (rows.map (aR n)) ((List.range (rows.map (aR n)).length).map du) (rows.map (aR n)).length=Lp.sumN (fun r=>du r*(cm n (rows.map (aR n))).b r) (rows.map (aR n)).length:=Lp.sumN_congr fun k hk=>by rw [map_at hk];rfl
  have e2:dotQ (facL l n) ((List.range n).map pt) n=Lp.sumN (fun j=>(facL l n).getD j 0*pt j) n:=Lp.sumN_congr fun j hj=>by rw [map_at hj]
  have h1:Lp.sumN (fun r=>du r*(cm n (rows.map (aR n))).b r) (rows.map (aR n)).length=-val:=h.bnd
  have h2:Lp.sumN (fun j=>(facL l n).getD j 0*pt j) n=val:=h.wor
  rw [e,e2,h1,h2];grind
theorem ref_law {n:Nat}{rs:List (List Rat × Rat)}{cs ds:List Rat}{d:List Str}(hn:n<=60)(hm:rs.length<=300)(hq:RowsQ n rs)(hqr:∀ r∈rs,(∀ x∈r.1,QB 22 x)/\QB 22 r.2)(hcl:cs.length=n)(hqo:∀ x∈cs,QB 22 x)(hds:d.all aY=true->d=ds.map qtx/\∀ x∈ds,QB 23 x) :
  refC n (rs.map bd) d=decide (refP n (rs.map bd) (cs.map qtx) d rs ds=0):=by
 have h1:=chkP_right hn hm hq.l hqr hcl hqo
 have h2:chkP n (rs.map bd) (List.replicate n [48])=0:=by rw [chkP_zero hn (by rw [List.length_map];exact hm)];exact dS hq.l hqr
 rw [ref_same n (rs.map bd) d rs ds hn (by rw [List.length_map];exact hm) (fun _=>⟨rfl,hq⟩) hds]
 unfold refP
 rw [h1,h2]
theorem inf_taken {n:Nat}{rows:List PRow}{du:Nat->Rat}(hn:n<=3)(hl:rows.length<=6)(h:Lp.InfR (cm n (rows.map (aR n))) 1 du) :
  refC n ((rows.map (aR n)).map bd) (((List.range (rows.map (aR n)).length).map du).map qtx)=true:=by
 have hq:=rows7_q (n:=n) hl
 have hqr:∀ r∈rows.map (aR n),(∀ x∈r.1,QB 22 x)/\QB 22 r.2:=fun r hr=>by
  obtain ⟨x,_,rfl⟩:=List.mem_map.1 hr
  exact ⟨fun q hq=>(eQ q hq).le (by decide),row7_qb.le (by decide)⟩
 have hdr:=d3 fun x hx=>(mapqb (n:=(rows.map (aR n)).length) h.qd x hx).le (show 1<=22 by decide)
 have hs:sumE (rows.map (aR n)).length (((List.range (rows.map (aR n)).length).map du).map qtx) ((List.range (rows.map (aR n)).length).map du)=0:=dP.2 ⟨bv.2 ⟨by simp,hdr⟩,pos_list h.pos⟩
 rw [ref_law (cs:=facL [] n) (ds:=(List.range (rows.map (aR n)).length).map du) om_ (by rw [List.length_map];omega) hq hqr cD (fun x hx=>(eQ x hx).le (by decide)) (fun _=>⟨rfl,fun x hx=>(mapqb h.qd x hx).le (by decide)⟩)]
 refine decide_eq_true ?_
 unfold refP
 rw [if_neg fun h2=>h2 (chkP_right om_ (by rw [List.length_map];omega) hq.l hqr cD fun x hx=>(eQ x hx).le (by decide)),if_neg fun h2=>h2 hs,if_neg]
 have e:bndS (rows.map (aR n)) ((List.range (rows.map (aR n)).length).map du) (rows.map (aR n)).length=Lp.sumN (fun r=>du r*(cm n (rows.map (aR n))).b r) (rows.map (aR n)).length:=Lp.sumN_congr fun k hk=>by rw [map_at hk];rfl
 have h1:Lp.sumN (fun r=>du r*(cm n (rows.map (aR n))).b r) (rows.map (aR n)).length<0:=h.bnd
 rintro (h2 | h2)
 ·rw [e] at h2;grind
 ·obtain ⟨x,hx,hx2⟩:=List.any_eq_true.1 h2
  obtain ⟨j,hj,rfl⟩:=List.mem_map.1 hx
  rw [if_neg (Nat.not_lt_zero _)] at hx2
  have e3:facS (rows.map (aR n)) ((List.range (rows.map (aR n)).length).map du) j (rows.map (aR n)).length=Lp.sumN (fun r=>du r*(cm n (rows.map (aR n))).a r j) (rows.map (aR n)).length:=Lp.sumN_congr fun k hk=>by rw [map_at hk];rfl
  have e4:Lp.sumN (fun r=>du r*(cm n (rows.map (aR n))).a r j) (rows.map (aR n)).length=0:=h.fac j (List.mem_range.1 hj)
  rw [e3,e4] at hx2
  simp at hx2
theorem rowsIn_of {C:Mem}{v:Value}{rows:List (List Str × Str)}(h:RowsT C v rows):RowsIn C v rows:=by
 obtain ⟨vs,h1,h2,h3⟩:=h
 have hex:∀ i,i<rows.length->∃ A n c,vs.getD i (.slice none 0 0)=.slice A n c:=fun i hi=>by
  obtain ⟨w,hw⟩:∃ w,vs[i]?=some w:=⟨vs[i]'om_,List.getElem?_eq_getElem om_⟩
  obtain ⟨A,c,e,_⟩:=h2 i w rows[i] hw (List.getElem?_eq_getElem hi)
  exact ⟨A,_,c,by rw [List.getD_eq_getElem?_getD,hw];exact e⟩
 have hg:∃ f:Nat->RV,∀ i,i<rows.length->vs.getD i (.slice none 0 0)=.slice (f i).A (f i).n (f i).c/\(f i).s=(rows.getD i ([],[])).2:=by
  refine ⟨fun i=>if h:i<rows.length then ⟨(hex i h).choose,(hex i h).choose_spec.choose,(hex i h).choose_spec.choose_spec.choose,(rows.getD i ([],[])).2⟩ else ⟨none,0,0,[]⟩,fun i hi=>?_⟩
  simp only [dif_pos hi]
  exact ⟨(hex i hi).choose_spec.choose_spec.choose_spec,trivial⟩
 obtain ⟨f,hf⟩:=hg
 refine ⟨(List.range rows.length).map f, ?_,by simp,fun i r row hr hw=>?_⟩
 ·have e:((List.range rows.length).map f).map RV.enc=List.zipWith (fun w (r:List Str × Str)=>[w,strV r.2]) vs rows:=by
   refine List.ext_getElem? fun i=>?_
   rw [List.map_map,List.getElem?_map,List.getElem?_zipWith]
   by_cases hi:i<rows.length
   ·obtain ⟨w,hw⟩:∃ w,vs[i]?=some w:=⟨vs[i]'om_,List.getElem?_eq_getElem om_⟩
    obtain ⟨e1,e2⟩:=hf i hi
    rw [List.getD_eq_getElem?_getD,hw] at e1
    rw [List.getD_eq_getElem?_getD,List.getElem?_eq_getElem hi] at e2
    rw [List.getElem?_range hi,hw,List.getElem?_eq_getElem hi]
    show some (RV.enc (f i))=some [w,strV rows[i].2]
    unfold RV.enc
    rw [<- e1,e2];rfl
   ·rw [List.getElem?_eq_none (show (List.range rows.length).length<=i by simp;omega),List.getElem?_eq_none (show rows.length<=i by omega)]
    cases vs[i]? <;> rfl
  rw [e];exact h3
 ·rw [List.getElem?_map] at hr
  have hi:i<rows.length:=(List.getElem?_eq_some_iff.1 hw).1
  rw [List.getElem?_range hi] at hr
  cases hr
  obtain ⟨e1,e2⟩:=hf i hi
  obtain ⟨w,hw2⟩:∃ w,vs[i]?=some w:=⟨vs[i]'om_,List.getElem?_eq_getElem om_⟩
  have h4:=h2 i w row hw2 hw
  rw [List.getD_eq_getElem?_getD,hw2] at e1
  have e3:w=.slice (f i).A (f i).n (f i).c:=e1
  refine ⟨by rw [<- e3];exact h4, ?_⟩
  rw [e2,List.getD_eq_getElem?_getD,hw];rfl

theorem fits7_fn (C:Mem)(v:Int)(rv:Value)(rows:List PRow)(o0 o1 o2:Int)(hr:Sl C 4 rv (rows.map PRow.enc)):Gives cx.P 5 [.agg ⟨[.int .u8 v,rv,.int .i8 o0,.int .i8 o1,.int .i8 o2]⟩] C (.bool (decide (rows.length<=6))):=by
 obtain ⟨A0,c0,rfl,hc1,hc2,_⟩:=id hr
 refine Fn.it kr_ Tryz.func5 7 fun w0=>?_
 refine G.rg fun R hR=>?_
 refine D.aX (fun b1=>?_)
 refine D.q1 1 1 hR ?_
 refine G.freeze 0 rfl (fun C1 hle1 hb1=>?_)
 refine G.rp 1 fun R hR=>?_
 refine D.ac (bkT hb1 1) ?_
 refine D.q1 3 2 hR ?_
 refine G.rf ?_
 refine ⟨?_,rfl⟩
 show Value.bool (decide (((rows.map PRow.enc).length:Int)<=6))=_
 rw [List.length_map]
 congr 1
 rw [decide_eq_decide]
 omega
theorem solO_law {n:Nat}{rows:List PRow}{l:List Int}{D:Mem}{u:Value}(hn:n<=3)(hl:rows.length<=6)(h:SolO (cm n (rows.map (aR n))) (fun j=>(facL l n).getD j 0) D u) :
  ∃ (kd:Int)(val:Str)(A1:Option Addr)(n1 c1:Nat)(A2:Option Addr)(n2 c2:Nat)(A3:Option Addr)(n3 c3:Nat)(a b:List Rat),u=.agg ⟨[.int .i64 kd,strV val,.slice A1 n1 c1,.slice A2 n2 c2,.slice A3 n3 c3]⟩/\Sl D 1 (.slice A1 n1 c1) (a.map encR)/\Sl D 1 (.slice A2 n2 c2) (b.map encR) /\
   (∀ x∈a,QB 1 x)/\(∀ x∈b,QB 1 x)/\a.length<=n/\b.length<=rows.length/\(kd=1->optM ((rows.map (aR n)).map bd) ((facL l n).map qtx) (a.map qtx) (b.map qtx)=true)/\(kd=2->refC n ((rows.map (aR n)).map bd) (b.map qtx)=true):=by
 have hm:(rows.map (aR n)).length=rows.length:=List.length_map ..
 cases h with
 | opt val pt du vp vd ho h1 h2 =>
  obtain ⟨A1,c1,rfl,_⟩:=id h1
  obtain ⟨A2,c2,rfl,_⟩:=id h2
  exact ⟨1,_,A1,_,c1,A2,_,c2,none,0,0,_,_,rfl,h1,h2,mapqb ho.qp,mapqb ho.qd,by simp [cm],by simp [cm],fun _=>opt_taken hn hl ho,fun h=>absurd h (by decide)⟩
 | inf du vd hi h1 =>
  obtain ⟨A2,c2,rfl,_⟩:=id h1
  exact ⟨2,_,none,0,0,A2,_,c2,none,0,0,[],_,rfl,Sl.nil _ _,h1,fun x hx=>(by cases hx),mapqb hi.qd,Nat.zero_le _,by simp [cm],fun h=>absurd h (by decide),fun _=>inf_taken hn hl hi⟩
 | unb pt ra vp vr hu h1 h2 =>
  obtain ⟨A1,c1,rfl,_⟩:=id h1
  obtain ⟨A3,c3,rfl,_⟩:=id h2
  exact ⟨3,_,A1,_,c1,none,0,0,A3,_,c3,_,[],rfl,h1,Sl.nil _ _,mapqb hu.qp,fun x hx=>(by cases hx),by simp [cm],Nat.zero_le _,fun h=>absurd h (by decide),fun h=>absurd h (by decide)⟩
abbrev sG (g:Nat):Value:=.slice (some ⟨g,0,none⟩) 2 2
def dlX0 (b80:Nat)(A74:Option Addr)(n74 c74:Nat)(A79:Option Addr)(n79 c79:Nat)(a b:List Rat):List Ent:=[.arr (sG b80) 33 1 2 [[.slice A74 n74 c74],[.slice A79 n79 c79]].flatten,.arr (sA A74 n74 c74) 27 1 (0+(a.map encR).length) ([]++(a.map encR).flatten),.arr (sB A79 n79 c79) 27 1 (0+(b.map encR).length) ([]++(b.map encR).flatten)]
def dlX1 (g8:Nat)(Af:Nat->Option Addr)(nf cf:Nat->Nat)(ls:Nat->List Rat):List Ent:=[.arr (sG g8) 33 1 2 [.slice (Af 0) (nf 0) (cf 0),.slice (Af 1) (nf 1) (cf 1)],.arr (sA (Af 0) (nf 0) (cf 0)) 27 1 (ls 0).length ((ls 0).map encR).flatten,.arr (sB (Af 1) (nf 1) (cf 1)) 27 1 (ls 1).length ((ls 1).map encR).flatten]
theorem dl_leaf {F:Fx}{k:List KI}{fr:Fr}{e:Exit}{C:Mem}{b80:Nat}{A74:Option Addr}{n74 c74:Nat}{A79:Option Addr}{n79 c79:Nat}{a b:List Rat}{ls:Nat->List Rat}(h0:ls 0=a)(h1:ls 1=b)(h:∀ (Af:Nat->Option Addr)(nf cf:Nat->Nat),G F k e fr C (dlX1 b80 Af nf cf ls)):G F k e fr C (dlX0 b80 A74 n74 c74 A79 n79 c79 a b) :=
 G.aM (L':=dlX1 b80 (fun i=>if i=0 then A74 else A79) (fun i=>if i=0 then n74 else n79) (fun i=>if i=0 then c74 else c79) ls) (by subst h0;subst h1;simp [dlX0,dlX1]) (h _ _ _)
theorem lduals_fn (C:Mem)(hT:Tabs C)(v how at_:Nat)(rv:Value)(rows:List PRow)(o0 o1 o2:Int)(sby:Str)(hr:Sl C 4 rv (rows.map PRow.enc))(hok:∀ r∈rows,r.ok)(h0:i8R o0)(h1:i8R o1)(h2:i8R o2)(hv:v<256)(hhow:how<256)(hat:at_<256) :
  Gives cx.P 3 [.agg ⟨[.int .u8 v,rv,.int .i8 o0,.int .i8 o1,.int .i8 o2]⟩,.agg ⟨[.int .u8 how,.int .u8 at_,strV sby]⟩] C (.bool true):=by
 have hmx:maxLen<=9223372036854775807:=by simp [maxLen]
 have hr0:=hr
 obtain ⟨Ar,cr,rfl,_⟩:=id hr
 obtain ⟨n,hn⟩:∃ n,v % 4=n:=⟨_,rfl⟩
 have hn3:n<=3:=by omega
 refine Fn.it kr_ Tryz.func3 201 fun w0=>?_
 refine G.rg fun R hR=>?_
 refine D.aX (fun b2=>?_)
 refine D.aX (fun b3=>?_)
 refine D.q2 1 2 3 hR ?_;clear hR R
 refine G.freeze 1 rfl (fun C2 hle2 hb2=>?_)
 refine G.freeze 0 rfl (fun C3 hle3 hb3=>?_)
 refine G.rg fun R hR=>?_
 refine D.aj (known_fn _ (hT.mono mup)) ?_
 refine D.ps 2 ?_
 refine D.aK rfl rfl rfl rfl rfl rfl (fun _=>PtrTo.blockT (Mem.get hb2 mup) _ 5) rfl rfl rfl ?_
 refine D.bn (fun _=>(fits7_fn _ (v:Nat) _ rows o0 o1 o2 (hr0.mono mup))) ?_
 refine D.ae ?_
 refine D.aG rfl rfl rfl rfl rfl rfl rfl rfl ?_
 refine D.ps 2 ?_
 refine D.aK rfl rfl rfl rfl rfl rfl (fun _=>PtrTo.blockT (Mem.get hb3 mup) _ 1) rfl rfl rfl ?_
 refine D.ps 2 ?_
 refine D.aG rfl rfl rfl rfl rfl rfl rfl rfl ?_
 refine D.e3 2 3 30 hR ?_;clear hR R
 refine G.cd (fun h30=>?_) fun h30=>?_
 ·refine G.rg fun R hR=>?_
  refine D.aj (known_fn _ (hT.mono mup)) ?_
  refine D.q1 1 4 hR ?_;clear hR R
  refine G.rf ?_
  exact ⟨rfl,rfl⟩
 ·have hg:rows.length<=6/\sby.length<=20:=by
   have h30':((!true || !decide (rows.length<=6)) || decide ((sby.length:Int) > 20))=false:=h30
   simp only [Bool.not_true,Bool.false_or,Bool.or_eq_false_iff,Bool.not_eq_false',decide_eq_true_eq,decide_eq_false_iff_not] at h30'
   omega
  obtain ⟨hl6,hs20⟩:=hg
  have hq:=rows7_q (n:=n) hl6
  have hqr:∀ r∈rows.map (aR n),(∀ x∈r.1,QB 22 x)/\QB 22 r.2:=fun r hr=>by
   obtain ⟨x,_,rfl⟩:=List.mem_map.1 hr
   exact ⟨fun q hq=>(eQ q hq).le (by decide),row7_qb.le (by decide)⟩
  have hqo:∀ x∈facL [o0,o1,o2] n,QB 22 x:=fun x hx=>(eQ x hx).le (by decide)
  have hm:(rows.map (aR n)).length=rows.length:=List.length_map ..
  refine G.rg fun R hR=>?_
  refine D.ac (bkT hb2 5) ?_
  refine D.aS (make7_fn _ (hT.mono mup) v _ rows o0 o1 o2 (hr0.mono mup) hl6 hok h0 h1 h2 hv) (fun v33 C33 hle33 hq33=>?_)
  obtain ⟨pv,ov,rfl,hrT,hoT⟩:=hq33
  rw [hn] at hrT hoT ⊢
  have hrT0:=hrT
  obtain ⟨vs7,hvl7,_,hvs7⟩:=hrT
  obtain ⟨Ap,cp,rfl,_⟩:=id hvs7
  obtain ⟨Ao,co,rfl,_⟩:=id hoT
  rw [eA hvl7] at hrT0 ⊢
  simp only [List.length_map] at hrT0 hoT ⊢
  refine D.aC (fun b5=>?_)
  refine D.ag (j:=0) ?_
  refine D.e2 3 5 hR ?_;clear hR R
  refine G.freeze 0 rfl (fun C5 hle5 hb5=>?_)
  refine G.rg fun R hR=>?_
  refine D.ac (bkT hb5 3) ?_
  refine D.ax (pmin_fn _ (hT.mono mup) n _ _ (rows.map (aR n)) (facL [o0,o1,o2] n) (hrT0.mono mup) (hoT.mono mup) hq hqo hqr om_ cD (lim7 hn3)) rfl rfl rfl rfl rfl rfl rfl fl_ (fun v36 C36 hle36 hq36=>?_)
  obtain ⟨r,rfl,hS⟩:=hq36
  obtain ⟨kd,val,A1,n1,c1,A2,n2,c2,A3,n3,c3,a,b,rfl,ha,hb,qa,qb,hal,hbl,hopt,hinf⟩:=solO_law hn3 hl6 hS
  refine D.ps 3 ?_
  refine D.aC (fun b6=>?_)
  refine D.ag (j:=0) ?_
  refine D.q4 1 3 5 6 7 hR ?_;clear hR R
  refine G.z4 2 3 5 6 40 ?_
  refine G.cd (fun h40=>?_) fun h40=>?_
  ·exact absurd h40 (by decide)
  ·refine G.freeze 0 rfl (fun C6 hle6 hb6=>?_)
   have hRI:=rowsIn_of hrT0
   have hfc:∀ r∈((rows.map (aR n)).map bd),r.1.length<=1000000/\(∀ s∈r.1,s.length<1000000)/\r.2.length<1000000:=fun r hr=>by
    obtain ⟨x,hx,rfl⟩:=List.mem_map.1 hr
    refine ⟨?_,fun s hs=>?_, ?_⟩
    ·show (x.1.map qtx).length<=_
     rw [List.length_map,hq.l x hx];omega
    ·obtain ⟨q,hq2,rfl⟩:=List.mem_map.1 hs
     exact Nat.lt_of_le_of_lt (aZ ((hqr x hx).1 q hq2) (by decide)) (by decide)
    ·exact Nat.lt_of_le_of_lt (aZ (hqr x hx).2 (by decide)) (by decide)
   have hos:∀ s∈((facL [o0,o1,o2] n).map qtx),s.length<1000000:=fun s hs=>by
    obtain ⟨q,hq2,rfl⟩:=List.mem_map.1 hs
    exact Nat.lt_of_le_of_lt (aZ (hqo q hq2) (by decide)) (by decide)
   have hal2:∀ s∈a.map qtx,s.length<1000000:=fun s hs=>by
    obtain ⟨q,hq2,rfl⟩:=List.mem_map.1 hs
    exact Nat.lt_of_le_of_lt (aZ (qa q hq2) (by decide)) (by decide)
   have hbl2:∀ s∈b.map qtx,s.length<1000000:=fun s hs=>by
    obtain ⟨q,hq2,rfl⟩:=List.mem_map.1 hs
    exact Nat.lt_of_le_of_lt (aZ (qb q hq2) (by decide)) (by decide)
   have haT:Sl C36 1 (.slice A1 n1 c1) ((a.map qtx).map encS):=by have:=ha;rw [bS] at this;exact this
   have hbT:Sl C36 1 (.slice A2 n2 c2) ((b.map qtx).map encS):=by have:=hb;rw [bS] at this;exact this
   have hoS:Sl C33 1 (.slice Ao (facL [o0,o1,o2] n).length co) (((facL [o0,o1,o2] n).map qtx).map encS):=by have:=hoT;rw [bS] at this;exact this
   refine G.rp 1 fun R hR=>?_
   refine D.ac (bkT hb6 1) ?_
   refine D.ps 3 ?_
   refine D.aK rfl rfl rfl rfl rfl rfl (fun _=>PtrTo.blockT (Mem.get hb5 mup) _ 1) rfl rfl rfl ?_
   refine D.ae ?_
   refine D.aK rfl rfl rfl rfl rfl rfl (fun _=>PtrTo.blockT (Mem.get hb5 mup) _ 1) rfl rfl rfl ?_
   refine D.ae ?_
   refine D.aK rfl rfl rfl rfl rfl rfl (fun _=>PtrTo.blockT (Mem.get hb6 mup) _ 1) rfl rfl rfl ?_
   refine D.ae ?_
   refine D.aK rfl rfl rfl rfl rfl rfl (fun _=>PtrTo.blockT (Mem.get hb6 mup) _ 1) rfl rfl rfl ?_
   refine D.a6 (fun _=>(optimal_fn _ (hT.mono mup) _ _ _ _ _ _ ((rows.map (aR n)).map bd) ((facL [o0,o1,o2] n).map qtx) (a.map qtx) (b.map qtx) (hRI.mono mup) (hoS.mono mup) (haT.mono mup) (hbT.mono mup) (by rw [List.length_map,hm];omega) hfc (by rw [List.length_map,cD];omega) hos (by rw [List.length_map];omega) hal2 (by rw [List.length_map];omega) hbl2)) rfl rfl rfl rfl rfl rfl rfl rfl rfl ?_
   refine D.ae ?_
   refine D.au ?_
   refine D.ps 2 ?_
   refine D.aK rfl rfl rfl rfl rfl rfl (fun _=>PtrTo.blockT (Mem.get hb6 mup) _ 1) rfl rfl rfl ?_
   refine D.ps 3 ?_
   refine D.aK rfl rfl rfl rfl rfl rfl (fun _=>PtrTo.blockT (Mem.get hb5 mup) _ 1) rfl rfl rfl ?_
   refine D.ae ?_
   refine D.aK rfl rfl rfl rfl rfl rfl (fun _=>PtrTo.blockT (Mem.get hb5 mup) _ 1) rfl rfl rfl ?_
   refine D.ae ?_
   refine D.aK rfl rfl rfl rfl rfl rfl (fun _=>PtrTo.blockT (Mem.get hb6 mup) _ 1) rfl rfl rfl ?_
   refine D.a6 (fun _=>(crefutes_fn _ (hT.mono mup) _ (n:Nat) _ _ _ ((rows.map (aR n)).map bd) (b.map qtx) (hRI.mono mup) (hbT.mono mup) (by rw [List.length_map,hm];omega) hfc (by rw [List.length_map];omega) hbl2)) rfl rfl rfl rfl rfl rfl rfl rfl rfl ?_
   refine D.ae ?_
   refine D.au ?_
   refine D.aG rfl rfl rfl rfl rfl rfl rfl rfl ?_
   refine D.e4 3 5 6 70 hR ?_;clear hR R
   refine G.cd (fun h70=>?_) fun h70=>?_
   ·exfalso
    have h70':(((kd == 1) && !optM ((rows.map (aR n)).map bd) ((facL [o0,o1,o2] n).map qtx) (a.map qtx) (b.map qtx)) || ((kd == 2) && !refC (n:Nat) ((rows.map (aR n)).map bd) (b.map qtx)))=true:=h70
    simp only [Bool.or_eq_true,Bool.and_eq_true,beq_iff_eq] at h70'
    rcases h70' with ⟨e1,e2⟩ | ⟨e1,e2⟩
    ·rw [hopt e1] at e2;cases e2
    ·rw [hinf e1] at e2;cases e2
   ·obtain ⟨ls,hls0,hls1⟩:∃ ls:Nat->List Rat,ls 0=a/\ls 1=b:=⟨fun i=>if i=0 then a else b,rfl,rfl⟩
    refine G.bW (fun fr C' L' μ=>∃ (g8:Nat)(Af:Nat->Option Addr)(nf cf:Nat->Nat),(True)/\fr=[(3,[],.pointer (some ⟨b3,0,none⟩)),(5,[],.pointer (some ⟨b5,0,none⟩)),(8,[],.slice (some ⟨g8,0,none⟩) 2 2)]/\L'=[.arr (sG g8) 33 1 2 [.slice (Af 0) (nf 0) (cf 0),.slice (Af 1) (nf 1) (cf 1)],.arr (sA (Af 0) (nf 0) (cf 0)) 27 1 (ls 0).length ((ls 0).map encR).flatten,.arr (sB (Af 1) (nf 1) (cf 1)) 27 1 (ls 1).length ((ls 1).map encR).flatten]) ?_ (fun fr Cr9 Lr9 μ hler9 hI=>?_)
    ·refine G.fj (.cut [1,2,5,6,7] (.alt 0 (.cut [] (.alt 3 (.fin [4,8,9,10]) (.alt 4 (.fin [3,8,9,10]) .stop))) (.alt 4 (.fin [0,3,8,9,10]) .stop))) [(2,0),(7,0)] rfl rfl kr_ (fun R hB hR hH=>?_)
     refine D.ae ?_
     refine D.fm (fun _=>((bkT hb6 1).mono hB)) rfl rfl rfl rfl rfl rfl rfl rfl rfl ?_
     refine D.ps 2 ?_
     refine D.fm (fun _=>((bkT hb6 1).mono hB)) rfl rfl rfl rfl rfl rfl rfl rfl rfl ?_
     refine D.ba hH rfl ⟨?_, ?_,trivial⟩
     ·refine D.bw [] rfl rfl rfl rfl rfl rfl rfl rfl rfl rfl rfl rfl fl_ (fun b71=>?_)
      refine D.ba hH rfl ⟨?_, ?_,trivial⟩
      ·refine D.ai (j:=0) rfl rfl rfl rfl rfl rfl rfl rfl rfl rfl rfl (ha.mono mup) (by simp [encR,oneB,strV]) (by simp only [List.length_map,List.length_nil,maxLen];omega) (by simp only [List.length_map,List.length_nil];omega) fl_ (fun A74 n74 c74=>?_)
       refine D.bw [] rfl rfl rfl rfl rfl rfl rfl rfl rfl rfl rfl rfl fl_ (fun b75=>?_)
       refine D.ai (j:=0) rfl rfl rfl rfl rfl rfl rfl rfl rfl rfl rfl (hb.mono mup) (by simp [encR,oneB,strV]) (by simp only [List.length_map,List.length_nil,maxLen];omega) (by simp only [List.length_map,List.length_nil];omega) fl_ (fun A79 n79 c79=>?_)
       refine D.bw [[.slice A74 n74 c74],[.slice A79 n79 c79]] rfl rfl rfl rfl rfl rfl rfl rfl rfl rfl rfl rfl fl_ (fun b80=>?_)
       refine D.ae ?_
       refine D.e3 3 5 8 hR ?_;clear hR hB hH R
       refine G.perm (L':=dlX0 b80 A74 n74 c74 A79 n79 c79 a b) (pkL [0,1,0] rfl) ?_
       refine dl_leaf hls0 hls1 (fun Af nf cf=>?_)
       exact G.ar 0 mup (h_3 3 5 8) ⟨b80,Af,nf,cf,trivial,rfl,rfl⟩
      ·refine D.bw [] rfl rfl rfl rfl rfl rfl rfl rfl rfl rfl rfl rfl fl_ (fun b75=>?_)
       refine D.ai (j:=1) rfl rfl rfl rfl rfl rfl rfl rfl rfl rfl rfl (ha.mono mup) (by simp [encR,oneB,strV]) (by simp only [List.length_map,List.length_nil,maxLen];omega) (by simp only [List.length_map,List.length_nil];omega) fl_ (fun A74 n74 c74=>?_)
       refine D.ai (j:=1) rfl rfl rfl rfl rfl rfl rfl rfl rfl rfl rfl (hb.mono mup) (by simp [encR,oneB,strV]) (by simp only [List.length_map,List.length_nil,maxLen];omega) (by simp only [List.length_map,List.length_nil];omega) fl_ (fun A79 n79 c79=>?_)
       refine D.bw [[.slice A74 n74 c74],[.slice A79 n79 c79]] rfl rfl rfl rfl rfl rfl rfl rfl rfl rfl rfl rfl fl_ (fun b80=>?_)
       refine D.ae ?_
       refine D.e3 3 5 8 hR ?_;clear hR hB hH R
       refine G.perm (L':=dlX0 b80 A74 n74 c74 A79 n79 c79 a b) (pkL [0,1,0] rfl) ?_
       refine dl_leaf hls0 hls1 (fun Af nf cf=>?_)
       exact G.ar 0 mup (h_3 3 5 8) ⟨b80,Af,nf,cf,trivial,rfl,rfl⟩
     ·refine D.bw [] rfl rfl rfl rfl rfl rfl rfl rfl rfl rfl rfl rfl fl_ (fun b75=>?_)
      refine D.bw [] rfl rfl rfl rfl rfl rfl rfl rfl rfl rfl rfl rfl fl_ (fun b71=>?_)
      refine D.ai (j:=0) rfl rfl rfl rfl rfl rfl rfl rfl rfl rfl rfl (ha.mono mup) (by simp [encR,oneB,strV]) (by simp only [List.length_map,List.length_nil,maxLen];omega) (by simp only [List.length_map,List.length_nil];omega) fl_ (fun A74 n74 c74=>?_)
      refine D.ai (j:=1) rfl rfl rfl rfl rfl rfl rfl rfl rfl rfl rfl (hb.mono mup) (by simp [encR,oneB,strV]) (by simp only [List.length_map,List.length_nil,maxLen];omega) (by simp only [List.length_map,List.length_nil];omega) fl_ (fun A79 n79 c79=>?_)
      refine D.bw [[.slice A74 n74 c74],[.slice A79 n79 c79]] rfl rfl rfl rfl rfl rfl rfl rfl rfl rfl rfl rfl fl_ (fun b80=>?_)
      refine D.ae ?_
      refine D.e3 3 5 8 hR ?_;clear hR hB hH R
      refine G.perm (L':=dlX0 b80 A74 n74 c74 A79 n79 c79 a b) (pkL [0,1,0] rfl) ?_
      refine dl_leaf hls0 hls1 (fun Af nf cf=>?_)
      exact G.ar 0 mup (h_3 3 5 8) ⟨b80,Af,nf,cf,trivial,rfl,rfl⟩
    obtain ⟨g8,Af,nf,cf,_,rfl,rfl⟩:=hI
    refine G.fh 1 rfl (fun A' c' hv1=>?_)
    refine G.fh 2 rfl (fun A'' c'' hv2=>?_)
    have hnf0:nf 0=(ls 0).length:=by injection hv1
    have hnf1:nf 1=(ls 1).length:=by injection hv2
    have qls:∀ i,i<2->∀ x∈ls i,QB 1 x:=fun i hi=>by
     rcases (by omega:i=0∨i=1) with rfl | rfl
     ·rw [hls0];exact qa
     ·rw [hls1];exact qb
    have hlsl:∀ i,i<2->(ls i).length<=6:=fun i hi=>by
     rcases (by omega:i=0∨i=1) with rfl | rfl
     ·rw [hls0];omega
     ·rw [hls1];omega
    obtain ⟨k,hk⟩:∃ k,how / 4 % 2=k:=⟨_,rfl⟩
    have hk2:0=k∨1=k:=by omega
    refine G.rp 1 fun R hR=>?_
    refine D.ac (bkT hb3 1) ?_
    refine D.quo (p:=(how:Int)) (q:=4) rfl rfl rfl rfl rfl rfl (by decide) om_ (by rw [IntKind.wrap_u8];omega) rfl rfl ?_
    refine D.bT (c:=((how / 4:Nat):Int)) rfl rfl rfl rfl rfl rfl rfl rfl (by rw [IntKind.wrap_i64];omega) fl_ ?_
    refine D.remN (how / 4) 2 rfl rfl rfl rfl rfl rfl (by decide) rfl rfl ?_
    refine D.q4 1 3 5 8 9 hR ?_;clear hR R
    rw [hk]
    obtain ⟨Bk,mk,dk,hld,hBk⟩:∃ (Bk:Option Addr)(mk dk:Nat),(([Value.slice (Af 0) (nf 0) (cf 0),.slice (Af 1) (nf 1) (cf 1)].drop k).take 1=[.slice Bk mk dk])/\(Af k=Bk/\(ls k).length=mk/\cf k=dk):=by
     rcases hk2 with h | h
     ·subst h;exact ⟨_,_,_,rfl,rfl,hnf0.symm,rfl⟩
     ·subst h;exact ⟨_,_,_,rfl,rfl,hnf1.symm,rfl⟩
    refine G.rp 1 fun R hR=>?_
    refine D.ac (bkT hb3 1) ?_
    refine D.remN how 4 rfl rfl rfl rfl rfl rfl (by decide) rfl rfl ?_
    refine D.ps 4 ?_
    refine D.aD (k*1) rfl rfl rfl rfl rfl rfl rfl rfl rfl rfl (fun _=>⟨by omega,by omega,by rw [Int.toNat_natCast]⟩) rfl rfl ?_
    refine D.aT (v:=.slice Bk mk dk) (.head _) rfl rfl rfl rfl rfl rfl (fun _=>(by rw [Nat.mul_one];show (([Value.slice (Af 0) (nf 0) (cf 0),.slice (Af 1) (nf 1) (cf 1)].drop k).take 1)[0]?=_;rw [hld];rfl)) rfl rfl ?_
    refine D.ps 2 ?_
    refine D.au ?_
    refine D.q5 1 3 5 8 9 86 hR ?_;clear hR R
    refine G.bW (fun fr C' L' μ=>∃ (ss:Nat->Value)(ts:Nat->List Str),(Sl C' 1 (.slice (some ⟨g8,0,none⟩) 2 2) [[ss 0],[ss 1]]/\∀ i,i<2->Sl C' 1 (ss i) ((ts i).map dY)/\Spoil sby ((ls i).map qtx) (ts i))/\fr=[(5,[],.pointer (some ⟨b5,0,none⟩)),(8,[],.slice (some ⟨g8,0,none⟩) 2 2)]/\L'=[]) ?_ (fun fr C86 L86 μ hle86 hI=>?_)
    ·refine G.cd (fun h86=>?_) fun h86=>?_
     ·have h86':how % 4=0/\0<mk:=by
       have h86':((((how % 4:Nat):Int) == 0) && decide ((mk:Int) > 0))=true:=h86
       simp only [Bool.and_eq_true,beq_iff_eq,decide_eq_true_eq] at h86'
       omega
      obtain ⟨hBA,hBn,hBc⟩:=hBk
      rw [<- hBn] at h86'
      obtain ⟨_,hmp⟩:=h86'
      have hB2:=hk2
      rcases hB2 with rfl | rfl
      ·refine G.fe (1+0) rfl hmp (fun gk ck hwk=>?_)
       injection hwk with ek1 ek2 ek3
       rw [ek1,ek2,ek3]
       have hem:((at_:Int) % ((ls 0).length:Int))=((at_ % (ls 0).length:Nat):Int):=(Int.natCast_emod ..).symm
       have hlt:=Nat.mod_lt at_ hmp
       refine G.aH [0,1,2,3,4,5,6,7,8,9,10,11,12,13,14,15,16] [(6,0)] rfl kr_ (fun R hB hR=>?_)
       refine D.ps 2 ?_
       refine D.aD (0*1) rfl rfl rfl rfl rfl rfl rfl rfl rfl rfl (fun _=>⟨by omega,by omega,rfl⟩) rfl rfl ?_
       refine D.aT (.head _) rfl rfl rfl rfl rfl rfl fl_ rfl rfl ?_
       refine D.ae ?_
       refine D.ac (bkT hb3 1) ?_
       refine D.convQ (c:=(at_:Int)) rfl rfl rfl rfl rfl rfl rfl rfl (by rw [IntKind.wrap_i64];omega) rfl rfl ?_
       refine D.ps 2 ?_
       refine D.aD (0*1) rfl rfl rfl rfl rfl rfl rfl rfl rfl rfl (fun _=>⟨by omega,by omega,rfl⟩) rfl rfl ?_
       refine D.aT (.head _) rfl rfl rfl rfl rfl rfl fl_ rfl rfl ?_
       refine D.ae ?_
       refine D.rem rfl rfl rfl rfl rfl rfl om_ om_ rfl rfl ?_
       refine D.ae ?_
       refine D.ac (bkT hb3 1) ?_
       refine D.aD (at_ % (ls 0).length*1) rfl rfl rfl rfl rfl rfl rfl rfl rfl rfl (fun _=>⟨by rw [hem];omega,by rw [hem];omega,by rw [hem,Int.toNat_natCast]⟩) rfl rfl ?_
       refine D.aE (j:=1+0) rfl rfl rfl rfl rfl rfl rfl rfl rfl rfl rfl (by show at_ % (ls 0).length*1+1<=_;rw [aW aU];omega) ?_
       refine D.e2 5 8 hR ?_;clear hR hB R
       refine G.freezeArr 0 ((((ls 0).map qtx).set (at_ % (ls 0).length) sby).map dY) rfl (by rw [bS];exact aL (enc:=dY) fl_ sby (by rw [List.length_map];exact hlt)) (fun r hr=>by obtain ⟨y,_,rfl⟩:=List.mem_map.1 hr;rfl) (by simp) (fun CE hlE hw1=>?_)
       refine G.freezeArr 0 [[_],[_]] rfl rfl (fun r hr=>by simp only [List.mem_cons,List.not_mem_nil,or_false] at hr;rcases hr with rfl | rfl <;> rfl) rfl (fun CG hlG hwg=>?_)
       refine G.freezeArr 0 ((ls 1).map encR) rfl rfl bK (by simp) (fun CO hlO hw2=>?_)
       rw [bS] at hw2
       refine G.ar 0 mup (h_2 5 8) ⟨fun i=>if i=0 then .slice (some ⟨gk,0,none⟩) (ls 0).length ck else .slice (Af i) (nf i) (cf i),fun i=>if i=0 then ((ls 0).map qtx).set (at_ % (ls 0).length) sby else (ls i).map qtx,⟨hwg.mono mup,fun i hi=>by
        by_cases h:i=0
        ·subst h
         exact ⟨hw1.mono mup,.inr (.inl ⟨_,by rw [List.length_map];exact hlt,rfl⟩)⟩
        ·have e:i=1:=by omega
         subst e
         exact ⟨hw2.mono mup,.inl rfl⟩⟩,rfl,rfl⟩
      ·refine G.fe (1+1) rfl hmp (fun gk ck hwk=>?_)
       injection hwk with ek1 ek2 ek3
       rw [ek1,ek2,ek3]
       have hem:((at_:Int) % ((ls 1).length:Int))=((at_ % (ls 1).length:Nat):Int):=(Int.natCast_emod ..).symm
       have hlt:=Nat.mod_lt at_ hmp
       refine G.aH [0,1,2,3,4,5,6,7,8,9,10,11,12,13,14,15,16] [(6,0)] rfl kr_ (fun R hB hR=>?_)
       refine D.ps 2 ?_
       refine D.aD (1*1) rfl rfl rfl rfl rfl rfl rfl rfl rfl rfl (fun _=>⟨by omega,by omega,rfl⟩) rfl rfl ?_
       refine D.aT (.head _) rfl rfl rfl rfl rfl rfl fl_ rfl rfl ?_
       refine D.ae ?_
       refine D.ac (bkT hb3 1) ?_
       refine D.convQ (c:=(at_:Int)) rfl rfl rfl rfl rfl rfl rfl rfl (by rw [IntKind.wrap_i64];omega) rfl rfl ?_
       refine D.ps 2 ?_
       refine D.aD (1*1) rfl rfl rfl rfl rfl rfl rfl rfl rfl rfl (fun _=>⟨by omega,by omega,rfl⟩) rfl rfl ?_
       refine D.aT (.head _) rfl rfl rfl rfl rfl rfl fl_ rfl rfl ?_
       refine D.ae ?_
       refine D.rem rfl rfl rfl rfl rfl rfl om_ om_ rfl rfl ?_
       refine D.ae ?_
       refine D.ac (bkT hb3 1) ?_
       refine D.aD (at_ % (ls 1).length*1) rfl rfl rfl rfl rfl rfl rfl rfl rfl rfl (fun _=>⟨by rw [hem];omega,by rw [hem];omega,by rw [hem,Int.toNat_natCast]⟩) rfl rfl ?_
       refine D.aE (j:=1+1) rfl rfl rfl rfl rfl rfl rfl rfl rfl rfl rfl (by show at_ % (ls 1).length*1+1<=_;rw [aW aU];omega) ?_
       refine D.e2 5 8 hR ?_;clear hR hB R
       refine G.freezeArr 0 ((((ls 1).map qtx).set (at_ % (ls 1).length) sby).map dY) rfl (by rw [bS];exact aL (enc:=dY) fl_ sby (by rw [List.length_map];exact hlt)) (fun r hr=>by obtain ⟨y,_,rfl⟩:=List.mem_map.1 hr;rfl) (by simp) (fun CE hlE hw1=>?_)
       refine G.freezeArr 0 [[_],[_]] rfl rfl (fun r hr=>by simp only [List.mem_cons,List.not_mem_nil,or_false] at hr;rcases hr with rfl | rfl <;> rfl) rfl (fun CG hlG hwg=>?_)
       refine G.freezeArr 0 ((ls 0).map encR) rfl rfl bK (by simp) (fun CO hlO hw2=>?_)
       rw [bS] at hw2
       refine G.ar 0 mup (h_2 5 8) ⟨fun i=>if i=1 then .slice (some ⟨gk,0,none⟩) (ls 1).length ck else .slice (Af i) (nf i) (cf i),fun i=>if i=1 then ((ls 1).map qtx).set (at_ % (ls 1).length) sby else (ls i).map qtx,⟨hwg.mono mup,fun i hi=>by
        by_cases h:i=1
        ·subst h
         exact ⟨hw1.mono mup,.inr (.inl ⟨_,by rw [List.length_map];exact hlt,rfl⟩)⟩
        ·have e:i=0:=by omega
         subst e
         exact ⟨hw2.mono mup,.inl rfl⟩⟩,rfl,rfl⟩
     ·refine G.rp 1 fun R hR=>?_
      refine D.ac (bkT hb3 1) ?_
      refine D.rem rfl rfl rfl rfl rfl rfl om_ om_ rfl rfl ?_
      refine D.q5 2 3 5 8 9 115 hR ?_;clear hR R
      refine G.cd (fun h115=>?_) fun h115=>?_
      ·have hB2:=hk2
       rcases hB2 with rfl | rfl
       ·refine G.aH [0,1,2,3,4,5,6,7,8,9,10,11] [] rfl kr_ (fun R hB hR=>?_)
        refine D.ps 4 ?_
        refine D.aD (0*1) rfl rfl rfl rfl rfl rfl rfl rfl rfl rfl (fun _=>⟨by omega,by omega,rfl⟩) rfl rfl ?_
        refine D.aT (.head _) rfl rfl rfl rfl rfl rfl fl_ rfl rfl ?_
        refine D.ae ?_
        refine D.ac (bkT hb3 1) ?_
        refine D.af [[strV sby]] (fun p128 C128 hle128 hs128=>?_)
        refine D.ai (j:=1+0) rfl rfl rfl rfl rfl rfl rfl rfl rfl rfl rfl (hs128.mono mup) rfl (by have:=hlsl 0 (by decide);simp only [List.length_singleton,maxLen];omega) (by have:=hlsl 0 (by decide);show ((ls 0).length+1)*16<=_;omega) fl_ (fun A129 n129 c129=>?_)
        refine D.aD (0*1) rfl rfl rfl rfl rfl rfl rfl rfl rfl rfl (fun _=>⟨by omega,by omega,rfl⟩) rfl rfl ?_
        refine D.aE (j:=1) rfl rfl rfl rfl rfl rfl rfl rfl rfl rfl rfl (by simp) ?_
        refine D.e2 5 8 hR ?_;clear hR hB R
        refine G.freezeArr 0 [[_],[_]] rfl rfl (fun r hr=>by simp only [List.mem_cons,List.not_mem_nil,or_false] at hr;rcases hr with rfl | rfl <;> rfl) rfl (fun CG hlG hwg=>?_)
        refine G.freezeArr 0 (((ls 0).map qtx++[sby]).map dY) rfl (by rw [bS,List.map_append,List.flatten_append];rfl) (fun r hr=>by obtain ⟨y,_,rfl⟩:=List.mem_map.1 hr;rfl) (by simp) (fun CE hlE hw1=>?_)
        refine G.freezeArr 0 ((ls 1).map encR) rfl rfl bK (by simp) (fun CO hlO hw2=>?_)
        rw [bS] at hw2
        refine G.ar 0 mup (h_2 5 8) ⟨fun i=>if i=0 then .slice A129 n129 c129 else .slice (Af i) (nf i) (cf i),fun i=>if i=0 then (ls 0).map qtx++[sby] else (ls i).map qtx,⟨hwg.mono mup,fun i hi=>by
         by_cases h:i=0
         ·subst h
          exact ⟨hw1.mono mup,.inr (.inr rfl)⟩
         ·have e:i=1:=by omega
          subst e
          exact ⟨hw2.mono mup,.inl rfl⟩⟩,rfl,rfl⟩
       ·refine G.aH [0,1,2,3,4,5,6,7,8,9,10,11] [] rfl kr_ (fun R hB hR=>?_)
        refine D.ps 4 ?_
        refine D.aD (1*1) rfl rfl rfl rfl rfl rfl rfl rfl rfl rfl (fun _=>⟨by omega,by omega,rfl⟩) rfl rfl ?_
        refine D.aT (.head _) rfl rfl rfl rfl rfl rfl fl_ rfl rfl ?_
        refine D.ae ?_
        refine D.ac (bkT hb3 1) ?_
        refine D.af [[strV sby]] (fun p128 C128 hle128 hs128=>?_)
        refine D.ai (j:=1+1) rfl rfl rfl rfl rfl rfl rfl rfl rfl rfl rfl (hs128.mono mup) rfl (by have:=hlsl 1 (by decide);simp only [List.length_singleton,maxLen];omega) (by have:=hlsl 1 (by decide);show ((ls 1).length+1)*16<=_;omega) fl_ (fun A129 n129 c129=>?_)
        refine D.aD (1*1) rfl rfl rfl rfl rfl rfl rfl rfl rfl rfl (fun _=>⟨by omega,by omega,rfl⟩) rfl rfl ?_
        refine D.aE (j:=1) rfl rfl rfl rfl rfl rfl rfl rfl rfl rfl rfl (by simp) ?_
        refine D.e2 5 8 hR ?_;clear hR hB R
        refine G.freezeArr 0 [[_],[_]] rfl rfl (fun r hr=>by simp only [List.mem_cons,List.not_mem_nil,or_false] at hr;rcases hr with rfl | rfl <;> rfl) rfl (fun CG hlG hwg=>?_)
        refine G.freezeArr 0 (((ls 1).map qtx++[sby]).map dY) rfl (by rw [bS,List.map_append,List.flatten_append];rfl) (fun r hr=>by obtain ⟨y,_,rfl⟩:=List.mem_map.1 hr;rfl) (by simp) (fun CE hlE hw1=>?_)
        refine G.freezeArr 0 ((ls 0).map encR) rfl rfl bK (by simp) (fun CO hlO hw2=>?_)
        rw [bS] at hw2
        refine G.ar 0 mup (h_2 5 8) ⟨fun i=>if i=1 then .slice A129 n129 c129 else .slice (Af i) (nf i) (cf i),fun i=>if i=1 then (ls 1).map qtx++[sby] else (ls i).map qtx,⟨hwg.mono mup,fun i hi=>by
         by_cases h:i=1
         ·subst h
          exact ⟨hw1.mono mup,.inr (.inr rfl)⟩
         ·have e:i=0:=by omega
          subst e
          exact ⟨hw2.mono mup,.inl rfl⟩⟩,rfl,rfl⟩
      ·refine G.freezeArr 0 [[_],[_]] rfl rfl (fun r hr=>by simp only [List.mem_cons,List.not_mem_nil,or_false] at hr;rcases hr with rfl | rfl <;> rfl) rfl (fun CG hlG hwg=>?_)
       refine G.freezeArr 0 ((ls 0).map encR) rfl rfl bK (by simp) (fun CE hlE hw1=>?_)
       refine G.freezeArr 0 ((ls 1).map encR) rfl rfl bK (by simp) (fun CO hlO hw2=>?_)
       rw [bS] at hw1 hw2
       refine G.ar 0 mup (h_2 5 8) ⟨fun i=>.slice (Af i) (nf i) (cf i),fun i=>(ls i).map qtx,⟨hwg.mono mup,fun i hi=>by
        rcases (by omega:i=0∨i=1) with rfl | rfl
        ·exact ⟨hw1.mono mup,.inl rfl⟩
        ·exact ⟨hw2.mono mup,.inl rfl⟩⟩,rfl,rfl⟩
    ·obtain ⟨ss ,ts,⟨hs8,hst⟩,rfl,rfl⟩:=hI
     obtain ⟨hsa,spa⟩:=hst 0 (by decide)
     obtain ⟨hsb,spb⟩:=hst 1 (by decide)
     rw [hls0] at spa
     rw [hls1] at spb
     obtain ⟨pa,hpa⟩:∃ pa,ts 0=pa:=⟨_,rfl⟩
     obtain ⟨pb,hpb⟩:∃ pb,ts 1=pb:=⟨_,rfl⟩
     rw [hpa] at hsa spa
     rw [hpb] at hsb spb
     obtain ⟨ps,hps⟩:=spoil_one spa qa hs20
     obtain ⟨ds,hds⟩:=spoil_one spb qb hs20
     have hpl:=spoil_len spa qa hs20
     have hdl:=spoil_len spb qb hs20
     have hpc:=spoil_count spa
     have hdc:=spoil_count spb
     rw [List.length_map] at hpc hdc
     obtain ⟨A10,c10,e10,_⟩:=id hsa
     obtain ⟨A11,c11,e11,_⟩:=id hsb
     rw [e10,e11] at hs8
     rw [e10] at hsa
     rw [e11] at hsb
     simp only [List.length_map] at hs8 hsa hsb
     have hps':pa.all aY=true->pa=ps.map qtx/\∀ x∈ps,QB 23 x:=fun h=>⟨(hps h).1,oneB_23 (hps h).2⟩
     have hds':pb.all aY=true->pb=ds.map qtx/\∀ x∈ds,QB 23 x:=fun h=>⟨(hds h).1,oneB_23 (hds h).2⟩
     have hrt:=fun (h1:bk (n:Int) pa=0)(h2:sumE (rows.map (aR n)).length pb ds=0)=>sums_right (n:=n) (rows:=rows) (l:=[o0,o1,o2]) hn3 hl6 (hps (bv.1 h1).2).2 (hds (bv.1 (dP.1 h2).1).2).2
     have hz:=chkP_right (n:=n) om_ om_ hq.l hqr (cD (l:=[o0,o1,o2])) hqo
     have hrz:=dS hq.l hqr
     have hrl:RowsL ((rows.map (aR n)).map bd):=fun r hr=>by
      obtain ⟨x,hx,rfl⟩:=List.mem_map.1 hr
      refine ⟨fun s hs=>?_,Nat.le_trans (aZ (hqr x hx).2 (by decide)) (by decide)⟩
      obtain ⟨q,hq2,rfl⟩:=List.mem_map.1 hs
      exact Nat.le_trans (aZ ((hqr x hx).1 q hq2) (by decide)) (by decide)
     have hos8:∀ s∈((facL [o0,o1,o2] n).map qtx),s.length<=999998:=fun s hs=>by
      obtain ⟨q,hq2,rfl⟩:=List.mem_map.1 hs
      exact Nat.le_trans (aZ (hqo q hq2) (by decide)) (by decide)
     have qc23:∀ x∈facL [o0,o1,o2] n,QB 23 x:=fun x hx=>(hqo x hx).le (by decide)
     have hoE:Sl C33 1 (.slice Ao (facL [o0,o1,o2] n).length co) (((facL [o0,o1,o2] n).map qtx).map dY):=by have:=hoT;rw [bS] at this;exact this
     refine G.rp 1 fun R hR=>?_
     refine D.ak (hs8.mono mup) rfl rfl rfl rfl rfl rfl rfl rfl rfl rfl om_ rfl fl_ (fun p132 hp132=>?_)
     refine D.ac hp132 ?_
     refine D.build [.slice A11 pb.length c11] rfl rfl rfl rfl rfl rfl rfl rfl ?_
     refine D.aC (fun b10=>?_)
     refine D.ag (j:=0) ?_
     refine D.e3 5 8 10 hR ?_;clear hR R
     refine G.freeze 0 rfl (fun C10 hle10 hb10=>?_)
     refine G.rg fun R hR=>?_
     refine D.ac (bkT hb5 3) ?_
     refine D.ac (bkT hb10 1) ?_
     refine D.al (bound_fn _ (hT.mono mup) n _ _ _ (rows.map (aR n)) pb (facL [o0,o1,o2] n) ds (hrT0.mono mup) (hoE.mono mup) hrl hq hz cD om_ qc23 (hsb.mono mup) (fun s hs=>Nat.le_trans (hdl s hs) (by decide)) hds') rfl rfl rfl rfl rfl rfl rfl fl_ ?_
     refine D.q5 5 5 8 10 11 12 hR ?_;clear hR R
     refine G.aH [0,1,2,3,4,5,6,7,8,9] [(4,1)] rfl kr_ (fun R hB hR=>?_)
     refine D.ac (bkT hb5 3) ?_
     refine D.ae ?_
     refine D.ak (hs8.mono mup) rfl rfl rfl rfl rfl rfl rfl rfl rfl rfl om_ rfl fl_ (fun p144 hp144=>?_)
     refine D.ac hp144 ?_
     refine D.a6 (fun _=>(worth_fn _ (hT.mono mup) n _ _ _ ((rows.map (aR n)).map bd) pa (facL [o0,o1,o2] n) ps (hrT0.mono mup) (hoE.mono mup) hrl hz cD om_ qc23 (hsa.mono mup) (fun s hs=>Nat.le_trans (hpl s hs) (by decide)) hps')) rfl rfl rfl rfl rfl rfl rfl rfl rfl ?_
     refine D.ps 5 ?_
     refine D.e7 5 8 10 11 12 13 14 hR ?_;clear hR hB R
     refine G.aH [0,1,2,3,4,5,6,7,8,9] [] rfl kr_ (fun R hB hR=>?_)
     refine D.ac (bkT hb5 3) ?_
     refine D.ae ?_
     refine D.ak (hs8.mono mup) rfl rfl rfl rfl rfl rfl rfl rfl rfl rfl om_ rfl fl_ (fun p152 hp152=>?_)
     refine D.ac hp152 ?_
     refine D.ax (violated_fn _ (hT.mono mup) n _ _ _ (rows.map (aR n)) pa (facL [o0,o1,o2] n) ps (hrT0.mono mup) (hoE.mono mup) hrl hq hz om_ qc23 (hsa.mono mup) (fun s hs=>Nat.le_trans (hpl s hs) (by decide)) hps') rfl rfl rfl rfl rfl rfl rfl fl_ (fun v154 C154 hle154 hq154=>?_)
     obtain ⟨Av,mv,cv,rfl,hmv⟩:=hq154
     refine D.ps 5 ?_
     refine D.e9 5 8 10 11 12 13 14 15 16 hR ?_;clear hR hB R
     refine G.rp 5 fun R hR=>?_
     refine D.au ?_
     refine D.ps 3 ?_
     refine D.au ?_
     refine D.ps 4 ?_
     refine D.au ?_
     refine D.ps 4 ?_
     refine D.au ?_
     refine D.q4 1 5 8 10 17 hR ?_;clear hR R
     refine G.aH [0,1,2,3,4,5,6,7,8,9,10,11,12,13,14,15,16,17,18,19,20,21,22,23,24] [(8,1)] rfl kr_ (fun R hB hR=>?_)
     refine D.ae ?_
     refine D.ac (bkT hb5 1) ?_
     refine D.ae ?_
     refine D.ac (bkT hb5 1) ?_
     refine D.ae ?_
     refine D.ak (hs8.mono mup) rfl rfl rfl rfl rfl rfl rfl rfl rfl rfl om_ rfl fl_ (fun p182 hp182=>?_)
     refine D.ac hp182 ?_
     refine D.ac (bkT hb10 1) ?_
     refine D.a6 (fun _=>(optimal_fn _ (hT.mono mup) _ _ _ _ _ _ ((rows.map (aR n)).map bd) ((facL [o0,o1,o2] n).map qtx) pa pb (hRI.mono mup) (hoS.mono mup) (hsa.mono mup) (hsb.mono mup) (by rw [List.length_map,hm];omega) hfc (by rw [List.length_map,cD];omega) hos om_ (fun s hs=>Nat.lt_of_le_of_lt (hpl s hs) (by decide)) om_ (fun s hs=>Nat.lt_of_le_of_lt (hdl s hs) (by decide)))) rfl rfl rfl rfl rfl rfl rfl rfl rfl ?_
     refine D.ps 4 ?_
     refine D.aK rfl rfl rfl rfl rfl rfl (fun _=>PtrTo.blockT (Mem.get hb5 mup) _ 1) rfl rfl rfl ?_
     refine D.ae ?_
     refine D.aK rfl rfl rfl rfl rfl rfl (fun _=>PtrTo.blockT (Mem.get hb5 mup) _ 1) rfl rfl rfl ?_
     refine D.aK rfl rfl rfl rfl rfl rfl (fun _=>PtrTo.blockT (Mem.get hb10 mup) _ 1) rfl rfl rfl ?_
     refine D.a6 (fun _=>(crefutes_fn _ (hT.mono mup) _ (n:Nat) _ _ _ ((rows.map (aR n)).map bd) pb (hRI.mono mup) (hsb.mono mup) (by rw [List.length_map,hm];omega) hfc om_ (fun s hs=>Nat.lt_of_le_of_lt (hdl s hs) (by decide)))) rfl rfl rfl rfl rfl rfl rfl rfl rfl ?_
     refine D.aK rfl rfl rfl rfl rfl rfl (fun _=>PtrTo.blockT (Mem.get hb5 mup) _ 3) rfl rfl rfl ?_
     refine D.aK rfl rfl rfl rfl rfl rfl (fun _=>PtrTo.blockT (Mem.get hb10 mup) _ 1) rfl rfl rfl ?_
     refine D.a6 (fun _=>(prefutes_fn _ (hT.mono mup) n _ _ _ ((rows.map (aR n)).map bd) ((facL [o0,o1,o2] n).map qtx) pb (rows.map (aR n)) ds (hrT0.mono mup) (hoE.mono mup) hrl hos8 (hsb.mono mup) (fun s hs=>Nat.le_trans (hdl s hs) (by decide)) (fun _=>⟨rfl,hq⟩) hds')) rfl rfl rfl rfl rfl rfl rfl rfl rfl ?_
     refine D.ps 2 ?_
     refine D.au ?_
     refine D.ae ?_
     refine D.e1 4 hR ?_;clear hR hB R
     refine G.rf ?_
     refine ⟨?_,rfl⟩
     have ho1:=opt_same (m:=mv) hrz hq.l (cD (l:=[o0,o1,o2])) (d3 hqo) hps' hds' hmv hrt
     have ho2:=ref_law om_ om_ hq hqr (cD (l:=[o0,o1,o2])) hqo hds'
     show Value.bool _=Value.bool true
     congr 1
     rw [Bool.and_eq_true,beq_iff_eq,beq_iff_eq]
     exact ⟨ho1.symm,ho2⟩
open Go Go.Jog Go.ChangeShapes Go.WideShapes Go.ChangeAt Go.RowKit
set_option maxRecDepth 100000

theorem own:ownKnob Tryz.prog.godebug=none:=by kernel_rfl
section
variable {H:Type} {enc:TypeId × Value->H} {W:World} {spare:Nat->Bool} {held:Bool}
theorem u8_of {n:Nat}{c:Value}{y:DataW H × List MemPlace}(h:DataW.trod enc Tryz.prog W 0 spare held n 5 [c]=some y):∃ b:UInt8,c=.int .u8 b.toNat:=by
 obtain ⟨m,h1,_,h3⟩:=DataW.trod_int Tryz.underlying5 h
 simp only [List.cons.injEq,and_true] at h1
 subst h1
 have hb:0<=m/\m<256:=by
  simp [Lit.wf,IntKind.min,IntKind.max,IntKind.signed,IntKind.bits] at h3
  omega
 refine ⟨UInt8.ofNat m.toNat, ?_⟩
 congr 1
 simp only [UInt8.toNat_ofNat']
 omega
theorem u8n_of {n:Nat}{c:Value}{y:DataW H × List MemPlace}(h:DataW.trod enc Tryz.prog W 0 spare held n 5 [c]=some y):∃ m:Nat,c=.int .u8 m/\m<256:=by
 obtain ⟨b,rfl⟩:=u8_of h
 exact ⟨b.toNat,rfl,b.toNat_lt⟩
theorem i8_of {n:Nat}{c:Value}{y:DataW H × List MemPlace}(h:DataW.trod enc Tryz.prog W 0 spare held n 23 [c]=some y):∃ m:Int,c=.int .i8 m/\-128<=m/\m<=127:=by
 obtain ⟨m,h1,_,h3⟩:=DataW.trod_int Tryz.underlying23 h
 simp only [List.cons.injEq,and_true] at h1
 refine ⟨m,h1, ?_⟩
 simp [Lit.wf,IntKind.min,IntKind.max,IntKind.signed,IntKind.bits] at h3
 omega
theorem arr_of {t e:TypeId}{k n:Nat}{cs:List Value}{y:DataW H × List MemPlace}(ht:Tryz.prog.underlying t=some (.array k e))(he:Tryz.prog.cellsOf e=1)(h:DataW.trod enc Tryz.prog W 0 spare held n t cs=some y) :
  ∃ m,∀ i,i<k->∃ z,DataW.trod enc Tryz.prog W 0 spare held m e ((cs.drop i).take 1)=some z:=by
 obtain ⟨xs,m,_,_,_,hx,hf⟩:=DataW.trod_array ht h
 refine ⟨m,fun i hi=>?_⟩
 have h1:=hf i hi
 rw [he,Nat.mul_one] at h1
 rw [h1,List.getElem?_eq_getElem om_]
 exact ⟨_,rfl⟩
theorem cells_u8:Tryz.prog.cellsOf 5=1:=by kernel_rfl
theorem cells_i8:Tryz.prog.cellsOf 23=1:=by kernel_rfl
theorem cells_a3:Tryz.prog.cellsOf 24=3:=by kernel_rfl
theorem rat_strA {n:Nat}{c:Value}{y:DataW H × List MemPlace}(h:DataW.trod enc Tryz.prog W 0 spare held n 27 [c]=some y):∃ s:Str,c=strV s:=by
 obtain ⟨s,h1,_⟩:=DataW.trod_string Tryz.underlying27 h
 simp only [List.cons.injEq,and_true] at h1
 obtain ⟨⟨l⟩⟩:=s
 exact ⟨l,h1⟩
theorem prows_of {fuel:Nat}{v:Value}{x:DataW H × List MemPlace}(h:DataW.trod enc Tryz.prog W 0 spare held fuel 22 [v]=some x):∃ l:List PRow,Sl (memOf W) 4 v (l.map PRow.enc)/\∀ r∈l,r.ok:=by
 obtain ⟨l,hl⟩:∃ l:List {r:PRow // r.ok},Sl (memOf W) 4 v (l.map fun r=>PRow.enc r.1):=sl_of_arg (fun r:{r:PRow // r.ok}=>PRow.enc r.1) Tryz.underlying22 kr_ (by decide) (fun n cs y hl hy=>by
  match cs,hl with
  | [c0,c1,c2,c3],_ =>
   obtain ⟨m,ha⟩:=arr_of Tryz.underlying70 cells_i8 hy
   obtain ⟨z0,e0⟩:=ha 0 (by decide)
   obtain ⟨z1,e1⟩:=ha 1 (by decide)
   obtain ⟨z2,e2⟩:=ha 2 (by decide)
   obtain ⟨z3,e3⟩:=ha 3 (by decide)
   obtain ⟨a,rfl,ga⟩:=i8_of e0
   obtain ⟨b,rfl,gb⟩:=i8_of e1
   obtain ⟨c,rfl,gc⟩:=i8_of e2
   obtain ⟨d,rfl,gd⟩:=i8_of e3
   exact ⟨⟨⟨a,b,c,d⟩,ga,gb,gc,gd⟩,rfl⟩) h
 refine ⟨l.map (·.1),by rw [List.map_map];exact hl,fun r hr=>?_⟩
 obtain ⟨x,_,rfl⟩:=List.mem_map.1 hr
 exact x.2
theorem plan7_of {n:Nat}{cs:List Value}{y:DataW H × List MemPlace}(h:DataW.trod enc Tryz.prog W 0 spare held n 26 cs=some y) :
  ∃ (v:Nat)(vr:Value)(rows:List PRow)(o0 o1 o2:Int),cs=[.int .u8 v,vr,.int .i8 o0,.int .i8 o1,.int .i8 o2]/\Sl (memOf W) 4 vr (rows.map PRow.enc)/\(∀ r∈rows,r.ok)/\i8R o0/\i8R o1/\i8R o2/\v<256:=by
 obtain ⟨y0,y1,y2,n',_,hl,h0,h1,h2⟩:=Go.Deep.trod_struct3 Tryz.underlying26 h
 have hc:Tryz.prog.cellsOf 26=5:=by kernel_rfl
 have hs:Tryz.prog.cellsOf 22=1:=by kernel_rfl
 rw [hc] at hl
 match cs,hl with
 | [c0,c1,c2,c3,c4],_ =>
  simp only [cells_u8,cells_a3,hs] at h0 h1 h2
  obtain ⟨v,rfl,hv⟩:=u8n_of h0
  obtain ⟨rows,hr,hok⟩:=prows_of h1
  obtain ⟨m,ha⟩:=arr_of Tryz.underlying24 cells_i8 h2
  obtain ⟨z0,e0⟩:=ha 0 (by decide)
  obtain ⟨z1,e1⟩:=ha 1 (by decide)
  obtain ⟨z2,e2⟩:=ha 2 (by decide)
  obtain ⟨o0,rfl,g0⟩:=i8_of e0
  obtain ⟨o1,rfl,g1⟩:=i8_of e1
  obtain ⟨o2,rfl,g2⟩:=i8_of e2
  exact ⟨v,c1,rows,o0,o1,o2,rfl,hr,hok,g0,g1,g2,hv⟩
theorem spoil7_of {n:Nat}{cs:List Value}{y:DataW H × List MemPlace}(h:DataW.trod enc Tryz.prog W 0 spare held n 29 cs=some y) :
  ∃ (how at_:Nat)(s:Str),cs=[.int .u8 how,.int .u8 at_,strV s]/\how<256/\at_<256:=by
 obtain ⟨y0,y1,y2,n',_,hl,h0,h1,h2⟩:=Go.Deep.trod_struct3 Tryz.underlying29 h
 have hc:Tryz.prog.cellsOf 29=3:=by kernel_rfl
 have hs:Tryz.prog.cellsOf 27=1:=by kernel_rfl
 rw [hc] at hl
 match cs,hl with
 | [c0,c1,c2],_ =>
  simp only [cells_u8,hs] at h0 h1 h2
  obtain ⟨a,rfl,ga⟩:=u8n_of h0
  obtain ⟨b,rfl,gb⟩:=u8n_of h1
  obtain ⟨s,rfl⟩:=rat_strA h2
  exact ⟨a,b,s,rfl,ga,gb⟩
end

def layCells (cs:Array Value):Obj->Obj
 | .cells _ t frozen=>.cells cs t frozen
 | o=>o
def db32Cells:Array Value:=(Lib.deBruijn32tab.map fun z:Nat=>Value.int .u8 (z:Int)).toArray
def db64Cells:Array Value:=(Lib.deBruijn64tab.map fun z:Nat=>Value.int .u8 (z:Int)).toArray
def pow10Cells:Array Value:=(Lib.pow10Tab.map fun z=>Value.int .u64 z).toArray
def rangeText:ByteArray:=⟨#[118,97,108,117,101,32,111,117,116,32,111,102,32,114,97,110,103,101]⟩
def syntaxText:ByteArray:=⟨#[105,110,118,97,108,105,100,32,115,121,110,116,97,120]⟩
noncomputable def low:Nat:=(World.holding Tryz.prog default ⟨#[],#[],[]⟩).heap.size
noncomputable def laidWorld (os:Os):World :=
 let w0:=World.holding Tryz.prog os ⟨#[.cells #[.string rangeText] 308,.cells #[.string syntaxText] 308],#[],[]⟩
 { w0 with heap:=((((w0.heap.modify 4 (layCells db32Cells)).modify 5 (layCells db64Cells)).modify 1 (layCells pow10Cells)).modify 3 (layCells #[.iface 306 (.pointer (some ⟨low,0,none⟩))])).modify 2 (layCells #[.iface 306 (.pointer (some ⟨low+1,0,none⟩))]) }
theorem tabs_of {W : World} (h : laidMet Tryz.prog [("math/bits.deBruijn32tab", Rows.laid_math_bits_deBruijn32tab), ("math/bits.deBruijn64tab", Rows.laid_math_bits_deBruijn64tab), ("internal/strconv.uint64pow10", Rows.laid_internal_strconv_uint64pow10), ("strconv.ErrRange", Rows.laid_strconv_ErrRange), ("strconv.ErrSyntax", Rows.laid_strconv_ErrSyntax)] W) : Tabs (memOf W) := by
 have h2:=h.tail.tail
 have e2:(Rows.laid_internal_strconv_uint64pow10:DataW Unit)=Lib.tabData .u64 Lib.pow10Tab:=by rfl
 rw [e2] at h2
 have t2:=Lib.tabIs_of_head (g:=1) (t:=300) (e:=197) (n:=20) kr_ kr_ Tryz.underlying300 Tryz.underlying197 kr_ kr_ h2
 exact ⟨VarC.ofWorld t2⟩
theorem laidOut':laidOutB Tryz.prog=true:=by kernel_rfl
section
variable {H:Type} {enc:TypeId × Value->H} {W:World} {spare:Nat->Bool} {held:Bool}
end
section
variable {H:Type} {enc:TypeId × Value->H} {W:World} {spare:Nat->Bool} {held:Bool}
end
end Go.Proofs.YtifolnapeolhcaaGreatDoor
