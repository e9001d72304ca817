/- Laws that the proofs of this seat share, part 9. -/
import Derived.Test.YtgfiffppookakaaGreatDoorG8
import Derived.Test.YtgfiffppookakaaGreatDoorShelf
import Derived.DeepKeys
set_option maxHeartbeats 4000000
namespace Go.Proofs.YtgfiffppookakaaGreatDoor
open Go Go.Jog
set_option maxRecDepth 100000

theorem Jw {l:List (Rat × Rat)}{i:Nat}(h:i<l.length):l[i]?=some (l.getD i (0,0)):=by
 rw [aF,aq h];rfl
theorem ui (C:Mem)(hT:Tabs C)(q:Rat)(hq:QB 22 q):Gives cx.P 140 [aA (qtx q)] C (.int .i64 0):=by
 have h:=jG C hT (qtx q) (dD hq);rw [dC hq] at h;exact h
theorem H4 {a b:Rat}(h:a<b):rM b a=1:=by
 unfold rM;rw [a7 (by grind),bW h]
theorem rq (C:Mem)(hT:Tabs C)(v:Value)(l:List (Rat × Rat))(hv:Sl C 2 v (l.map rK))(hq:∀ k∈l,QB 22 k.1/\QB 22 k.2)(hi:∀ i a b,l[i]?=some a->l[i+1]?=some b->a.1<b.1)(hlen:l.length<=20) :
  Gives cx.P 261 [v] C (.int .i64 0):=by
 obtain ⟨A0,c0,rfl,hc1,hc2,_⟩:=id hv;have hmx:maxLen<=9223372036854775807:=by simp [maxLen]
 simp only [aH] at hv hc1 ⊢;refine Fn.it kr_ Tryz.func261 40 fun w0=>?_;refine G.z1 1 0 ?_;refine G.z2 3 0 7 ?_;refine G.cd (fun h7=>?_) fun h7=>?_
 ·exact absurd (bi h7) om_
 ·refine G.z4 3 0 8 9 10 ?_;refine G.loop (fun fr C' L' μ=>∃ (i:Nat),(i<=l.length)/\fr=[(0,[],.slice A0 l.length c0),(8,[],.slice A0 l.length c0),(9,[],.int .i64 l.length),(10,[],.int .i64 i)]/\L'=[]/\μ=l.length-i) (h_4 0 8 9 10) ⟨0,ch _,Z,Z,Z⟩ (fun fr C0' L0' m _ hI=>?_);obtain ⟨i,hil0,rfl,rfl,rfl⟩:=hI;refine G.z5 1 0 8 9 10 11 ?_;refine G.cd (fun h11=>?_) fun h11=>?_
  ·have hil:i<l.length:=by have:=bi h11;omega
   obtain ⟨x,hx⟩:∃ x,l[i]?=some x:=⟨l[i],aq hil⟩;have hxq:=hq x (ba hx);have ha:=Jw (show i-1<l.length by omega);have haq:=hq _ (ba ha);refine G.rp 1 fun R hR=>?_;refine D.ak hv.m_ U10 om_ (bg hx) fl_ (fun p13 hp13=>?_);refine D.aa hp13 ?_;refine D.ai (fun b4=>?_);refine D.ac ?_;refine D.ae (j:=0) ?_;refine D.e6 0 3 4 8 9 10 hR ?_;refine G.freeze 0 Z (fun _ _ hb4=>?_);refine G.rp 1 fun R hR=>?_;refine D.aa (bkT hb4 1) ?_;refine D.ag (ui _ hT.m_ x.1 hxq.1) ?_;refine D.ps 3 ?_;refine D.aN U6 (fun _=>PtrTo.blockT (Mem.get hb4 mup) _ 1) U3 ?_;refine D.aL (fun _=>(ui _ hT.m_ x.2 hxq.2)) ?_;refine D.ac ?_;refine D.aI ?_;refine D.e7 0 3 4 8 9 10 24 hR ?_;refine G.cd (fun h24=>?_) fun h24=>?_
   ·exact absurd h24 dc_
   ·refine G.aG [0,1,2,3,4,5,6,7,8,9,10,11,12,13] [] Z kr_ (fun R hB hR=>?_);refine D.ps 4 ?_;refine D.aN U6 (fun _=>PtrTo.blockT (Mem.get hb4 mup) _ 1) U3 ?_;refine D.ps 2 ?_;refine D.ar _ ?_;refine D.index U10 (fun hg=>⟨hv.mono mup,by have h:decide ((0:Int)<(i:Int))=true:=hg.1;have:=bi h;omega,by have h:decide ((0:Int)<(i:Int))=true:=hg.1;have:=bi h;rw [show ((i:Int)-1).toNat=i-1 by omega];exact bg ha⟩) fl_ Z (fun p33 hp33=>?_);refine D.gu U10 hp33 fl_ Z (fun p34 hp34=>?_);refine D.aN U6 hp34 U3 ?_;refine D.ay (fun _=>(bY _ hT.m_ x.1 (l.getD (i-1) (0,0)).1 22 dc_ dc_ hxq.1 haq.1)) U9 ?_;refine D.ac ?_;refine D.aw ?_;refine D.e5 0 8 9 10 38 hR ?_;refine G.cd (fun h38=>?_) fun h38=>?_
    ·exfalso;rw [bL,cH,cH] at h38;have h1:=hi (i-1) _ _ ha (by rw [Nu om_];exact hx);have h2:=H4 h1;omega
    ·refine G.rg fun R hR=>?_;refine D.ar _ ?_;refine D.q4 1 0 8 9 10 hR ?_;refine G.ax (m':=l.length-(i+1)) om_ mup (h_4 0 8 9 10) ⟨i+1,by omega,Z,Z,Z⟩
  ·refine G.z1 1 2 ?_;refine G.rf ?_;exact ⟨Z,Z⟩
theorem tA (C:Mem)(hT:Tabs C)(mv:Value)(hm:∃ v1 v2,mv=.agg ⟨[v1,v2]⟩)(nm:Str)(e:Evt)(A:Option Addr)(c:Nat)(hk:Sl C 2 (.slice A e.knots.length c) (e.knots.map rK))(hn:Q3 22 e.nrm)(hs:Q3 22 e.slip)(h0:e.nrm≠(0,0,0))(hd:ce e.slip e.nrm=0)
  (hq:∀ k∈e.knots,QB 22 k.1/\QB 22 k.2) (hi:∀ i a b,e.knots[i]?=some a->e.knots[i+1]?=some b->a.1<b.1) (hlen:e.knots.length<=20) :
  Gives cx.P 191 [mv,.agg ⟨evC 3 nm cF cS (Fb e (.slice A e.knots.length c)) cT cR⟩] C (.int .i64 0):=by
 obtain ⟨v1,v2,rfl⟩:=hm;refine Fn.it kr_ Tryz.func191 41 fun w0=>?_;refine G.rg fun R hR=>?_;refine D.aD (fun b2=>?_);refine D.aD (fun b3=>?_);refine D.q1 1 3 hR ?_;refine G.freeze 0 Z (fun _ _ hb3=>?_);refine G.rp 2 fun R hR=>?_;refine D.aa (bkT hb3 3) ?_;refine D.ai (fun b5=>?_);refine D.ae (j:=0) ?_;refine D.e2 3 5 hR ?_;refine G.freeze 0 Z (fun _ _ hb5=>?_);refine G.rg fun R hR=>?_;refine D.aa (bkT hb5 3) ?_;refine D.ag (gM _ hT.m_ e.nrm hn) ?_;refine D.q3 1 3 5 6 hR ?_;refine G.z4 2 3 5 6 14 ?_;refine G.cd (fun h14=>?_) fun h14=>?_
 ·exact absurd h14 dc_
 ·refine G.rp 1 fun R hR=>?_;refine D.aa (bkT hb5 1) ?_;refine D.ps 3 ?_;refine D.aN U6 (fun _=>PtrTo.blockT (Mem.get hb5 mup) _ 1) U3 ?_;refine D.ac ?_;refine D.aw ?_;refine D.ps 2 ?_;refine D.aN U6 (fun _=>PtrTo.blockT (Mem.get hb5 mup) _ 1) U3 ?_;refine D.ac ?_;refine D.aw ?_;refine D.e3 3 5 28 hR ?_;refine G.cd (fun h28=>?_) fun h28=>?_
  ·exfalso;have h2:((qtx e.nrm.1 == [48] && qtx e.nrm.2.1 == [48]) && qtx e.nrm.2.2 == [48])=true:=h28;rw [qz,qz,qz,bL,bL,cH,cH,cH] at h2;exact h0 (Prod.ext h2.1.1 (Prod.ext h2.1.2 h2.2))
  ·refine G.rp 2 fun R hR=>?_;refine D.aa (bkT hb3 1) ?_;refine D.ag (rq _ hT.m_ _ e.knots hk.m_ hq hi hlen) ?_;refine D.q3 1 3 5 7 hR ?_;refine G.z4 2 3 5 7 34 ?_;refine G.cd (fun h34=>?_) fun h34=>?_
   ·exact absurd h34 dc_
   ·refine G.rp 2 fun R hR=>?_;refine D.aa (bkT hb3 3) ?_;refine D.aa (bkT hb5 3) ?_;refine D.ag (xn _ hT.m_ e.slip e.nrm hs hn hd) ?_;refine D.q1 1 4 hR ?_;refine G.rf ?_;exact ⟨Z,Z⟩
end Go.Proofs.YtgfiffppookakaaGreatDoor
namespace Go.Jog
open Go

section
variable {cx:Cx} {n:Nat} {ds:List (Option Nat)} {R:Rg n ds} {its:List It} {fr:Fr} {C:Mem} {L:List Ent} {i k d:Nat} {o:Oper} {g:GL}
theorem D.dh (vs:List Value){t e len:Nat}{x y:Operand}{ki:IntKind}{m:Int}{cs:List Value}{ti te:TI}(e_0:Z10 (Nat.ble k 1) true o.dst (some d) o.op (.index t x y) (gOf ds fr o.guard) (some g) (ev fr g x) (some (.agg ⟨cs⟩)) (ev fr g y) (some (.int ki m)) (cx.T.get t) (some ti) ti.k (.arr len e) (cx.T.get e) (some te) te.agg true)(h0:GT ds fr g->0<=m/\m<len/\(cs.drop (m.toNat*te.size)).take te.size=vs)(e_1:Z2 (aO n ds ((d,g,.agg ⟨vs⟩)::fr) d) true (wfG ds fr g) true)(h:D cx R its ((d,g,.agg ⟨vs⟩)::fr) C L):D cx R ((i,k,o)::its) fr C L:=by
 have ⟨hk,hd,hop,hg,hx,hy,ht,hte,he,hag⟩:=e_0;have ⟨hp,hwf⟩:=e_1;have hu:cx.P.underlying t=some (.array len e):=by
  obtain ⟨kk,s1,b1,z1,g1⟩:=ti;simp only at hte;subst hte;exact ko cx.hT ht
 refine D.run _ hk hd hg (fun hG a hs w=>?_) hp hwf h;obtain ⟨h1,h2,h3⟩:=h0 hG;have e1:execOp a.eval o=(do Pure.pure (.value (<- Instr.index t (a.eval x) (a.eval y))):Sem Next):=by unfold execOp;rw [hop]
 rw [e1,hs _ _ hx,hs _ _ hy];have hpart:(part e ⟨cs⟩ (m.toNat*te.size)).run cx.P w=.ok (.agg ⟨vs⟩) w:=by
  unfold part;simp only [Sem.run_bind];rw [BS cx.hT he w];simp only [Result.andThen_ok,hag,Mb,Sem.run_bind,dJ cx.hT he w,Sem.run_pure,List.extract_toArray,List.extract_eq_take_drop,Nb];rw [h3]
 simp [Instr.index,asIntOf,run_underlying hu,h1,h2,dJ cx.hT he w,hpart]
end
end Go.Jog
namespace Go.Jog
open Go

section
variable {cx:Cx} {n:Nat} {ds:List (Option Nat)} {R:Rg n ds} {its:List It} {fr:Fr} {C:Mem} {L:List Ent} {i k d:Nat} {o:Oper} {g:GL}
theorem D.mf (b:Bool){t ty e1 e2:Nat}{x y:Operand}{xs ys:List Value}{la lb:List Lit}(ht:cx.P.keyTypeAt 10 t=true)(heg:cx.P.eqGuardType cx.P.depth t=false)(e_0:Z6 (Nat.ble k 1) true o.dst (some d) o.op (.binOp .eql t x y ty) (gOf ds fr o.guard) (some g) (ev fr g x) (some (.agg ⟨xs⟩)) (ev fr g y) (some (.agg ⟨ys⟩)))(fx:Value.formed cx.P t (.agg ⟨xs⟩)=true)(fy:Value.formed cx.P t (.agg ⟨ys⟩)=true)(ka:cx.P.keyLits e1 t xs=some la)(kb:cx.P.keyLits e2 t ys=some lb)(hb:GT ds fr g->(b=true ↔ la=lb))(e_1:Z2 (aO n ds ((d,g,.bool b)::fr) d) true (wfG ds fr g) true)(h:D cx R its ((d,g,.bool b)::fr) C L):D cx R ((i,k,o)::its) fr C L :=
 have ⟨hk,hd,hop,hg,hx,hy⟩:=e_0;have ⟨hp,hwf⟩:=e_1;D.run _ hk hd hg (fun hG a hs w=>by
  obtain ⟨r,hr,hiff⟩:=run_equalIn_deep (P:=cx.P) 9990 10 t ht w e1 e2 (.agg ⟨xs⟩) (.agg ⟨ys⟩) la lb fx fy ka kb;have hrb:r=b:=by
   have h1:=hiff.trans (hb hG).symm;cases r <;> cases b <;> simp at h1 ⊢
  subst hrb;have hr2:(Op.equalIn 10000 t (.agg ⟨xs⟩) (.agg ⟨ys⟩)).run cx.P w=.ok r w:=hr;rw [f8 hop,hs _ _ hx,hs _ _ hy];simp only [Sem.run_bind,run_eqGuard_agg w .eql t x y _ _ heg,Result.andThen_ok,run_eql_struct,hr2,Sem.run_pure]) hp hwf h
end
end Go.Jog
namespace Go.Jog
open Go

inductive SK where
 | b | i (q:IntKind) | s
def uY:SK->Value->Option Lit
 | .b,.bool x=>some (.bool x)
 | .i q,.int q' n=>if q'=q/\(Lit.int q n).wf=true then some (.int q n) else none
 | .s,.string s=>if s.size<=maxLen then some (.string s.data.toList) else none
 | _,_=>none
def kE:List SK->List Value->Option (List Lit)
 | [],[]=>some []
 | k::ks,v::vs=>match uY k v,kE ks vs with
  | some l,some ls=>some (l::ls)
  | _,_=>none
 | _,_=>none
def goF (P:Program)(sh:TypeId->Option (List SK)):Nat->List Field->Option (List SK)
 | _,[]=>some []
 | off,f::fs=>match sh f.type,goF P sh (off+P.cellsOf f.type) fs with
  | some ks,some r=>if f.offset=off/\P.cellsOf f.type=ks.length then some (ks++r) else none
  | _,_=>none
def goA (ks:List SK):Nat->List SK
 | 0=>[]
 | n+1=>ks++goA ks n
def jC (P:Program):Nat->TypeId->Option (List SK)
 | 0,_=>none
 | d+1,t=>match P.underlying t with
  | some .bool=>some [.b]
  | some (.int q)=>some [.i q]
  | some .string=>some [.s]
  | some (.array n e)=>match jC P d e with
   | some ks=>if P.cellsOf e=ks.length/\P.cellsOf t=n*ks.length then some (goA ks n) else none
   | none=>none
  | some (.struct fs)=>match goF P (jC P d) 0 fs.toList with
   | some ks => if P.cellsOf t = ks.length /\ fs.all (·.name != "_") = true then some ks else none
   | none=>none
  | _=>none
theorem B8 (ks:List SK):∀ n,(goA ks n).length=n*ks.length
 | 0=>by simp [goA]
 | n+1=>by simp only [goA,eh,B8 ks n,L9];omega
theorem lN:∀ {ks:List SK}{cs:List Value}{ls:List Lit},kE ks cs=some ls->cs.length=ks.length
 | [],[],_,_=>rfl
 | [],_::_,_,h=>by simp [kE] at h
 | _::_,[],_,h=>by simp [kE] at h
 | k::ks,v::vs,ls,h=>by
  simp only [kE] at h;split at h
  ·rename_i l1 l2 h1 h2;simp [lN h2]
  ·cases h
theorem kD:∀ {k1 k2:List SK}{cs:List Value}{ls:List Lit},kE (k1++k2) cs=some ls->∃ l1 l2,kE k1 (cs.take k1.length)=some l1/\kE k2 (cs.drop k1.length)=some l2/\ls=l1++l2
 | [],k2,cs,ls,h=>⟨[],ls,by simp [kE],by simpa using h,rfl⟩
 | k::k1,k2,[],ls,h=>by simp [kE] at h
 | k::k1,k2,v::vs,ls,h=>by
  simp only [LM,kE] at h;split at h
  ·rename_i l1 l2 h1 h2;obtain ⟨a,b,e1,e2,e3⟩:=kD h2;cases h
   refine ⟨l1::a,b, ?_,by simpa using e2,by rw [e3];rfl⟩;simp only [fh,List.take_succ_cons,kE,h1,e1]
  ·cases h
theorem wI {P:Program}{d:Nat}(IH:∀ t ks cs ls,jC P d t=some ks->kE ks cs=some ls->P.keyLits d t cs=some ls)(cs:List Value) :
  ∀ (fs:List Field)(off:Nat)(ks:List SK)(ls:List Lit),goF P (jC P d) off fs=some ks->kE ks (cs.drop off)=some ls->(fs.mapM (fun f=>P.keyLits d f.type ((cs.drop f.offset).take (P.cellsOf f.type)))).map List.flatten=some ls
 | [],off,ks,ls,h,hr=>by
  simp only [goF,zl] at h;subst h;have hl:=lN hr;have h0:cs.drop off=[]:=LL hl;rw [h0] at hr;simp only [kE,zl] at hr;subst hr;rfl
 | f::fs,off,ks,ls,h,hr=>by
  simp only [goF] at h;split at h
  ·rename_i k1 k2 h1 h2;split at h
   ·rename_i hc;cases h
    obtain ⟨l1,l2,e1,e2,e3⟩:=kD hr;have g1:=IH f.type k1 _ l1 h1 e1;rw [<- hc.2,<- hc.1] at g1;have g2:=wI IH cs fs (off+P.cellsOf f.type) k2 l2 h2 (by rw [hc.2,<- List.drop_drop];exact e2);simp only [MB] at g2;obtain ⟨r,hr1,hr2⟩:=g2;rw [List.mapM_cons,g1,hr1,e3,<- hr2];rfl
   ·cases h
  ·cases h
theorem wJ {P:Program}{d:Nat}{e:TypeId}{k1:List SK}(IH:∀ t ks cs ls,jC P d t=some ks->kE ks cs=some ls->P.keyLits d t cs=some ls)(h1:jC P d e=some k1)(hc:P.cellsOf e=k1.length)(cs:List Value) :
  ∀ (n j:Nat)(ls:List Lit),kE (goA k1 n) (cs.drop (j*k1.length))=some ls->((List.range' j n).mapM (fun i=>P.keyLits d e ((cs.drop (i*P.cellsOf e)).take (P.cellsOf e)))).map List.flatten=some ls
 | 0,j,ls,hr=>by
  have hl:=lN hr;have h0:cs.drop (j*k1.length)=[]:=LL hl;rw [h0] at hr;simp only [goA,kE,zl] at hr;subst hr;rfl
 | n+1,j,ls,hr=>by
  obtain ⟨l1,l2,e1,e2,e3⟩:=kD hr;have g1:=IH e k1 _ l1 h1 e1;rw [<- hc] at g1;have g2:=wJ IH h1 hc cs n (j+1) l2 (by rw [L9,NE,<- List.drop_drop];exact e2);simp only [MB] at g2;obtain ⟨r,hr1,hr2⟩:=g2;rw [Ox,List.mapM_cons,g1,hr1,e3,<- hr2];rfl
theorem m8 {P:Program}:∀ (d:Nat)(t:TypeId)(ks:List SK)(cs:List Value)(ls:List Lit),jC P d t=some ks->kE ks cs=some ls->P.keyLits d t cs=some ls
 | 0,_,_,_,_,h,_=>by simp [jC] at h
 | d+1,t,ks,cs,ls,h,hr=>by
  have IH:=m8 (P:=P) d;have hl:=lN hr;simp only [jC] at h;unfold Program.keyLits;cases hu:P.underlying t with
  | none=>rw [hu] at h;cases h
  | some kd =>
   rw [hu] at h;cases kd with
   | bool =>
    cases h
    match cs,hl with
    | [v],_ =>
     cases v <;> simp [kE,uY] at hr
     subst hr;rfl
   | int q =>
    cases h
    match cs,hl with
    | [v],_ =>
     cases v <;> simp [kE,uY] at hr
     split at hr
     ·rename_i l1 l2 h1 h2;split at h1
      ·rename_i hc;cases h1;cases h2;cases hr
       simp only;rw [bW hc]
      ·cases h1
     ·cases hr
   | string =>
    cases h
    match cs,hl with
    | [v],_ =>
     cases v <;> simp [kE,uY] at hr
     split at hr
     ·rename_i l1 l2 h1 h2;split at h1
      ·rename_i hc;cases h1;cases h2;cases hr
       simp only;rw [bW hc]
      ·cases h1
     ·cases hr
   | array n e =>
    simp only at h;split at h
    ·rename_i k1 h1;split at h
     ·rename_i hc;cases h
      have hlen:cs.length=P.cellsOf t:=by
       rw [hl,hc.2,B8]
      have g:=wJ IH h1 hc.1 cs n 0 ls (by simpa using hr);simp only;rw [bW hlen,NW];exact g
     ·cases h
    ·cases h
   | struct fs =>
    simp only at h;split at h
    ·rename_i k1 h1;split at h
     ·rename_i hc;cases h
      have g:=wI IH cs fs.toList 0 _ ls h1 (by simpa using hr);simp only;rw [bW ⟨by rw [hl,hc.1],hc.2⟩];exact g
     ·cases h
    ·cases h
   | _=>cases h
end Go.Jog
namespace Go.Proofs.YtgfiffppookakaaGreatDoor
open Go Go.Jog
set_option maxRecDepth 100000

theorem CB (C:Mem)(v:Value)(l:List Str)(hv:Sl C 1 v (l.map bN)):Gives cx.P 127 [v,v] C (.bool true):=by
 obtain ⟨A0,c0,rfl,hc1,hc2,_⟩:=id hv;have hmx:maxLen<=9223372036854775807:=by simp [maxLen]
 simp only [aH] at hv hc1 ⊢;refine Fn.it kr_ Tryz.func127 26 fun w0=>?_;refine G.z2 1 0 1 ?_;refine G.z3 5 0 1 10 ?_;refine G.cd (fun h10=>?_) fun h10=>?_
 ·exact absurd h10 (by simp)
 ·refine G.z4 3 0 1 12 13 ?_;refine G.loop (fun fr C' L' μ=>∃ (i:Nat),(i<=l.length)/\fr=[(0,[],.slice A0 l.length c0),(1,[],.slice A0 l.length c0),(12,[],.int .i64 l.length),(13,[],.int .i64 i)]/\L'=[]/\μ=l.length-i) (h_4 0 1 12 13) ⟨0,ch _,Z,Z,Z⟩ (fun fr C0' L0' m hle0 hI=>?_);obtain ⟨i,hil0,rfl,rfl,rfl⟩:=hI;refine G.z5 1 0 1 12 13 14 ?_;refine G.cd (fun h14=>?_) fun h14=>?_
  ·have hil:i<l.length:=by have:=bi h14;omega
   obtain ⟨x,hx⟩:∃ x,l[i]?=some x:=⟨l[i],aq hil⟩;refine G.z5 2 0 1 5 12 13 ?_;refine G.aG [0,1,2,3,4,5,6,7,8] [] Z kr_ (fun R hB hR=>?_);refine D.ps 2 ?_;refine D.ak hv.m_ U10 om_ (bg hx) fl_ (fun p18 hp18=>?_);refine D.aa hp18 ?_;refine D.ps 2 ?_;refine D.ak hv.m_ U10 om_ (bg hx) fl_ (fun p22 hp22=>?_);refine D.aa hp22 ?_;refine D.q5 1 0 1 12 13 24 hR ?_;refine G.cd (fun h24=>?_) fun h24=>?_
   ·exact absurd h24 (by simp)
   ·refine G.rg fun R hR=>?_;refine D.ar _ ?_;refine D.q4 1 0 1 12 13 hR ?_;refine G.ax (m':=l.length-(i+1)) om_ hle0 (h_4 0 1 12 13) ⟨i+1,by omega,Z,Z,Z⟩
  ·refine G.z1 1 4 ?_;refine G.rf ?_;exact ⟨Z,Z⟩
theorem CC (C:Mem)(v:Value)(l:List Str)(hv:Sl C 1 v (l.map bN)):Gives cx.P 205 [v,v] C (.bool true):=by
 obtain ⟨A0,c0,rfl,hc1,hc2,_⟩:=id hv;have hmx:maxLen<=9223372036854775807:=by simp [maxLen]
 simp only [aH] at hv hc1 ⊢;refine Fn.it kr_ Tryz.func205 26 fun w0=>?_;refine G.z2 1 0 1 ?_;refine G.z3 5 0 1 10 ?_;refine G.cd (fun h10=>?_) fun h10=>?_
 ·exact absurd h10 (by simp)
 ·refine G.z4 3 0 1 12 13 ?_;refine G.loop (fun fr C' L' μ=>∃ (i:Nat),(i<=l.length)/\fr=[(0,[],.slice A0 l.length c0),(1,[],.slice A0 l.length c0),(12,[],.int .i64 l.length),(13,[],.int .i64 i)]/\L'=[]/\μ=l.length-i) (h_4 0 1 12 13) ⟨0,ch _,Z,Z,Z⟩ (fun fr C0' L0' m hle0 hI=>?_);obtain ⟨i,hil0,rfl,rfl,rfl⟩:=hI;refine G.z5 1 0 1 12 13 14 ?_;refine G.cd (fun h14=>?_) fun h14=>?_
  ·have hil:i<l.length:=by have:=bi h14;omega
   obtain ⟨x,hx⟩:∃ x,l[i]?=some x:=⟨l[i],aq hil⟩;refine G.z5 2 0 1 5 12 13 ?_;refine G.aG [0,1,2,3,4,5,6,7,8] [] Z kr_ (fun R hB hR=>?_);refine D.ps 2 ?_;refine D.ak hv.m_ U10 om_ (bg hx) fl_ (fun p18 hp18=>?_);refine D.aa hp18 ?_;refine D.ps 2 ?_;refine D.ak hv.m_ U10 om_ (bg hx) fl_ (fun p22 hp22=>?_);refine D.aa hp22 ?_;refine D.q5 1 0 1 12 13 24 hR ?_;refine G.cd (fun h24=>?_) fun h24=>?_
   ·exact absurd h24 (by simp)
   ·refine G.rg fun R hR=>?_;refine D.ar _ ?_;refine D.q4 1 0 1 12 13 hR ?_;refine G.ax (m':=l.length-(i+1)) om_ hle0 (h_4 0 1 12 13) ⟨i+1,by omega,Z,Z,Z⟩
  ·refine G.z1 1 4 ?_;refine G.rf ?_;exact ⟨Z,Z⟩
theorem yL (C:Mem)(v:Value)(l:List (Rat × Rat))(hv:Sl C 2 v (l.map rK)):Gives cx.P 129 [v,v] C (.bool true):=by
 obtain ⟨A0,c0,rfl,hc1,hc2,_⟩:=id hv;have hmx:maxLen<=9223372036854775807:=by simp [maxLen]
 simp only [aH] at hv hc1 ⊢;refine Fn.it kr_ Tryz.func129 26 fun w0=>?_;refine G.z2 1 0 1 ?_;refine G.z3 5 0 1 10 ?_;refine G.cd (fun h10=>?_) fun h10=>?_
 ·exact absurd h10 (by simp)
 ·refine G.z4 3 0 1 12 13 ?_;refine G.loop (fun fr C' L' μ=>∃ (i:Nat),(i<=l.length)/\fr=[(0,[],.slice A0 l.length c0),(1,[],.slice A0 l.length c0),(12,[],.int .i64 l.length),(13,[],.int .i64 i)]/\L'=[]/\μ=l.length-i) (h_4 0 1 12 13) ⟨0,ch _,Z,Z,Z⟩ (fun fr C0' L0' m hle0 hI=>?_);obtain ⟨i,hil0,rfl,rfl,rfl⟩:=hI;refine G.z5 1 0 1 12 13 14 ?_;refine G.cd (fun h14=>?_) fun h14=>?_
  ·have hil:i<l.length:=by have:=bi h14;omega
   obtain ⟨x,hx⟩:∃ x,l[i]?=some x:=⟨l[i],aq hil⟩;refine G.z5 2 0 1 5 12 13 ?_;refine G.aG [0,1,2,3,4,5,6,7,8] [] Z kr_ (fun R hB hR=>?_);refine D.ps 2 ?_;refine D.ak hv.m_ U10 om_ (bg hx) fl_ (fun p18 hp18=>?_);refine D.aa hp18 ?_;refine D.ps 2 ?_;refine D.ak hv.m_ U10 om_ (bg hx) fl_ (fun p22 hp22=>?_);refine D.aa hp22 ?_;refine D.Ir false kr_ Z Z Z Z Z Z Z Z (fun _=>by simp) Z Z ?_;refine D.e5 0 1 12 13 24 hR ?_;refine G.cd (fun h24=>?_) fun h24=>?_
   ·exact absurd h24 (by simp)
   ·refine G.rg fun R hR=>?_;refine D.ar _ ?_;refine D.q4 1 0 1 12 13 hR ?_;refine G.ax (m':=l.length-(i+1)) om_ hle0 (h_4 0 1 12 13) ⟨i+1,by omega,Z,Z,Z⟩
  ·refine G.z1 1 4 ?_;refine G.rf ?_;exact ⟨Z,Z⟩
theorem Gt (C:Mem)(v:Value)(l:List Str)(hv:Sl C 1 v (l.map bN)):Gives cx.P 126 [v,v] C (.bool true):=by
 refine Fn.it kr_ Tryz.func126 8 fun w0=>?_;refine G.z2 1 0 1 ?_;refine G.rp 2 fun R hR=>?_;refine D.ag (CC _ v l hv.m_) ?_;refine D.q1 1 4 hR ?_;refine G.rf ?_;exact ⟨Z,Z⟩

theorem F1 {vs:List Value}{i:Nat}{w:Value}(h:vs[i]?=some w):(vs.map fun w=>[w])[((i:Nat):Int).toNat]?=some [w]:=by
 rw [L5,bX,h];rfl
theorem uN (C:Mem)(v:Value)(vs:List Value)(hv:Sl C 1 v (vs.map fun w=>[w]))(hw:∀ w∈vs,∃ l:List Str,Sl C 1 w (l.map bN)) :
  Gives cx.P 206 [v,v,.func (.func 126) #[] #[]] C (.bool true):=by
 obtain ⟨A0,c0,rfl,hc1,hc2,_⟩:=id hv;have hmx:maxLen<=9223372036854775807:=by simp [maxLen]
 simp only [aH] at hv hc1 ⊢;refine Fn.it kr_ Tryz.func206 32 fun w0=>?_;refine G.z3 1 0 1 2 ?_;refine G.z4 5 0 1 2 14 ?_;refine G.cd (fun h14=>?_) fun h14=>?_
 ·exact absurd h14 (by simp)
 ·refine G.z5 3 1 2 15 16 17 ?_;refine G.loop (fun fr C' L' μ=>∃ (i:Nat),(i<=vs.length)/\fr=[(1,[],.slice A0 vs.length c0),(2,[],.func (.func 126) #[] #[]),(15,[],.slice A0 vs.length c0),(16,[],.int .i64 vs.length),(17,[],.int .i64 i)]/\L'=[]/\μ=vs.length-i) (h_5 1 2 15 16 17) ⟨0,ch _,Z,Z,Z⟩ (fun fr C0' L0' m hle0 hI=>?_);obtain ⟨i,hil0,rfl,rfl,rfl⟩:=hI;refine G.z6 1 1 2 15 16 17 18 ?_;refine G.cd (fun h18=>?_) fun h18=>?_
  ·have hil:i<vs.length:=by have:=bi h18;omega
   obtain ⟨w,hx⟩:∃ w,vs[i]?=some w:=⟨vs[i],aq hil⟩;obtain ⟨lw,hlw⟩:=hw w (ba hx);refine G.rp 1 fun R hR=>?_;refine D.ak hv.m_ U10 om_ (F1 hx) fl_ (fun p20 hp20=>?_);refine D.aa hp20 ?_;refine D.q7 2 1 2 7 8 15 16 17 hR ?_;refine G.rp 2 fun R hR=>?_;refine D.ak hv.m_ U10 om_ (F1 hx) fl_ (fun p24 hp24=>?_);refine D.aa hp24 ?_;refine D.q7 1 1 2 8 9 15 16 17 hR ?_;refine G.rp 3 fun R hR=>?_;refine D.ag (Gt _ w lw hlw.m_) ?_;refine D.q6 1 1 2 15 16 17 30 hR ?_;refine G.cd (fun h30=>?_) fun h30=>?_
   ·exact absurd h30 (by simp)
   ·refine G.rg fun R hR=>?_;refine D.ar _ ?_;refine D.q5 1 1 2 15 16 17 hR ?_;refine G.ax (m':=vs.length-(i+1)) om_ hle0 (h_5 1 2 15 16 17) ⟨i+1,by omega,Z,Z,Z⟩
  ·refine G.z1 1 6 ?_;refine G.rf ?_;exact ⟨Z,Z⟩
theorem qf (C:Mem)(v:Value)(vs:List Value)(hv:Sl C 1 v (vs.map fun w=>[w]))(hw:∀ w∈vs,∃ l:List Str,Sl C 1 w (l.map bN)) :
  Gives cx.P 128 [v,v] C (.bool true):=by
 refine Fn.it kr_ Tryz.func128 8 fun w0=>?_;refine G.z2 1 0 1 ?_;refine G.rp 2 fun R hR=>?_;refine D.aj (uN _ v vs hv.m_ (fun w h=>by obtain ⟨l,hl⟩:=hw w h;exact ⟨l,hl.mono mup⟩)) U7 fl_ ?_;refine D.q1 1 4 hR ?_;refine G.rf ?_;exact ⟨Z,Z⟩

theorem Fy {s:Str}(h:s.length<=999998):uY .s (aA s)=some (.string s):=bW (LE h (by simp [maxLen]))
theorem l4 {z:Int}(h:z.natAbs<=1000):uY (.i .i64) (.int .i64 z)=some (.int .i64 z):=bW ⟨rfl,by
 simp [Lit.wf,IntKind.min,IntKind.max,IntKind.signed,IntKind.bits];omega⟩
theorem jF {k:SK}{v:Value}{l:Lit}{ks:List SK}{vs:List Value}{ls:List Lit}(h:uY k v=some l)(h2:kE ks vs=some ls):kE (k::ks) (v::vs)=some (l::ls):=by
 simp only [kE,h,h2]
theorem ir:∀ (l:List Str),(∀ s∈l,s.length<=999998)->kE (List.replicate l.length .s) (l.map aA)=some (l.map fun s=>.string s)
 | [],_=>rfl
 | s::l,h=>jF (Fy (h s (.head _))) (ir l fun x hx=>h x (.tail _ hx))
theorem Jt {x:Nat->Str}(hx:∀ i,(x i).length<=999998){l:List Nat}:∀ s∈l.map x,s.length<=999998:=by
 intro s hs;obtain ⟨i,_,rfl⟩:=j5.1 hs;exact hx i
def evX (kd:Nat)(nm:Str)(bv uv sv kv:Value)(x:Nat->Str)(q:Nat->Int):List Value :=
 evC kd nm [bv,uv,sv] [aA (x 1),aA (x 2),aA (x 3),aA (x 4),aA (x 5),aA (x 6),aA (x 7)] [aA (x 8),aA (x 9),aA (x 10),kv,aA (x 11),aA (x 12),aA (x 13)] [aA (x 14),aA (x 15),aA (x 16),aA (x 17),aA (x 18),aA (x 19)] [.int .i64 (q 0),.int .i64 (q 1),.int .i64 (q 2),.int .i64 (q 3),aA (x 20),aA (x 21),aA (x 22)]
theorem s7 (C:Mem)(kd:Nat)(nm:Str)(bv uv sv kv:Value)(x:Nat->Str)(q:Nat->Int)(bl ul:List Str)(vs:List Value)(ks:List (Rat × Rat))(hb:Sl C 1 bv (bl.map bN))(hu:Sl C 1 uv (ul.map bN))(hv:Sl C 1 sv (vs.map fun w=>[w]))(hw:∀ w∈vs,∃ l:List Str,Sl C 1 w (l.map bN))(hk:Sl C 2 kv (ks.map rK))
  (hx:∀ i,(x i).length<=999998) (hq:∀ i,(q i).natAbs<=1000) :
  Gives cx.P 61 [.agg ⟨evX kd nm bv uv sv kv x q⟩,.agg ⟨evX kd nm bv uv sv kv x q⟩] C (.bool true):=by
 obtain ⟨B1,d1,rfl,_⟩:=id hb;obtain ⟨B2,d2,rfl,_⟩:=id hu;obtain ⟨B3,d3,rfl,_⟩:=id hv;obtain ⟨B4,d4,rfl,_⟩:=id hk;have rt:kE [.i .i64,.i .i64,.i .i64,.i .i64,.s,.s,.s] [.int .i64 (q 0),.int .i64 (q 1),.int .i64 (q 2),.int .i64 (q 3),aA (x 20),aA (x 21),aA (x 22)]=some [.int .i64 (q 0),.int .i64 (q 1),.int .i64 (q 2),.int .i64 (q 3),.string (x 20),.string (x 21),.string (x 22)] :=
  jF (l4 (hq 0)) (jF (l4 (hq 1)) (jF (l4 (hq 2)) (jF (l4 (hq 3)) (ir ([20,21,22].map x) (Jt hx)))))
 refine Fn.it kr_ Tryz.func61 92 fun w0=>?_;refine G.rg fun R hR=>?_;refine D.aD (fun b2=>?_);refine D.aD (fun b3=>?_);refine D.q2 1 2 3 hR ?_;refine G.freeze 1 Z (fun _ _ hb2=>?_);refine G.freeze 0 Z (fun _ _ hb3=>?_);refine G.rp 1 fun R hR=>?_;refine D.aa (bkT hb2 1) ?_;refine D.ac ?_;refine D.aa (bkT hb3 1) ?_;refine D.ps 3 ?_;refine D.aN U6 (fun _=>PtrTo.blockT (Mem.get hb2 mup) _ 1) U3 ?_;refine D.ac ?_;refine D.aN U6 (fun _=>PtrTo.blockT (Mem.get hb3 mup) _ 1) U3 ?_;refine D.ac ?_;refine D.aw ?_;refine D.ps 3 ?_;refine D.aN U6 (fun _=>PtrTo.blockT (Mem.get hb2 mup) _ 1) U3 ?_;refine D.ps 2 ?_;refine D.aN U6 (fun _=>PtrTo.blockT (Mem.get hb3 mup) _ 1) U3 ?_;refine D.aL (fun _=>(Gt _ _ bl hb.m_)) ?_;refine D.aw ?_;refine D.ps 3 ?_;refine D.aN U6 (fun _=>PtrTo.blockT (Mem.get hb2 mup) _ 1) U3 ?_;refine D.ps 2 ?_;refine D.aN U6 (fun _=>PtrTo.blockT (Mem.get hb3 mup) _ 1) U3 ?_;refine D.aL (fun _=>(CB _ _ ul hu.m_)) ?_;refine D.aw ?_;refine D.ps 3 ?_;refine D.aN U6 (fun _=>PtrTo.blockT (Mem.get hb2 mup) _ 1) U3 ?_;refine D.ps 2 ?_;refine D.aN U6 (fun _=>PtrTo.blockT (Mem.get hb3 mup) _ 1) U3 ?_;refine D.ay (fun _=>(qf _ _ vs hv.m_ (fun w h=>by obtain ⟨l,hl⟩:=hw w h;exact ⟨l,hl.mono mup⟩))) U9 ?_;refine D.aw ?_;refine D.ps 2 ?_;refine D.aN U6 (fun _=>PtrTo.blockT (Mem.get hb2 mup) _ 7) U3 ?_;refine D.ac ?_;refine D.aN U6 (fun _=>PtrTo.blockT (Mem.get hb3 mup) _ 7) U3 ?_;refine D.mf true (e1:=9) (e2:=9) kr_ kr_ U6 kr_ kr_ (m8 9 _ (List.replicate 7 .s) _ _ kr_ (ir ([1,2,3,4,5,6,7].map x) (Jt hx))) (m8 9 _ (List.replicate 7 .s) _ _ kr_ (ir ([1,2,3,4,5,6,7].map x) (Jt hx))) (fun _=>by simp) U2 ?_;refine D.aw ?_;refine D.ps 3 ?_;refine D.aN U6 (fun _=>PtrTo.blockT (Mem.get hb2 mup) _ 3) U3 ?_;refine D.ps 2 ?_;refine D.aN U6 (fun _=>PtrTo.blockT (Mem.get hb3 mup) _ 3) U3 ?_;refine D.DW true kr_ Z Z Z Z Z Z Z Z (fun _=>by simp) Z Z ?_;refine D.aw ?_;refine D.ps 3 ?_;refine D.aN U6 (fun _=>PtrTo.blockT (Mem.get hb2 mup) _ 1) U3 ?_;refine D.ps 2 ?_;refine D.aN U6 (fun _=>PtrTo.blockT (Mem.get hb3 mup) _ 1) U3 ?_;refine D.aL (fun _=>(yL _ _ ks hk.m_)) ?_;refine D.aw ?_;refine D.ps 3 ?_;refine D.aN U6 (fun _=>PtrTo.blockT (Mem.get hb2 mup) _ 3) U3 ?_;refine D.ps 2 ?_;refine D.aN U6 (fun _=>PtrTo.blockT (Mem.get hb3 mup) _ 3) U3 ?_;refine D.DW true kr_ Z Z Z Z Z Z Z Z (fun _=>by simp) Z Z ?_;refine D.aw ?_;refine D.ps 2 ?_;refine D.aN U6 (fun _=>PtrTo.blockT (Mem.get hb2 mup) _ 6) U3 ?_;refine D.ac ?_;refine D.aN U6 (fun _=>PtrTo.blockT (Mem.get hb3 mup) _ 6) U3 ?_;refine D.mf true (e1:=9) (e2:=9) kr_ kr_ U6 kr_ kr_ (m8 9 _ (List.replicate 6 .s) _ _ kr_ (ir ([14,15,16,17,18,19].map x) (Jt hx))) (m8 9 _ (List.replicate 6 .s) _ _ kr_ (ir ([14,15,16,17,18,19].map x) (Jt hx))) (fun _=>by simp) U2 ?_;refine D.aw ?_;refine D.ps 2 ?_;refine D.aN U6 (fun _=>PtrTo.blockT (Mem.get hb2 mup) _ 7) U3 ?_;refine D.ac ?_;refine D.aN U6 (fun _=>PtrTo.blockT (Mem.get hb3 mup) _ 7) U3 ?_;refine D.mf true (e1:=9) (e2:=9) kr_ kr_ U6 kr_ kr_ (m8 9 _ [.i .i64,.i .i64,.i .i64,.i .i64,.s,.s,.s] _ _ kr_ rt) (m8 9 _ [.i .i64,.i .i64,.i .i64,.i .i64,.s,.s,.s] _ _ kr_ rt) (fun _=>by simp) U2 ?_;refine D.aw ?_;refine D.q1 1 4 hR ?_;refine G.rf ?_;exact ⟨by simp,Z⟩

def fnv (k:Nat):Value:=.func (.func k) #[] #[]
def kindsC:List Value:=[fnv 180,fnv 181,fnv 182,fnv 183,fnv 184,
 fnv 185,fnv 186,fnv 187,fnv 188,fnv 189,
 fnv 190,fnv 191,fnv 192,fnv 193,fnv 194,
 fnv 195,fnv 196,fnv 197,fnv 198,fnv 199,
 fnv 200,fnv 201,fnv 202,fnv 203,fnv 204]
def jk (kd:Nat):List Value:=(kindsC.drop ((kd-1)*5)).take 5
theorem jQ (C:Mem):Gives cx.P 125 [] C (.agg ⟨kindsC⟩):=by
 refine Fn.it kr_ Tryz.func125 7 fun w0=>?_;refine G.rg fun R hR=>?_;refine D.ai (fun b0=>?_);refine D.e1 0 hR ?_;refine G.rg fun R hR=>?_;refine D.ap (jk 1) ?_;refine D.ap (jk 2) ?_;refine D.ap (jk 3) ?_;refine D.ap (jk 4) ?_;refine D.ap (jk 5) ?_;refine D.ap kindsC ?_;refine D.ae (j:=0) ?_;refine D.e1 0 hR ?_;refine G.aB (G.aR (.head _) U4 ?_);exact ⟨Z,Z⟩
theorem BM (C:Mem)(nm:Str)(A1 A2 A3 A4:Option Addr)(n1 n2 n3 n4 c1 c2 c3 c4:Nat)(x:Nat->Str)(q:Nat->Int) :
  Gives cx.P 60 [.agg ⟨evX 1 nm (.slice A1 n1 c1) (.slice A2 n2 c2) (.slice A3 n3 c3) (.slice A4 n4 c4) x q⟩] C (.agg ⟨jk 1⟩):=by
 refine Fn.it kr_ Tryz.func60 8 fun w0=>?_;refine G.rg fun R hR=>?_;refine D.aD (fun b1=>?_);refine D.ai (fun b2=>?_);refine D.e2 1 2 hR ?_;refine G.aG [0,1,2,3,4,5] [(0,1)] Z kr_ (fun R hB hR=>?_);refine D.aL (fun _=>(jQ _)) ?_;refine D.ac ?_;refine D.af (.tail _ (.head _)) ?_;refine D.ar _ ?_;refine D.dh (jk 1) U10 (fun _=>⟨by decide,by decide,Z⟩) U2 ?_;refine D.ae (j:=0) ?_;refine D.e1 2 hR ?_;refine G.aB (G.aR (.head _) U4 ?_);exact ⟨Z,Z⟩
theorem BL (C:Mem)(nm:Str)(A1 A2 A3 A4:Option Addr)(n1 n2 n3 n4 c1 c2 c3 c4:Nat)(x:Nat->Str)(q:Nat->Int) :
  Gives cx.P 60 [.agg ⟨evX 2 nm (.slice A1 n1 c1) (.slice A2 n2 c2) (.slice A3 n3 c3) (.slice A4 n4 c4) x q⟩] C (.agg ⟨jk 2⟩):=by
 refine Fn.it kr_ Tryz.func60 8 fun w0=>?_;refine G.rg fun R hR=>?_;refine D.aD (fun b1=>?_);refine D.ai (fun b2=>?_);refine D.e2 1 2 hR ?_;refine G.aG [0,1,2,3,4,5] [(0,1)] Z kr_ (fun R hB hR=>?_);refine D.aL (fun _=>(jQ _)) ?_;refine D.ac ?_;refine D.af (.tail _ (.head _)) ?_;refine D.ar _ ?_;refine D.dh (jk 2) U10 (fun _=>⟨by decide,by decide,Z⟩) U2 ?_;refine D.ae (j:=0) ?_;refine D.e1 2 hR ?_;refine G.aB (G.aR (.head _) U4 ?_);exact ⟨Z,Z⟩
theorem BK (C:Mem)(nm:Str)(A1 A2 A3 A4:Option Addr)(n1 n2 n3 n4 c1 c2 c3 c4:Nat)(x:Nat->Str)(q:Nat->Int) :
  Gives cx.P 60 [.agg ⟨evX 3 nm (.slice A1 n1 c1) (.slice A2 n2 c2) (.slice A3 n3 c3) (.slice A4 n4 c4) x q⟩] C (.agg ⟨jk 3⟩):=by
 refine Fn.it kr_ Tryz.func60 8 fun w0=>?_;refine G.rg fun R hR=>?_;refine D.aD (fun b1=>?_);refine D.ai (fun b2=>?_);refine D.e2 1 2 hR ?_;refine G.aG [0,1,2,3,4,5] [(0,1)] Z kr_ (fun R hB hR=>?_);refine D.aL (fun _=>(jQ _)) ?_;refine D.ac ?_;refine D.af (.tail _ (.head _)) ?_;refine D.ar _ ?_;refine D.dh (jk 3) U10 (fun _=>⟨by decide,by decide,Z⟩) U2 ?_;refine D.ae (j:=0) ?_;refine D.e1 2 hR ?_;refine G.aB (G.aR (.head _) U4 ?_);exact ⟨Z,Z⟩
theorem BJ (C:Mem)(nm:Str)(A1 A2 A3 A4:Option Addr)(n1 n2 n3 n4 c1 c2 c3 c4:Nat)(x:Nat->Str)(q:Nat->Int) :
  Gives cx.P 60 [.agg ⟨evX 4 nm (.slice A1 n1 c1) (.slice A2 n2 c2) (.slice A3 n3 c3) (.slice A4 n4 c4) x q⟩] C (.agg ⟨jk 4⟩):=by
 refine Fn.it kr_ Tryz.func60 8 fun w0=>?_;refine G.rg fun R hR=>?_;refine D.aD (fun b1=>?_);refine D.ai (fun b2=>?_);refine D.e2 1 2 hR ?_;refine G.aG [0,1,2,3,4,5] [(0,1)] Z kr_ (fun R hB hR=>?_);refine D.aL (fun _=>(jQ _)) ?_;refine D.ac ?_;refine D.af (.tail _ (.head _)) ?_;refine D.ar _ ?_;refine D.dh (jk 4) U10 (fun _=>⟨by decide,by decide,Z⟩) U2 ?_;refine D.ae (j:=0) ?_;refine D.e1 2 hR ?_;refine G.aB (G.aR (.head _) U4 ?_);exact ⟨Z,Z⟩
theorem BI (C:Mem)(nm:Str)(A1 A2 A3 A4:Option Addr)(n1 n2 n3 n4 c1 c2 c3 c4:Nat)(x:Nat->Str)(q:Nat->Int) :
  Gives cx.P 60 [.agg ⟨evX 5 nm (.slice A1 n1 c1) (.slice A2 n2 c2) (.slice A3 n3 c3) (.slice A4 n4 c4) x q⟩] C (.agg ⟨jk 5⟩):=by
 refine Fn.it kr_ Tryz.func60 8 fun w0=>?_;refine G.rg fun R hR=>?_;refine D.aD (fun b1=>?_);refine D.ai (fun b2=>?_);refine D.e2 1 2 hR ?_;refine G.aG [0,1,2,3,4,5] [(0,1)] Z kr_ (fun R hB hR=>?_);refine D.aL (fun _=>(jQ _)) ?_;refine D.ac ?_;refine D.af (.tail _ (.head _)) ?_;refine D.ar _ ?_;refine D.dh (jk 5) U10 (fun _=>⟨by decide,by decide,Z⟩) U2 ?_;refine D.ae (j:=0) ?_;refine D.e1 2 hR ?_;refine G.aB (G.aR (.head _) U4 ?_);exact ⟨Z,Z⟩

theorem Dy (C:Mem)(b kd:Nat)(nm:Str)(A1 A2 A3 A4:Option Addr)(n1 n2 n3 n4 c1 c2 c3 c4:Nat)(x:Nat->Str)(q:Nat->Int) :
  Jog.Fn cx.P 180 [.agg ⟨evX kd nm (.slice A1 n1 c1) (.slice A2 n2 c2) (.slice A3 n3 c3) (.slice A4 n4 c4) x q⟩,.pointer (some ⟨b,0,none⟩)] C [.obj b (.cells ⟨evC kd nm cF cS dy cT cR⟩ 94 (0,0))]
   fun u _C' L'=>u=.tuple #[]/\L'=[.obj b (.cells ⟨evC kd nm ([.slice A1 n1 c1,.slice A2 n2 c2,.slice A3 n3 c3]) cS dy cT cR⟩ 94 (0,0))]:=by
 refine Fn.it kr_ Tryz.func180 9 fun w0=>?_;refine G.rg fun R hR=>?_;refine D.aD (fun b2=>?_);refine D.e2 1 2 hR ?_;refine G.freeze 0 Z (fun _ _ hb2=>?_);refine G.rp 2 fun R hR=>?_;refine D.aa (bkT hb2 3) ?_;refine D.ps 2 ?_;refine D.ae (j:=0) ?_;refine D.bA [] trivial (hR _ _ _ Z ?_);refine G.lA Z ?_;exact ⟨Z,Z⟩
theorem Dx (C:Mem)(b kd:Nat)(nm:Str)(A1 A2 A3 A4:Option Addr)(n1 n2 n3 n4 c1 c2 c3 c4:Nat)(x:Nat->Str)(q:Nat->Int) :
  Jog.Fn cx.P 185 [.agg ⟨evX kd nm (.slice A1 n1 c1) (.slice A2 n2 c2) (.slice A3 n3 c3) (.slice A4 n4 c4) x q⟩,.pointer (some ⟨b,0,none⟩)] C [.obj b (.cells ⟨evC kd nm cF cS dy cT cR⟩ 94 (0,0))]
   fun u _C' L'=>u=.tuple #[]/\L'=[.obj b (.cells ⟨evC kd nm cF ([aA (x 1),aA (x 2),aA (x 3),aA (x 4),aA (x 5),aA (x 6),aA (x 7)]) dy cT cR⟩ 94 (0,0))]:=by
 refine Fn.it kr_ Tryz.func185 9 fun w0=>?_;refine G.rg fun R hR=>?_;refine D.aD (fun b2=>?_);refine D.e2 1 2 hR ?_;refine G.freeze 0 Z (fun _ _ hb2=>?_);refine G.rp 2 fun R hR=>?_;refine D.aa (bkT hb2 7) ?_;refine D.ps 2 ?_;refine D.ae (j:=0) ?_;refine D.bA [] trivial (hR _ _ _ Z ?_);refine G.lA Z ?_;exact ⟨Z,Z⟩
theorem Dw (C:Mem)(b kd:Nat)(nm:Str)(A1 A2 A3 A4:Option Addr)(n1 n2 n3 n4 c1 c2 c3 c4:Nat)(x:Nat->Str)(q:Nat->Int) :
  Jog.Fn cx.P 190 [.agg ⟨evX kd nm (.slice A1 n1 c1) (.slice A2 n2 c2) (.slice A3 n3 c3) (.slice A4 n4 c4) x q⟩,.pointer (some ⟨b,0,none⟩)] C [.obj b (.cells ⟨evC kd nm cF cS dy cT cR⟩ 94 (0,0))]
   fun u _C' L'=>u=.tuple #[]/\L'=[.obj b (.cells ⟨evC kd nm cF cS ([aA (x 8),aA (x 9),aA (x 10),.slice A4 n4 c4,aA (x 11),aA (x 12),aA (x 13)]) cT cR⟩ 94 (0,0))]:=by
 refine Fn.it kr_ Tryz.func190 9 fun w0=>?_;refine G.rg fun R hR=>?_;refine D.aD (fun b2=>?_);refine D.e2 1 2 hR ?_;refine G.freeze 0 Z (fun _ _ hb2=>?_);refine G.rp 2 fun R hR=>?_;refine D.aa (bkT hb2 7) ?_;refine D.ps 2 ?_;refine D.ae (j:=0) ?_;refine D.bA [] trivial (hR _ _ _ Z ?_);refine G.lA Z ?_;exact ⟨Z,Z⟩
theorem Dv (C:Mem)(b kd:Nat)(nm:Str)(A1 A2 A3 A4:Option Addr)(n1 n2 n3 n4 c1 c2 c3 c4:Nat)(x:Nat->Str)(q:Nat->Int) :
  Jog.Fn cx.P 195 [.agg ⟨evX kd nm (.slice A1 n1 c1) (.slice A2 n2 c2) (.slice A3 n3 c3) (.slice A4 n4 c4) x q⟩,.pointer (some ⟨b,0,none⟩)] C [.obj b (.cells ⟨evC kd nm cF cS dy cT cR⟩ 94 (0,0))]
   fun u _C' L'=>u=.tuple #[]/\L'=[.obj b (.cells ⟨evC kd nm cF cS dy ([aA (x 14),aA (x 15),aA (x 16),aA (x 17),aA (x 18),aA (x 19)]) cR⟩ 94 (0,0))]:=by
 refine Fn.it kr_ Tryz.func195 9 fun w0=>?_;refine G.rg fun R hR=>?_;refine D.aD (fun b2=>?_);refine D.e2 1 2 hR ?_;refine G.freeze 0 Z (fun _ _ hb2=>?_);refine G.rp 2 fun R hR=>?_;refine D.aa (bkT hb2 6) ?_;refine D.ps 2 ?_;refine D.ae (j:=0) ?_;refine D.bA [] trivial (hR _ _ _ Z ?_);refine G.lA Z ?_;exact ⟨Z,Z⟩
theorem Du (C:Mem)(b kd:Nat)(nm:Str)(A1 A2 A3 A4:Option Addr)(n1 n2 n3 n4 c1 c2 c3 c4:Nat)(x:Nat->Str)(q:Nat->Int) :
  Jog.Fn cx.P 200 [.agg ⟨evX kd nm (.slice A1 n1 c1) (.slice A2 n2 c2) (.slice A3 n3 c3) (.slice A4 n4 c4) x q⟩,.pointer (some ⟨b,0,none⟩)] C [.obj b (.cells ⟨evC kd nm cF cS dy cT cR⟩ 94 (0,0))]
   fun u _C' L'=>u=.tuple #[]/\L'=[.obj b (.cells ⟨evC kd nm cF cS dy cT ([.int .i64 (q 0),.int .i64 (q 1),.int .i64 (q 2),.int .i64 (q 3),aA (x 20),aA (x 21),aA (x 22)])⟩ 94 (0,0))]:=by
 refine Fn.it kr_ Tryz.func200 9 fun w0=>?_;refine G.rg fun R hR=>?_;refine D.aD (fun b2=>?_);refine D.e2 1 2 hR ?_;refine G.freeze 0 Z (fun _ _ hb2=>?_);refine G.rp 2 fun R hR=>?_;refine D.aa (bkT hb2 7) ?_;refine D.ps 2 ?_;refine D.ae (j:=0) ?_;refine D.bA [] trivial (hR _ _ _ Z ?_);refine G.lA Z ?_;exact ⟨Z,Z⟩

def Gm {α:Type}(p:α->Bool):List α->Nat->Int
 | [],_=>-1
 | x::l,k=>if p x then (k:Nat) else Gm p l (k+1)
theorem wH {α:Type}{p:α->Bool}:∀ {l:List α}{i k:Nat}{x:α},l[i]?=some x->p x=true->(∀ y∈l.take i,p y=false)->Gm p l k=((k+i:Nat):Int)
 | y::l,0,k,x,h,hp,_=>by
  simp only [List.getElem?_cons_zero,zl] at h;subst h;simp [Gm,hp]
 | y::l,i+1,k,x,h,hp,hn=>by
  simp only [Nd] at h;have hy:p y=false:=hn y (by simp);have:=wH (k:=k+1) h hp (fun z hz=>hn z (by simp [hz]));simp only [Gm,hy,LG,LZ,this];omega
theorem nf {α:Type}{p:α->Bool}:∀ {l:List α}{k:Nat},(∀ y∈l,p y=false)->Gm p l k=-1
 | [],_,_=>rfl
 | y::l,k,h=>by
  simp only [Gm,h y br,LG,LZ];exact nf fun z hz=>h z (Ll _ hz)

theorem qO (C:Mem)(v:Value)(l:List Int)(g:Nat)(ca:List Value)(pb:Int->Bool)(hv:Sl C 1 v (l.map dB))(_hen:Jog.Enters cx.P g=true)
  (hp:∀ x∈l,∀ D:Mem,C.le D->Gives cx.P g (.int .i64 x::ca) D (.bool (pb x))) :
  Gives cx.P 322 [v,.func (.func g) #[] ⟨ca⟩] C (.int .i64 (Gm pb l 0)):=by
 obtain ⟨A0,c0,rfl,hc1,hc2,_⟩:=id hv;have hmx:maxLen<=9223372036854775807:=by simp [maxLen]
 simp only [aH] at hv hc1 ⊢;refine Fn.it kr_ Tryz.func322 19 fun w0=>?_;refine G.z2 1 0 1 ?_;refine G.z4 3 0 1 7 8 ?_;refine G.loop (fun fr C' L' μ=>∃ (i:Nat),(i<=l.length/\∀ y∈l.take i,pb y=false)/\fr=[(0,[],.slice A0 l.length c0),(1,[],.func (.func g) #[] ⟨ca⟩),(7,[],.int .i64 l.length),(8,[],.int .i64 i)]/\L'=[]/\μ=l.length-i) (h_4 0 1 7 8) ⟨0,⟨ch _,by simp⟩,Z,Z,Z⟩ (fun fr C0' L0' m hle0 hI=>?_);obtain ⟨i,⟨hi,hno⟩,rfl,rfl,rfl⟩:=hI;refine G.z5 1 0 1 7 8 9 ?_;refine G.cd (fun h9=>?_) fun h9=>?_
 ·have hil:i<l.length:=by simpa using h9
  obtain ⟨x,hx⟩:∃ x,l[i]?=some x:=⟨l[i],aq hil⟩;refine G.z5 2 0 1 5 7 8 ?_;refine G.rp 3 fun R hR=>?_;refine D.ak hv.m_ U10 om_ (bg hx) fl_ (fun p14 hp14=>?_);refine D.aa hp14 ?_;refine D.ag (hp x (ba hx) _ mup) ?_;refine D.e6 0 1 5 7 8 16 hR ?_;refine G.cd (fun h16=>?_) fun h16=>?_
  ·have hyes:pb x=true:=h16;refine G.z1 2 4 ?_;refine G.rf ?_;exact ⟨by rw [wH hx hyes hno,LO],Z⟩
  ·have hn:pb x=false:=h16;refine G.rg fun R hR=>?_;refine D.ar _ ?_;refine D.q4 1 0 1 7 8 hR ?_;refine G.ax (m':=l.length-(i+1)) om_ hle0 (h_4 0 1 7 8) ⟨i+1,⟨by omega,fun y hy=>by
    rw [xO,hx] at hy;rcases Lh.1 hy with hy | hy
    ·exact hno y hy
    ·simp only [LP,K5] at hy;subst hy;exact hn⟩,Z,Z,Z⟩
 ·have hil:i=l.length:=by
   have:¬ i<l.length:=by simpa using h9
   omega
  refine G.z1 1 4 ?_;refine G.rf ?_;exact ⟨by rw [hil,cK] at hno;rw [nf hno],Z⟩
def Ki (z:Int):Bool:=decide (1000000<z) || decide (z < -1000000)
theorem JS (C:Mem)(z:Int):Gives cx.P 299 [.int .i64 z] C (.bool (Ki z)):=by
 refine Fn.it kr_ Tryz.func299 9 fun w0=>?_;refine G.z1 1 0 ?_;refine G.rp 5 fun R hR=>?_;refine D.aI ?_;refine D.q1 1 2 hR ?_;refine G.rf ?_;exact ⟨Z,Z⟩
theorem tr (C:Mem)(v:Value)(l:List Int)(hv:Sl C 1 v (l.map dB))(hl:∀ z∈l,z.natAbs<=3):Gives cx.P 298 [v,.func (.func 299) #[] #[]] C (.bool false):=by
 have hmiss:Gm Ki l 0=-1:=nf (fun y hy=>by
  have:=hl y hy;unfold Ki;rw [K3 om_,K3 om_];rfl)
 refine Fn.it kr_ Tryz.func298 9 fun w0=>?_;refine G.z2 1 0 1 ?_;refine G.rp 2 fun R hR=>?_;refine D.aj (qO _ v l 299 [] Ki hv.m_ kr_ (fun x _ D _=>JS D x)) U7 fl_ ?_;refine D.q1 2 4 hR ?_;refine G.rf ?_;exact ⟨by rw [hmiss];rfl,Z⟩
def Km (a b c d:Int):Bool:=(a == 0) && ((b == 0) && ((c == 0) && ((d == 0) && true)))
def quads:List (Int × Int × Int × Int):=[(1,0,0,1),(2,1,0,0),(1,1,1,1),(3,0,1,0),(0,1,0,0),(1,0,0,0)]
theorem mI:∀ q∈quads,q.1.natAbs<=3/\q.2.1.natAbs<=3/\q.2.2.1.natAbs<=3/\q.2.2.2.natAbs<=3/\Km q.1 q.2.1 q.2.2.1 q.2.2.2=false:=by decide
theorem yh:∀ q∈quads,cx.P.keyLits 5 90 [.int .i64 q.1,.int .i64 q.2.1,.int .i64 q.2.2.1,.int .i64 q.2.2.2]=some [.int .i64 q.1,.int .i64 q.2.1,.int .i64 q.2.2.1,.int .i64 q.2.2.2]:=by
 intro q hq;simp only [quads,cI,L4,Nk] at hq;rcases hq with rfl | rfl | rfl | rfl | rfl | rfl <;> kernel_rfl
theorem Jg (C:Mem)(a b c d:Int)(hq:(a,b,c,d)∈quads) :
  Gives cx.P 263 [.agg ⟨[.int .i64 a,.int .i64 b,.int .i64 c,.int .i64 d]⟩] C (.int .i64 0):=by
 obtain ⟨ha,hb,hc,hd,h0⟩:=mI _ hq;simp only at ha hb hc hd h0;have hl:∀ z∈[a,b,c,d],z.natAbs<=3:=by
  intro z hz;simp only [cI,L4,Nk] at hz;rcases hz with rfl | rfl | rfl | rfl <;> assumption
 refine Fn.it kr_ Tryz.func263 8 fun w0=>?_;refine G.rg fun R hR=>?_;refine D.aD (fun b1=>?_);refine D.q1 1 1 hR ?_;refine G.freeze 0 Z (fun C1 _ hb1=>?_);have hs:Sl C1 1 (.slice (some ⟨b1,0,none⟩) 4 4) ([a,b,c,d].map dB):=Sl.ofBlock (rows:=[a,b,c,d].map dB) (c:=4) (Mem.get hb1 mup) (by intro r hr;obtain ⟨y,_,rfl⟩:=j5.1 hr;rfl) (fun j v hj=>by simpa [dB] using hj) (aP _) dc_;refine G.rg fun R hR=>?_;refine D.j4 0 4 4 U12 (fun _=>⟨.inl ⟨Z,Z⟩,.inl ⟨Z,Z⟩,.inl ⟨Z,Z⟩,by omega,by omega,aP _⟩) U2 ?_;refine D.ag (tr _ _ [a,b,c,d] hs.m_ hl) ?_;refine D.e2 1 4 hR ?_;refine G.cd (fun h4=>?_) fun h4=>?_
 ·exact absurd h4 dc_
 ·refine G.rg fun R hR=>?_;refine D.aa (bkT hb1 4) ?_;refine D.ap [.int .i64 0,.int .i64 0,.int .i64 0,.int .i64 0] ?_;refine D.mf (Km a b c d) (e1:=5) (e2:=5) (la:=[.int .i64 a,.int .i64 b,.int .i64 c,.int .i64 d]) (lb:=[.int .i64 0,.int .i64 0,.int .i64 0,.int .i64 0]) kr_ kr_ U6 kr_ kr_ (yh _ hq) kr_ (fun _=>by simp [Km]) U2 ?_;refine D.e1 7 hR ?_;refine G.cd (fun h7=>?_) fun h7=>?_
  ·exact absurd h7 (by rw [h0];decide)
  ·refine G.z1 1 2 ?_;refine G.rf ?_;exact ⟨Z,Z⟩
theorem tz (C:Mem)(hT:Tabs C)(mv:Value)(hm:∃ v1 v2,mv=.agg ⟨[v1,v2]⟩)(nm:Str)(e:Evt)(hc:Q3 22 e.ctr)(hq:e.turn∈quads) :
  Gives cx.P 201 [mv,.agg ⟨evC 5 nm cF cS dy cT (I4 e)⟩] C (.int .i64 0):=by
 obtain ⟨v1,v2,rfl⟩:=hm;refine Fn.it kr_ Tryz.func201 17 fun w0=>?_;refine G.rg fun R hR=>?_;refine D.aD (fun b2=>?_);refine D.aD (fun b3=>?_);refine D.q1 1 3 hR ?_;refine G.freeze 0 Z (fun _ _ hb3=>?_);refine G.rp 2 fun R hR=>?_;refine D.aa (bkT hb3 4) ?_;refine D.ag (Jg _ _ _ _ _ hq) ?_;refine D.q2 1 3 5 hR ?_;refine G.z3 2 3 5 11 ?_;refine G.cd (fun h11=>?_) fun h11=>?_
 ·exact absurd h11 dc_
 ·refine G.rp 2 fun R hR=>?_;refine D.aa (bkT hb3 3) ?_;refine D.ag (gM _ hT.m_ e.ctr hc) ?_;refine D.q1 1 4 hR ?_;refine G.rf ?_;exact ⟨Z,Z⟩

def yl (l:List Str)(i:Nat):Str:=l.getD i []
theorem jI {l:List Str}(h:∀ s∈l,s.length<=999998)(i:Nat):(yl l i).length<=999998:=by
 unfold yl;rw [aF];cases hi:l[i]? with
 | none=>simp
 | some s=>exact h s (ba hi)
def xF (e:Evt):Nat->Str:=yl [[],qtx e.nrm.1,qtx e.nrm.2.1,qtx e.nrm.2.2,qtx e.off,qtx e.slip.1,qtx e.slip.2.1,qtx e.slip.2.2]
theorem IP {e:Evt}(hn:Q3 22 e.nrm)(ho:QB 22 e.off)(hs:Q3 22 e.slip)(i:Nat):(xF e i).length<=999998:=by
 refine jI (fun s h=>?_) i;simp only [cI,L4,Nk] at h;rcases h with rfl | rfl | rfl | rfl | rfl | rfl | rfl | rfl
 ·simp
 ·exact dD hn.1
 ·exact dD hn.2.1
 ·exact dD hn.2.2
 ·exact dD ho
 ·exact dD hs.1
 ·exact dD hs.2.1
 ·exact dD hs.2.2
theorem yR (C:Mem)(hT:Tabs C)(mv:Value)(hm:∃ v1 v2,mv=.agg ⟨[v1,v2]⟩)(hM:∀ D:Mem,C.le D->Gives cx.P 20 [mv] D (.int .i64 0))(nm:Str)(hnm:cA nm=true)(e:Evt)(hn:Q3 22 e.nrm)(ho:QB 22 e.off)(hs:Q3 22 e.slip)(h0:e.nrm≠(0,0,0))(hd:ce e.slip e.nrm=0) :
  Gives cx.P 22 [mv,.agg ⟨evC 2 nm cF (JG e) dy cT cR⟩] C (.int .i64 0):=by
 have hm0:=hm;obtain ⟨v1,v2,rfl⟩:=hm;refine Fn.it kr_ Tryz.func22 47 fun w0=>?_;refine G.rg fun R hR=>?_;refine D.aD (fun b2=>?_);refine D.aD (fun b3=>?_);refine D.q2 1 2 3 hR ?_;refine G.freeze 1 Z (fun _ _ hb2=>?_);refine G.freeze 0 Z (fun _ _ hb3=>?_);refine G.rg fun R hR=>?_;refine D.aa (bkT hb2 2) ?_;refine D.ag (hM _ mup) ?_;refine D.q3 1 2 3 5 hR ?_;refine G.z4 2 2 3 5 11 ?_;refine G.cd (fun h11=>?_) fun h11=>?_
 ·exact absurd h11 dc_
 ·refine G.rp 1 fun R hR=>?_;refine D.aa (bkT hb3 1) ?_;refine D.ps 3 ?_;refine D.aN U6 (fun _=>PtrTo.blockT (Mem.get hb3 mup) _ 1) U3 ?_;refine D.ac ?_;refine D.aI ?_;refine D.e3 2 3 20 hR ?_;refine G.cd (fun h20=>?_) fun h20=>?_
  ·exact absurd h20 dc_
  ·refine G.rp 1 fun R hR=>?_;refine D.aa (bkT hb3 1) ?_;refine D.ag (f9 _ nm hnm) ?_;refine D.q3 1 2 3 6 hR ?_;refine G.z4 2 2 3 6 25 ?_;refine G.cd (fun h25=>?_) fun h25=>?_
   ·exact absurd h25 dc_
   ·refine G.rp 1 fun R hR=>?_;refine D.aa (bkT hb3 1) ?_;refine D.ac ?_;refine D.aa (bkT hb3 1) ?_;refine D.ap (evC 2 nm cF cS dy cT cR) ?_;refine D.ai (fun b7=>?_);refine D.ae (j:=0) ?_;refine D.e3 2 3 7 hR ?_;refine G.aG [0,1,2,3,4] [(1,1),(4,3)] Z kr_ (fun R hB hR=>?_);refine D.aa (bkT hb3 32) ?_;refine D.aL (fun _=>(BL _ nm none none none none 0 0 0 0 0 0 0 0 (xF e) (fun _=>0))) ?_;refine D.ci U12 ?_;refine D.aa (bkT hb3 32) ?_;refine D.call (Dx _ b7 2 nm none none none none 0 0 0 0 0 0 0 0 (xF e) (fun _=>0)) Z (.inr dc_) U6 (il _) fl_ (fun v36 _ L36 _ hq36=>?_);refine D.e3 2 3 7 hR ?_;obtain ⟨rfl,rfl⟩:=hq36;refine G.rg fun R hR=>?_;refine D.af (.head _) ?_;refine D.aa (bkT hb3 32) ?_;refine D.aj (s7 _ 2 nm (.slice none 0 0) (.slice none 0 0) (.slice none 0 0) (.slice none 0 0) (xF e) (fun _=>0) [] [] [] [] (Sl.nil _ 1) (Sl.nil _ 1) (Sl.nil _ 1) (fun w h=>by cases h) (Sl.nil _ 2) (IP hn ho hs) (fun _=>by decide)) U7 fl_ ?_;refine D.q3 1 2 3 40 hR ?_;refine G.cd (fun h40=>?_) fun h40=>?_
    ·exact absurd h40 dc_
    ·refine G.aG [0,1,2,3,4,5,6] [(1,1),(5,1)] Z kr_ (fun R hB hR=>?_);refine D.aa (bkT hb3 32) ?_;refine D.aL (fun _=>(BL _ nm none none none none 0 0 0 0 0 0 0 0 (xF e) (fun _=>0))) ?_;refine D.ci U12 ?_;refine D.aa (bkT hb2 2) ?_;refine D.aa (bkT hb3 32) ?_;refine D.aL (fun _=>(rv _ hT.m_ _ hm0 nm e hn ho hs h0 hd)) ?_;refine D.q1 1 4 hR ?_;refine G.rf ?_;exact ⟨Z,Z⟩

def xK (e:Evt):Nat->Str:=yl [[],[],[],[],[],[],[],[],qtx e.nrm.1,qtx e.nrm.2.1,qtx e.nrm.2.2,qtx e.slip.1,qtx e.slip.2.1,qtx e.slip.2.2]
theorem IN {e:Evt}(hn:Q3 22 e.nrm)(hs:Q3 22 e.slip)(i:Nat):(xK e i).length<=999998:=by
 refine jI (fun s h=>?_) i;simp only [cI,L4,Nk,or_self_left] at h;rcases h with rfl | rfl | rfl | rfl | rfl | rfl | rfl
 ·simp
 ·exact dD hn.1
 ·exact dD hn.2.1
 ·exact dD hn.2.2
 ·exact dD hs.1
 ·exact dD hs.2.1
 ·exact dD hs.2.2
theorem yQ (C:Mem)(hT:Tabs C)(mv:Value)(hm:∃ v1 v2,mv=.agg ⟨[v1,v2]⟩)(hM:∀ D:Mem,C.le D->Gives cx.P 20 [mv] D (.int .i64 0))(nm:Str)(hnm:cA nm=true)(e:Evt)(A:Option Addr)(c:Nat)(hk:Sl C 2 (.slice A e.knots.length c) (e.knots.map rK))(hn:Q3 22 e.nrm)(hs:Q3 22 e.slip)(h0:e.nrm≠(0,0,0))(hd:ce e.slip e.nrm=0)(hq:∀ k∈e.knots,QB 22 k.1/\QB 22 k.2)(hi:∀ i a b,e.knots[i]?=some a->e.knots[i+1]?=some b->a.1<b.1)(hlen:e.knots.length<=20) :
  Gives cx.P 22 [mv,.agg ⟨evC 3 nm cF cS (Fb e (.slice A e.knots.length c)) cT cR⟩] C (.int .i64 0):=by
 have hm0:=hm;obtain ⟨v1,v2,rfl⟩:=hm;refine Fn.it kr_ Tryz.func22 47 fun w0=>?_;refine G.rg fun R hR=>?_;refine D.aD (fun b2=>?_);refine D.aD (fun b3=>?_);refine D.q2 1 2 3 hR ?_;refine G.freeze 1 Z (fun _ _ hb2=>?_);refine G.freeze 0 Z (fun _ _ hb3=>?_);refine G.rg fun R hR=>?_;refine D.aa (bkT hb2 2) ?_;refine D.ag (hM _ mup) ?_;refine D.q3 1 2 3 5 hR ?_;refine G.z4 2 2 3 5 11 ?_;refine G.cd (fun h11=>?_) fun h11=>?_
 ·exact absurd h11 dc_
 ·refine G.rp 1 fun R hR=>?_;refine D.aa (bkT hb3 1) ?_;refine D.ps 3 ?_;refine D.aN U6 (fun _=>PtrTo.blockT (Mem.get hb3 mup) _ 1) U3 ?_;refine D.ac ?_;refine D.aI ?_;refine D.e3 2 3 20 hR ?_;refine G.cd (fun h20=>?_) fun h20=>?_
  ·exact absurd h20 dc_
  ·refine G.rp 1 fun R hR=>?_;refine D.aa (bkT hb3 1) ?_;refine D.ag (f9 _ nm hnm) ?_;refine D.q3 1 2 3 6 hR ?_;refine G.z4 2 2 3 6 25 ?_;refine G.cd (fun h25=>?_) fun h25=>?_
   ·exact absurd h25 dc_
   ·refine G.rp 1 fun R hR=>?_;refine D.aa (bkT hb3 1) ?_;refine D.ac ?_;refine D.aa (bkT hb3 1) ?_;refine D.ap (evC 3 nm cF cS dy cT cR) ?_;refine D.ai (fun b7=>?_);refine D.ae (j:=0) ?_;refine D.e3 2 3 7 hR ?_;refine G.aG [0,1,2,3,4] [(1,1),(4,3)] Z kr_ (fun R hB hR=>?_);refine D.aa (bkT hb3 32) ?_;refine D.aL (fun _=>(BK _ nm none none none A 0 0 0 e.knots.length 0 0 0 c (xK e) (fun _=>0))) ?_;refine D.ci U12 ?_;refine D.aa (bkT hb3 32) ?_;refine D.call (Dw _ b7 3 nm none none none A 0 0 0 e.knots.length 0 0 0 c (xK e) (fun _=>0)) Z (.inr dc_) U6 (il _) fl_ (fun v36 _ L36 _ hq36=>?_);refine D.e3 2 3 7 hR ?_;obtain ⟨rfl,rfl⟩:=hq36;refine G.rg fun R hR=>?_;refine D.af (.head _) ?_;refine D.aa (bkT hb3 32) ?_;refine D.aj (s7 _ 3 nm (.slice none 0 0) (.slice none 0 0) (.slice none 0 0) (.slice A e.knots.length c) (xK e) (fun _=>0) [] [] [] e.knots (Sl.nil _ 1) (Sl.nil _ 1) (Sl.nil _ 1) (fun w h=>by cases h) hk.m_ (IN hn hs) (fun _=>by decide)) U7 fl_ ?_;refine D.q3 1 2 3 40 hR ?_;refine G.cd (fun h40=>?_) fun h40=>?_
    ·exact absurd h40 dc_
    ·refine G.aG [0,1,2,3,4,5,6] [(1,1),(5,1)] Z kr_ (fun R hB hR=>?_);refine D.aa (bkT hb3 32) ?_;refine D.aL (fun _=>(BK _ nm none none none A 0 0 0 e.knots.length 0 0 0 c (xK e) (fun _=>0))) ?_;refine D.ci U12 ?_;refine D.aa (bkT hb2 2) ?_;refine D.aa (bkT hb3 32) ?_;refine D.aL (fun _=>(tA _ hT.m_ _ hm0 nm e A c hk.m_ hn hs h0 hd hq hi hlen)) ?_;refine D.q1 1 4 hR ?_;refine G.rf ?_;exact ⟨Z,Z⟩
def xD (e:Evt):Nat->Str:=yl [[],[],[],[],[],[],[],[],[],[],[],[],[],[],qtx e.nrm.1,qtx e.nrm.2.1,qtx e.nrm.2.2,qtx e.off,qtx e.width,e.unit]
theorem IQ {e:Evt}(hn:Q3 22 e.nrm)(ho:QB 22 e.off)(hw:QB 22 e.width)(hu:e.unit.length<=999998)(i:Nat):(xD e i).length<=999998:=by
 refine jI (fun s h=>?_) i;simp only [cI,L4,Nk,or_self_left] at h;rcases h with rfl | rfl | rfl | rfl | rfl | rfl | rfl
 ·simp
 ·exact dD hn.1
 ·exact dD hn.2.1
 ·exact dD hn.2.2
 ·exact dD ho
 ·exact dD hw
 ·exact hu
theorem yP (C:Mem)(hT:Tabs C)(mv:Value)(hm:∃ v1 v2,mv=.agg ⟨[v1,v2]⟩)(hM:∀ D:Mem,C.le D->Gives cx.P 20 [mv] D (.int .i64 0))(nm:Str)(hnm:cA nm=true)(e:Evt)(hn:Q3 22 e.nrm)(ho:QB 22 e.off)(hw:QB 22 e.width)(h0:e.nrm≠(0,0,0))(hp:0<e.width)(hu:cA e.unit=true)(hul:e.unit.length<=999998) :
  Gives cx.P 22 [mv,.agg ⟨evC 4 nm cF cS dy (JM e) cR⟩] C (.int .i64 0):=by
 have hm0:=hm;obtain ⟨v1,v2,rfl⟩:=hm;refine Fn.it kr_ Tryz.func22 47 fun w0=>?_;refine G.rg fun R hR=>?_;refine D.aD (fun b2=>?_);refine D.aD (fun b3=>?_);refine D.q2 1 2 3 hR ?_;refine G.freeze 1 Z (fun _ _ hb2=>?_);refine G.freeze 0 Z (fun _ _ hb3=>?_);refine G.rg fun R hR=>?_;refine D.aa (bkT hb2 2) ?_;refine D.ag (hM _ mup) ?_;refine D.q3 1 2 3 5 hR ?_;refine G.z4 2 2 3 5 11 ?_;refine G.cd (fun h11=>?_) fun h11=>?_
 ·exact absurd h11 dc_
 ·refine G.rp 1 fun R hR=>?_;refine D.aa (bkT hb3 1) ?_;refine D.ps 3 ?_;refine D.aN U6 (fun _=>PtrTo.blockT (Mem.get hb3 mup) _ 1) U3 ?_;refine D.ac ?_;refine D.aI ?_;refine D.e3 2 3 20 hR ?_;refine G.cd (fun h20=>?_) fun h20=>?_
  ·exact absurd h20 dc_
  ·refine G.rp 1 fun R hR=>?_;refine D.aa (bkT hb3 1) ?_;refine D.ag (f9 _ nm hnm) ?_;refine D.q3 1 2 3 6 hR ?_;refine G.z4 2 2 3 6 25 ?_;refine G.cd (fun h25=>?_) fun h25=>?_
   ·exact absurd h25 dc_
   ·refine G.rp 1 fun R hR=>?_;refine D.aa (bkT hb3 1) ?_;refine D.ac ?_;refine D.aa (bkT hb3 1) ?_;refine D.ap (evC 4 nm cF cS dy cT cR) ?_;refine D.ai (fun b7=>?_);refine D.ae (j:=0) ?_;refine D.e3 2 3 7 hR ?_;refine G.aG [0,1,2,3,4] [(1,1),(4,3)] Z kr_ (fun R hB hR=>?_);refine D.aa (bkT hb3 32) ?_;refine D.aL (fun _=>(BJ _ nm none none none none 0 0 0 0 0 0 0 0 (xD e) (fun _=>0))) ?_;refine D.ci U12 ?_;refine D.aa (bkT hb3 32) ?_;refine D.call (Dv _ b7 4 nm none none none none 0 0 0 0 0 0 0 0 (xD e) (fun _=>0)) Z (.inr dc_) U6 (il _) fl_ (fun v36 _ L36 _ hq36=>?_);refine D.e3 2 3 7 hR ?_;obtain ⟨rfl,rfl⟩:=hq36;refine G.rg fun R hR=>?_;refine D.af (.head _) ?_;refine D.aa (bkT hb3 32) ?_;refine D.aj (s7 _ 4 nm (.slice none 0 0) (.slice none 0 0) (.slice none 0 0) (.slice none 0 0) (xD e) (fun _=>0) [] [] [] [] (Sl.nil _ 1) (Sl.nil _ 1) (Sl.nil _ 1) (fun w h=>by cases h) (Sl.nil _ 2) (IQ hn ho hw hul) (fun _=>by decide)) U7 fl_ ?_;refine D.q3 1 2 3 40 hR ?_;refine G.cd (fun h40=>?_) fun h40=>?_
    ·exact absurd h40 dc_
    ·refine G.aG [0,1,2,3,4,5,6] [(1,1),(5,1)] Z kr_ (fun R hB hR=>?_);refine D.aa (bkT hb3 32) ?_;refine D.aL (fun _=>(BJ _ nm none none none none 0 0 0 0 0 0 0 0 (xD e) (fun _=>0))) ?_;refine D.ci U12 ?_;refine D.aa (bkT hb2 2) ?_;refine D.aa (bkT hb3 32) ?_;refine D.aL (fun _=>(tB _ hT.m_ _ hm0 nm e hn ho hw h0 hp hu)) ?_;refine D.q1 1 4 hR ?_;refine G.rf ?_;exact ⟨Z,Z⟩
def xT (e:Evt):Nat->Str:=yl [[],[],[],[],[],[],[],[],[],[],[],[],[],[],[],[],[],[],[],[],qtx e.ctr.1,qtx e.ctr.2.1,qtx e.ctr.2.2]
theorem IM {e:Evt}(hc:Q3 22 e.ctr)(i:Nat):(xT e i).length<=999998:=by
 refine jI (fun s h=>?_) i;simp only [cI,L4,Nk,or_self_left] at h;rcases h with rfl | rfl | rfl | rfl
 ·simp
 ·exact dD hc.1
 ·exact dD hc.2.1
 ·exact dD hc.2.2
def qT (e:Evt)(i:Nat):Int:=[e.turn.1,e.turn.2.1,e.turn.2.2.1,e.turn.2.2.2].getD i 0
theorem Jk {e:Evt}(hq:e.turn∈quads)(i:Nat):(qT e i).natAbs<=1000:=by
 obtain ⟨a,b,c,d,_⟩:=mI _ hq;unfold qT
 match i with
 | 0=>show e.turn.1.natAbs<=1000;omega
 | 1=>show e.turn.2.1.natAbs<=1000;omega
 | 2=>show e.turn.2.2.1.natAbs<=1000;omega
 | 3=>show e.turn.2.2.2.natAbs<=1000;omega
 | n+4=>show (0:Int).natAbs<=1000;decide
theorem yO (C:Mem)(hT:Tabs C)(mv:Value)(hm:∃ v1 v2,mv=.agg ⟨[v1,v2]⟩)(hM:∀ D:Mem,C.le D->Gives cx.P 20 [mv] D (.int .i64 0))(nm:Str)(hnm:cA nm=true)(e:Evt)(hc:Q3 22 e.ctr)(hq:e.turn∈quads) :
  Gives cx.P 22 [mv,.agg ⟨evC 5 nm cF cS dy cT (I4 e)⟩] C (.int .i64 0):=by
 have hm0:=hm;obtain ⟨v1,v2,rfl⟩:=hm;refine Fn.it kr_ Tryz.func22 47 fun w0=>?_;refine G.rg fun R hR=>?_;refine D.aD (fun b2=>?_);refine D.aD (fun b3=>?_);refine D.q2 1 2 3 hR ?_;refine G.freeze 1 Z (fun _ _ hb2=>?_);refine G.freeze 0 Z (fun _ _ hb3=>?_);refine G.rg fun R hR=>?_;refine D.aa (bkT hb2 2) ?_;refine D.ag (hM _ mup) ?_;refine D.q3 1 2 3 5 hR ?_;refine G.z4 2 2 3 5 11 ?_;refine G.cd (fun h11=>?_) fun h11=>?_
 ·exact absurd h11 dc_
 ·refine G.rp 1 fun R hR=>?_;refine D.aa (bkT hb3 1) ?_;refine D.ps 3 ?_;refine D.aN U6 (fun _=>PtrTo.blockT (Mem.get hb3 mup) _ 1) U3 ?_;refine D.ac ?_;refine D.aI ?_;refine D.e3 2 3 20 hR ?_;refine G.cd (fun h20=>?_) fun h20=>?_
  ·exact absurd h20 dc_
  ·refine G.rp 1 fun R hR=>?_;refine D.aa (bkT hb3 1) ?_;refine D.ag (f9 _ nm hnm) ?_;refine D.q3 1 2 3 6 hR ?_;refine G.z4 2 2 3 6 25 ?_;refine G.cd (fun h25=>?_) fun h25=>?_
   ·exact absurd h25 dc_
   ·refine G.rp 1 fun R hR=>?_;refine D.aa (bkT hb3 1) ?_;refine D.ac ?_;refine D.aa (bkT hb3 1) ?_;refine D.ap (evC 5 nm cF cS dy cT cR) ?_;refine D.ai (fun b7=>?_);refine D.ae (j:=0) ?_;refine D.e3 2 3 7 hR ?_;refine G.aG [0,1,2,3,4] [(1,1),(4,3)] Z kr_ (fun R hB hR=>?_);refine D.aa (bkT hb3 32) ?_;refine D.aL (fun _=>(BI _ nm none none none none 0 0 0 0 0 0 0 0 (xT e) (qT e))) ?_;refine D.ci U12 ?_;refine D.aa (bkT hb3 32) ?_;refine D.call (Du _ b7 5 nm none none none none 0 0 0 0 0 0 0 0 (xT e) (qT e)) Z (.inr dc_) U6 (il _) fl_ (fun v36 _ L36 _ hq36=>?_);refine D.e3 2 3 7 hR ?_;obtain ⟨rfl,rfl⟩:=hq36;refine G.rg fun R hR=>?_;refine D.af (.head _) ?_;refine D.aa (bkT hb3 32) ?_;refine D.aj (s7 _ 5 nm (.slice none 0 0) (.slice none 0 0) (.slice none 0 0) (.slice none 0 0) (xT e) (qT e) [] [] [] [] (Sl.nil _ 1) (Sl.nil _ 1) (Sl.nil _ 1) (fun w h=>by cases h) (Sl.nil _ 2) (IM hc) (Jk hq)) U7 fl_ ?_;refine D.q3 1 2 3 40 hR ?_;refine G.cd (fun h40=>?_) fun h40=>?_
    ·exact absurd h40 dc_
    ·refine G.aG [0,1,2,3,4,5,6] [(1,1),(5,1)] Z kr_ (fun R hB hR=>?_);refine D.aa (bkT hb3 32) ?_;refine D.aL (fun _=>(BI _ nm none none none none 0 0 0 0 0 0 0 0 (xT e) (qT e))) ?_;refine D.ci U12 ?_;refine D.aa (bkT hb2 2) ?_;refine D.aa (bkT hb3 32) ?_;refine D.aL (fun _=>(tz _ hT.m_ _ hm0 nm e hc hq)) ?_;refine D.q1 1 4 hR ?_;refine G.rf ?_;exact ⟨Z,Z⟩


theorem eC {k z:Int}(h:(k == z)=true):k=z:=by simpa using h

def sqP:List (Int × Int):=[(0,0),(4,0),(4,4),(0,4)]
def shP:Nat->List (Int × Int)
 | 0=>sqP
 | 1=>sqP
 | 2=>sqP++[(2,1)]
 | 3=>[(0,0),(6,0),(0,4)]
 | 4=>[(0,0),(2,0),(4,0),(0,2),(2,2),(4,2)]
 | 5=>[(1,4),(5,3),(4,0),(0,0)]
 | 6=>sqP++[(2,0)]
 | _=>[(0,0),(6,0),(0,6),(2,2)]
def shT:Nat->List Tri
 | 0=>[(0,1,2),(0,2,3)]
 | 1=>[(0,1,3),(1,2,3)]
 | 2=>[(0,1,4),(1,2,4),(2,3,4),(3,0,4)]
 | 3=>[(2,0,1)]
 | 4=>[(0,1,4),(0,4,3),(1,2,5),(1,5,4)]
 | 5=>[(3,2,1),(3,1,0)]
 | 6=>[(0,4,3),(4,2,3),(4,1,2)]
 | _=>[(0,1,3),(1,2,3),(2,0,3)]
def KJ (p:Int × Int):List Value:=[.int .i64 p.1,.int .i64 p.2]
def ShIn (u:Value)(D:Mem)(m:Nat):Prop:=∃ pv tv,u=.tuple #[pv,tv]/\Sl D 2 pv ((shP m).map KJ)/\Sl D 3 tv ((shT m).map lE)
theorem x5 (C:Mem)(kd:Nat)(_hk:kd<256):Pur cx.P 46 [.int .u8 kd] C fun u D=>ShIn u D (kd % 8):=by
 have hm8:kd % 8<8:=K9 _ dc_;obtain ⟨m,hm⟩:∃ m,kd % 8=m:=⟨_,rfl⟩;refine Fn.it kr_ Tryz.func46 86 fun w0=>?_;refine G.z1 2 0 ?_;refine G.rg fun R hR=>?_;refine D.ap ([.int .i64 0,.int .i64 0]) ?_;refine D.ap ([.int .i64 4,.int .i64 0]) ?_;refine D.ap ([.int .i64 4,.int .i64 4]) ?_;refine D.ap ([.int .i64 0,.int .i64 4]) ?_;refine D.dw [[.int .i64 0,.int .i64 0],[.int .i64 4,.int .i64 0],[.int .i64 4,.int .i64 4],[.int .i64 0,.int .i64 4]] U12 fl_ (fun b9 _ _ hs9=>?_);refine D.q2 1 0 4 hR ?_;refine G.rp 1 fun R hR=>?_;refine D.dV (kd) (8) U6 om_ U2 ?_;refine D.e2 4 11 hR ?_;refine G.z3 2 4 11 12 ?_;refine G.cd (fun h12=>?_) fun h12=>?_
 ·have hX:kd % 8=0:=by
   have:=eC h12;omega
  refine G.rp 1 fun R hR=>?_;refine D.ap ([.int .i64 0,.int .i64 1,.int .i64 2]) ?_;refine D.ap ([.int .i64 0,.int .i64 2,.int .i64 3]) ?_;refine D.ah [[.int .i64 0,.int .i64 1,.int .i64 2],[.int .i64 0,.int .i64 2,.int .i64 3]] (fun p17 _ _ hs17=>?_);refine D.q2 2 2 3 hR ?_;refine G.aB (G.dropAll (G.a8 U3 ?_));exact ⟨Z,by rw [hX];exact ⟨_,_,Z,hs9.mono mup,hs17.mono mup⟩⟩
 ·have hX0:kd % 8≠0:=by
   intro e;rw [e] at h12;exact absurd h12 dc_
  refine G.z3 2 4 11 18 ?_;refine G.cd (fun h18=>?_) fun h18=>?_
  ·have hX:kd % 8=1:=by
    have:=eC h18;omega
   refine G.rp 1 fun R hR=>?_;refine D.ap ([.int .i64 0,.int .i64 1,.int .i64 3]) ?_;refine D.ap ([.int .i64 1,.int .i64 2,.int .i64 3]) ?_;refine D.ah [[.int .i64 0,.int .i64 1,.int .i64 3],[.int .i64 1,.int .i64 2,.int .i64 3]] (fun p23 _ _ hs23=>?_);refine D.q2 2 2 3 hR ?_;refine G.aB (G.dropAll (G.a8 U3 ?_));exact ⟨Z,by rw [hX];exact ⟨_,_,Z,hs9.mono mup,hs23.mono mup⟩⟩
  ·have hX1:kd % 8≠1:=by
    intro e;rw [e] at h18;exact absurd h18 dc_
   refine G.z3 2 4 11 24 ?_;refine G.cd (fun h24=>?_) fun h24=>?_
   ·have hX:kd % 8=2:=by
     have:=eC h24;omega
    refine G.rp 1 fun R hR=>?_;refine D.ap ([.int .i64 2,.int .i64 1]) ?_;refine D.ah [[.int .i64 2,.int .i64 1]] (fun p28 _ _ hs28=>?_);refine D.tT Z Z Z Z Z Z Z Z Z Z hs9.m_ hs28.m_ (.inr dc_) (by simp only [fh,J8,maxLen];omega) dc_ fl_ (fun v29 _ _ hs29=>?_);refine D.ap ([.int .i64 0,.int .i64 1,.int .i64 4]) ?_;refine D.ap ([.int .i64 1,.int .i64 2,.int .i64 4]) ?_;refine D.ap ([.int .i64 2,.int .i64 3,.int .i64 4]) ?_;refine D.ap ([.int .i64 3,.int .i64 0,.int .i64 4]) ?_;refine D.ah [[.int .i64 0,.int .i64 1,.int .i64 4],[.int .i64 1,.int .i64 2,.int .i64 4],[.int .i64 2,.int .i64 3,.int .i64 4],[.int .i64 3,.int .i64 0,.int .i64 4]] (fun p34 _ _ hs34=>?_);refine D.q2 2 2 3 hR ?_;refine G.aB (G.dropAll (G.a8 U3 ?_));exact ⟨Z,by rw [hX];exact ⟨_,_,Z,hs29.mono mup,hs34.mono mup⟩⟩
   ·have hX2:kd % 8≠2:=by
     intro e;rw [e] at h24;exact absurd h24 dc_
    refine G.z3 2 4 11 35 ?_;refine G.cd (fun h35=>?_) fun h35=>?_
    ·have hX:kd % 8=3:=by
      have:=eC h35;omega
     refine G.rg fun R hR=>?_;refine D.ap ([.int .i64 0,.int .i64 0]) ?_;refine D.ap ([.int .i64 6,.int .i64 0]) ?_;refine D.ap ([.int .i64 0,.int .i64 4]) ?_;refine D.ah [[.int .i64 0,.int .i64 0],[.int .i64 6,.int .i64 0],[.int .i64 0,.int .i64 4]] (fun p40 _ _ hs40=>?_);refine D.ap ([.int .i64 2,.int .i64 0,.int .i64 1]) ?_;refine D.ah [[.int .i64 2,.int .i64 0,.int .i64 1]] (fun p42 _ _ hs42=>?_);refine D.q2 2 2 3 hR ?_;refine G.aB (G.dropAll (G.a8 U3 ?_));exact ⟨Z,by rw [hX];exact ⟨_,_,Z,hs40.mono mup,hs42.mono mup⟩⟩
    ·have hX3:kd % 8≠3:=by
      intro e;rw [e] at h35;exact absurd h35 dc_
     refine G.z3 2 4 11 43 ?_;refine G.cd (fun h43=>?_) fun h43=>?_
     ·have hX:kd % 8=4:=by
       have:=eC h43;omega
      refine G.rg fun R hR=>?_;refine D.ap ([.int .i64 0,.int .i64 0]) ?_;refine D.ap ([.int .i64 2,.int .i64 0]) ?_;refine D.ap ([.int .i64 4,.int .i64 0]) ?_;refine D.ap ([.int .i64 0,.int .i64 2]) ?_;refine D.ap ([.int .i64 2,.int .i64 2]) ?_;refine D.ap ([.int .i64 4,.int .i64 2]) ?_;refine D.ah [[.int .i64 0,.int .i64 0],[.int .i64 2,.int .i64 0],[.int .i64 4,.int .i64 0],[.int .i64 0,.int .i64 2],[.int .i64 2,.int .i64 2],[.int .i64 4,.int .i64 2]] (fun p51 _ _ hs51=>?_);refine D.ap ([.int .i64 0,.int .i64 1,.int .i64 4]) ?_;refine D.ap ([.int .i64 0,.int .i64 4,.int .i64 3]) ?_;refine D.ap ([.int .i64 1,.int .i64 2,.int .i64 5]) ?_;refine D.ap ([.int .i64 1,.int .i64 5,.int .i64 4]) ?_;refine D.ah [[.int .i64 0,.int .i64 1,.int .i64 4],[.int .i64 0,.int .i64 4,.int .i64 3],[.int .i64 1,.int .i64 2,.int .i64 5],[.int .i64 1,.int .i64 5,.int .i64 4]] (fun p56 _ _ hs56=>?_);refine D.q2 2 2 3 hR ?_;refine G.aB (G.dropAll (G.a8 U3 ?_));exact ⟨Z,by rw [hX];exact ⟨_,_,Z,hs51.mono mup,hs56.mono mup⟩⟩
     ·have hX4:kd % 8≠4:=by
       intro e;rw [e] at h43;exact absurd h43 dc_
      refine G.z3 2 4 11 57 ?_;refine G.cd (fun h57=>?_) fun h57=>?_
      ·have hX:kd % 8=5:=by
        have:=eC h57;omega
       refine G.rg fun R hR=>?_;refine D.ap ([.int .i64 1,.int .i64 4]) ?_;refine D.ap ([.int .i64 5,.int .i64 3]) ?_;refine D.ap ([.int .i64 4,.int .i64 0]) ?_;refine D.ap ([.int .i64 0,.int .i64 0]) ?_;refine D.ah [[.int .i64 1,.int .i64 4],[.int .i64 5,.int .i64 3],[.int .i64 4,.int .i64 0],[.int .i64 0,.int .i64 0]] (fun p63 _ _ hs63=>?_);refine D.ap ([.int .i64 3,.int .i64 2,.int .i64 1]) ?_;refine D.ap ([.int .i64 3,.int .i64 1,.int .i64 0]) ?_;refine D.ah [[.int .i64 3,.int .i64 2,.int .i64 1],[.int .i64 3,.int .i64 1,.int .i64 0]] (fun p66 _ _ hs66=>?_);refine D.q2 2 2 3 hR ?_;refine G.aB (G.dropAll (G.a8 U3 ?_));exact ⟨Z,by rw [hX];exact ⟨_,_,Z,hs63.mono mup,hs66.mono mup⟩⟩
      ·have hX5:kd % 8≠5:=by
        intro e;rw [e] at h57;exact absurd h57 dc_
       refine G.z2 2 4 67 ?_;refine G.cd (fun h67=>?_) fun h67=>?_
       ·have hX:kd % 8=6:=by
         have:=eC h67;omega
        refine G.rp 1 fun R hR=>?_;refine D.ap ([.int .i64 2,.int .i64 0]) ?_;refine D.ah [[.int .i64 2,.int .i64 0]] (fun p71 _ _ hs71=>?_);refine D.tT Z Z Z Z Z Z Z Z Z Z hs9.m_ hs71.m_ (.inr dc_) (by simp only [fh,J8,maxLen];omega) dc_ fl_ (fun v72 _ _ hs72=>?_);refine D.ap ([.int .i64 0,.int .i64 4,.int .i64 3]) ?_;refine D.ap ([.int .i64 4,.int .i64 2,.int .i64 3]) ?_;refine D.ap ([.int .i64 4,.int .i64 1,.int .i64 2]) ?_;refine D.ah [[.int .i64 0,.int .i64 4,.int .i64 3],[.int .i64 4,.int .i64 2,.int .i64 3],[.int .i64 4,.int .i64 1,.int .i64 2]] (fun p76 _ _ hs76=>?_);refine D.q2 2 2 3 hR ?_;refine G.aB (G.dropAll (G.a8 U3 ?_));exact ⟨Z,by rw [hX];exact ⟨_,_,Z,hs72.mono mup,hs76.mono mup⟩⟩
       ·have hX6:kd % 8≠6:=by
         intro e;rw [e] at h67;exact absurd h67 dc_
        refine G.rg fun R hR=>?_;refine D.ap ([.int .i64 0,.int .i64 0]) ?_;refine D.ap ([.int .i64 6,.int .i64 0]) ?_;refine D.ap ([.int .i64 0,.int .i64 6]) ?_;refine D.ap ([.int .i64 2,.int .i64 2]) ?_;refine D.ah [[.int .i64 0,.int .i64 0],[.int .i64 6,.int .i64 0],[.int .i64 0,.int .i64 6],[.int .i64 2,.int .i64 2]] (fun p81 _ _ hs81=>?_);refine D.ap ([.int .i64 0,.int .i64 1,.int .i64 3]) ?_;refine D.ap ([.int .i64 1,.int .i64 2,.int .i64 3]) ?_;refine D.ap ([.int .i64 2,.int .i64 0,.int .i64 3]) ?_;refine D.ah [[.int .i64 0,.int .i64 1,.int .i64 3],[.int .i64 1,.int .i64 2,.int .i64 3],[.int .i64 2,.int .i64 0,.int .i64 3]] (fun p85 _ _ hs85=>?_);refine D.q2 2 2 3 hR ?_;refine G.aB (G.dropAll (G.a8 U3 ?_));exact ⟨Z,by rw [show kd % 8=7 by omega];exact ⟨_,_,Z,hs81.mono mup,hs85.mono mup⟩⟩

theorem zE {n:Int}(h1:-128<=n)(h2:n<128):IntKind.i8.wrap n=n:=by
 simp [IntKind.wrap,IntKind.bits,IntKind.signed];omega
theorem I9:∀ m:Nat,∀ p∈shP m,0<=p.1/\p.1<=6/\0<=p.2/\p.2<=6
 | 0=>by decide
 | 1=>by decide
 | 2=>by decide
 | 3=>by decide
 | 4=>by decide
 | 5=>by decide
 | 6=>by decide
 | _+7=>by
  show ∀ p∈([(0,0),(6,0),(0,6),(2,2)]:List (Int × Int)),0<=p.1/\p.1<=6/\0<=p.2/\p.2<=6;decide
theorem Am:∀ m:Nat,(shP m).length<=6
 | 0=>by decide
 | 1=>by decide
 | 2=>by decide
 | 3=>by decide
 | 4=>by decide
 | 5=>by decide
 | 6=>by decide
 | _+7=>by
  show ([(0,0),(6,0),(0,6),(2,2)]:List (Int × Int)).length<=6;decide
def fY (m:Nat)(a b:Int)(h:Bool):List Pt:=(shP m).map fun p=>lk a b h p.1 p.2 1
theorem ql (m:Nat)(a b:Int)(h:Bool):(fY m a b h).length<=6:=by rw [fY,aH];exact Am m
theorem CJ {z w:Int}(hw:w≠0)(hz:z.natAbs<1000000000)(hwl:w.natAbs<1000000000):QB 1 (iV z w):=by
 unfold iV;refine f7 om_ ?_ ?_
 ·show _<B9 ^ 1;split
  ·rw [MN];exact hz
  ·exact hz
 ·exact hwl
theorem BB (C:Mem)(hT:Tabs C)(kd:Nat)(a b:Int)(h:Bool)(hk:kd<256):Pur cx.P 16 [F6 kd a b h] C fun u D=>MeshIn D u (fY (kd % 8) a b h) (shT (kd % 8)):=by
 have hbd:=I9 (kd % 8);have hlen:=Am (kd % 8);refine Fn.it kr_ Tryz.func16 42 fun w0=>?_;refine G.rg fun R hR=>?_;refine D.aD (fun b1=>?_);refine D.ai (fun b2=>?_);refine D.e2 1 2 hR ?_;refine G.freeze 1 Z (fun _ _ hb1=>?_);refine G.rp 1 fun R hR=>?_;refine D.aa (bkT hb1 1) ?_;refine D.az (x5 _ kd hk) (fun v10 _ _ hq10=>?_);obtain ⟨pv,tv,rfl,hpv,htv⟩:=hq10;obtain ⟨Ap,cp,rfl,hcp1,hcp2,_⟩:=id hpv;obtain ⟨At,ct,rfl,hct1,hct2,_⟩:=id htv;simp only [aH] at hpv htv hcp1 ⊢;refine D.q4 5 1 2 3 4 hR ?_;refine G.rp 1 fun R hR=>?_;refine D.ap [.slice none 0 0,.slice At (shT (kd % 8)).length ct] ?_;refine D.ai (fun b5=>?_);refine D.ae (j:=0) ?_;refine D.e4 1 2 3 5 hR ?_;refine G.z5 1 1 2 3 5 6 ?_;refine G.nilArr 97 2 ?_;refine G.perm (L':=[.obj b5 (.cells ⟨[.slice none 0 0,.slice At (shT (kd % 8)).length ct]⟩ 37 (0,0)),.arr (.slice none 0 0) 97 2 0 [],.obj b2 (.cells ⟨[.slice none 0 0,.slice none 0 0]⟩ 37 (0,0))]) (List.Perm.swap _ _ _) ?_;refine G.loop (fun fr C' L' μ=>∃ (i:Nat)(w:Value),(i<=(shP (kd % 8)).length)/\fr=[(1,[],.pointer (some ⟨b1,0,none⟩)),(2,[],.pointer (some ⟨b2,0,none⟩)),(3,[],.slice Ap (shP (kd % 8)).length cp),(5,[],.pointer (some ⟨b5,0,none⟩)),(6,[],.int .i64 i)]/\L'=[.obj b5 (.cells ⟨[w,.slice At (shT (kd % 8)).length ct]⟩ 37 (0,0)),.arr w 97 2 ((fY (kd % 8) a b h).take i).length (((fY (kd % 8) a b h).take i).map kR).flatten,.obj b2 (.cells ⟨[.slice none 0 0,.slice none 0 0]⟩ 37 (0,0))]/\μ=(shP (kd % 8)).length-i) (h_5 1 2 3 5 6) ⟨0,.slice none 0 0,ch _,Z,Z,Z⟩ (fun fr C0' L0' m _ hI=>?_);obtain ⟨i,w,hi,rfl,rfl,rfl⟩:=hI;refine G.z6 4 1 2 3 5 6 18 ?_;refine G.cd (fun h18=>?_) fun h18=>?_
 ·have hil:i<(shP (kd % 8)).length:=by
   have:=bi h18;omega
  obtain ⟨p,hp⟩:∃ p,(shP (kd % 8))[i]?=some p:=⟨(shP (kd % 8))[i],aq hil⟩;obtain ⟨hx1,hx2,hy1,hy2⟩:=hbd p (ba hp);have hpk:(fY (kd % 8) a b h)[i]?=some (lk a b h p.1 p.2 1):=by unfold fY;rw [bX,hp];rfl
  have htk:(fY (kd % 8) a b h).take (i+1)=(fY (kd % 8) a b h).take i++[lk a b h p.1 p.2 1]:=by rw [xO,hpk];rfl
  have htl:((fY (kd % 8) a b h).take i).length<=6:=by rw [eB];have:=ql (kd % 8) a b h;omega
  refine G.aG [0,1,2,3,4,5,6,7,8,9,10,11,12,13,14,15,16,17,18,19,20] [(16,1),(8,0),(14,0)] Z kr_ (fun R hB hR=>?_);refine D.ac ?_;refine D.af (.head _) ?_;refine D.aa (bkT hb1 4) ?_;refine D.ps 2 ?_;refine D.ak hpv.m_ U10 om_ (bg hp) fl_ (fun p26 hp26=>?_);refine D.xM Z Z Z Z Z Z Z Z Z (fun _=>hp26) (fun _=>⟨by omega,om_⟩) fl_ Z (fun p27 hp270=>?_);have hp27:=hp270 trivial;refine D.aa hp27 ?_;refine D.bS (c:=p.1) U8 (zE om_ om_) U2 ?_;refine D.ps 2 ?_;refine D.ak hpv.m_ U10 om_ (bg hp) fl_ (fun p32 hp32=>?_);refine D.xM Z Z Z Z Z Z Z Z Z (fun _=>hp32) (fun _=>⟨by omega,om_⟩) fl_ Z (fun p33 hp330=>?_);have hp33:=hp330 trivial;refine D.aa hp33 ?_;refine D.bS (c:=p.2) U8 (zE om_ om_) U2 ?_;refine D.ap [.int .i8 p.1,.int .i8 p.2] ?_;refine D.ay (fun _=>(wk _ hT.m_ kd a b h p.1 p.2 1 dc_ dc_ ⟨by omega,by omega⟩ ⟨by omega,by omega⟩)) U9 ?_;refine D.ah [kR (lk a b h p.1 p.2 1)] (fun p38 _ _ hs38=>?_);refine D.aQ (j:=1) U11 hs38.m_ Z (by simp only [bz,maxLen];omega) (by simp only [bz];omega) fl_ (fun A39 n39 c39=>?_);refine D.ac ?_;refine D.ae (j:=1) ?_;refine D.e5 1 2 3 5 6 hR ?_;refine G.rp 1 fun R hR=>?_;refine D.ar _ ?_;refine D.q5 1 1 2 3 5 6 hR ?_;refine G.be (L':=[.obj b5 (.cells ⟨[.slice A39 n39 c39,.slice At (shT (kd % 8)).length ct]⟩ 37 (0,0)),.arr (.slice A39 n39 c39) 97 2 ((fY (kd % 8) a b h).take (i+1)).length (((fY (kd % 8) a b h).take (i+1)).map kR).flatten,.obj b2 (.cells ⟨[.slice none 0 0,.slice none 0 0]⟩ 37 (0,0))]) (by rw [htk,LC,LK,eh];rfl) ?_;refine G.ax (m':=(shP (kd % 8)).length-(i+1)) om_ mup (h_5 1 2 3 5 6) ⟨i+1,_,om_,Z,Z,Z⟩
 ·have hil:i=(shP (kd % 8)).length:=by
   have:=dj h18;omega
  have hfull:(fY (kd % 8) a b h).take i=fY (kd % 8) a b h:=gG (by rw [hil,fY,aH];exact aP _);rw [hfull];refine G.freezeArr 1 ((fY (kd % 8) a b h).map kR) U2 (by intro r hr;obtain ⟨y,_,rfl⟩:=j5.1 hr;rfl) (by rw [aH]) (fun Cg hg hsl3=>?_);obtain ⟨Aw,cw,rfl,_⟩:=id hsl3;refine G.rg fun R hR=>?_;refine D.af (.head _) ?_;refine D.ae (j:=1) ?_;refine D.e1 2 hR ?_;refine G.aB (G.aR (.head _) U4 ?_);exact ⟨Z,_,_,Z,hsl3,htv.mono mup⟩

structure Deed where
 kd:Nat
 a0:Int
 a1:Int
 a2:Int
 b0:Int
 b1:Int
 b2:Int
 n:Int
 k0:Nat
 k1:Nat
 k2:Nat
 k3:Nat
def jY (d:Deed):List Value:=[.int .u8 d.kd,.int .i8 d.a0,.int .i8 d.a1,.int .i8 d.a2,.int .i8 d.b0,.int .i8 d.b1,.int .i8 d.b2,.int .i8 d.n,.int .u8 d.k0,.int .u8 d.k1,.int .u8 d.k2,.int .u8 d.k3]
def dA (d:Deed):List Int:=[d.a0,d.a1,d.a2]
def dK (d:Deed):List Nat:=[d.k0,d.k1,d.k2,d.k3]
structure DeedR (d:Deed):Prop where
 kd:d.kd<256
 a:∀ z∈dA d, -128<=z/\z<=127
 b:∀ z∈[d.b0,d.b1,d.b2,d.n], -128<=z/\z<=127
 k:∀ z∈dK d,z<256
abbrev I3:=Int × Int × Int
def toV (a:I3):V3:=((a.1:Rat),(a.2.1:Rat),(a.2.2:Rat))
def rm3 (x y z:Int):I3:=(x.tmod 3,y.tmod 3,z.tmod 3)
def rJ (d:Deed):I3:=if rm3 d.a0 d.a1 d.a2=(0,0,0) then ((rm3 d.a0 d.a1 d.a2).1,(rm3 d.a0 d.a1 d.a2).2.1,1) else rm3 d.a0 d.a1 d.a2
def j1 (a b:I3):I3:=(a.2.1*b.2.2-a.2.2*b.2.1,a.2.2*b.1-a.1*b.2.2,a.1*b.2.1-a.2.1*b.1)
def zk (n b:I3):I3:=if j1 n b≠(0,0,0) then j1 n b else if j1 n (1,0,0)≠(0,0,0) then j1 n (1,0,0) else if j1 n (0,1,0)≠(0,0,0) then j1 n (0,1,0) else (0,0,0)
def d8 (np:Nat)(d:Deed):Nat->List Rat
 | 0=>(List.range np).map fun k=>((d.n.tmod 4:Int):Rat)+iV (((dA d).getD (k % 3) 0).tmod 3) 2
 | j+1=>(d8 np d j).mapIdx fun k z=>z+iV (((dK d).getD ((j+k) % 4) 0 % 4:Nat):Int) 2
def nmD (i j:Nat):Str:=[UInt8.ofNat (65+i),UInt8.ofNat (49+j)]
def bJ (np:Nat)(d:Deed)(i:Nat):Evt where
 kd:=1+d.kd % 5
 base:=d8 np d 0
 units:=(List.range (d.k0 % 3+1)).map (nmD i)
 surf:=(List.range (d.k0 % 3)).map fun j=>d8 np d (j+1)
 nrm:=toV (rJ d)
 off:=((d.n.tmod 5:Int):Rat)
 slip:=toV (zk (rJ d) (rm3 d.b0 d.b1 d.b2))
 knots:=(List.range (1+d.k0 % 3)).map fun k:Nat=>(((d.n.tmod 3+2*(k:Int):Int):Rat),iV ((((dK d).getD k 0 % 4:Nat):Int)-1) ((1+d.k3 % 2:Nat):Int))
 width:=iV (1+d.k0 % 4:Nat) 2
 unit:=[107,UInt8.ofNat (48+i)]
 turn:=quads.getD (d.k0 % 6) (0,0,0,0)
 ctr:=toV (rm3 d.b0 d.b1 d.b2)
def pW (e:Evt):List Str:=if e.kd=1 then e.units else if e.kd=4 then [e.unit] else []
structure EvO (np:Nat)(e:Evt):Prop where
 r:EvR e
 nz:e.nrm≠(0,0,0)
 pp:ce e.slip e.nrm=0
 bl:e.base.length=np
 bq:∀ q∈e.base,QB 1 q
 sl:∀ f∈e.surf,f.length=np/\∀ q∈f,QB 1 q
 so:∀ i f g,(e.base::e.surf)[i]?=some f->(e.base::e.surf)[i+1]?=some g->∀ k:Nat,f.getD k 0<=g.getD k 0
 un:e.units.length=e.surf.length+1
 u2:e.surf.length<=2
 nu:∀ s∈e.units,cA s=true/\s.length<=32
 nd:e.units.Nodup
 wd:0<e.width
 wq:QB 1 e.width
 kq:∀ k∈e.knots,QB 1 k.1/\QB 1 k.2
 uu:cA e.unit=true/\e.unit.length<=32
 kl:e.knots≠[]
theorem tm3 (x:Int):(x.tmod 3).natAbs<=2:=by
 have h:(x.tmod 3).natAbs=x.natAbs % 3:=M7 x 3;omega
theorem sy (x y z:Int):(rm3 x y z).1.natAbs<=2/\(rm3 x y z).2.1.natAbs<=2/\(rm3 x y z).2.2.natAbs<=2:=⟨tm3 x,tm3 y,tm3 z⟩
theorem vM {a:I3}{c:Nat}(h:a.1.natAbs<=c/\a.2.1.natAbs<=c/\a.2.2.natAbs<=c):Wh3 c (toV a):=⟨⟨_,rfl,h.1⟩,⟨_,rfl,h.2.1⟩,⟨_,rfl,h.2.2⟩⟩
theorem Bo (d:Deed):(rJ d).1.natAbs<=2/\(rJ d).2.1.natAbs<=2/\(rJ d).2.2.natAbs<=2:=by
 have h:=sy d.a0 d.a1 d.a2;unfold rJ;split
 ·exact ⟨h.1,h.2.1,by show (1:Int).natAbs<=2;decide⟩
 ·exact h
theorem Hi (d:Deed):rJ d≠(0,0,0):=by
 unfold rJ;split
 ·intro h;injection h with _ h;injection h with _ h;cases h
 ·assumption
theorem jA {a:I3}:toV a=(0,0,0) ↔ a=(0,0,0):=by
 obtain ⟨x,y,z⟩:=a;unfold toV;simp only [Na];constructor
 ·rintro ⟨h1,h2,h3⟩;exact ⟨by exact_mod_cast h1,by exact_mod_cast h2,by exact_mod_cast h3⟩
 ·rintro ⟨rfl,rfl,rfl⟩;exact ⟨Z,Z,Z⟩
theorem CV (a b:I3):w6 (toV a) (toV b)=toV (j1 a b):=by
 unfold w6 toV j1;simp only [NN,Mi]
theorem CW {a b:I3}(h:a.1.natAbs<=2/\a.2.1.natAbs<=2/\a.2.2.natAbs<=2)(k:b.1.natAbs<=2/\b.2.1.natAbs<=2/\b.2.2.natAbs<=2):(j1 a b).1.natAbs<=8/\(j1 a b).2.1.natAbs<=8/\(j1 a b).2.2.natAbs<=8:=by
 have m:∀ x y:Int,x.natAbs<=2->y.natAbs<=2->(x*y).natAbs<=4:=fun x y hx hy=>by rw [Mo];exact NF hx hy
 have e:∀ x y:Int,x.natAbs<=4->y.natAbs<=4->(x-y).natAbs<=8:=fun x y hx hy=>by omega
 exact ⟨e _ _ (m _ _ h.2.1 k.2.2) (m _ _ h.2.2 k.2.1),e _ _ (m _ _ h.2.2 k.1) (m _ _ h.1 k.2.2),e _ _ (m _ _ h.1 k.2.1) (m _ _ h.2.1 k.1)⟩
theorem GG (n b:I3):zk n b=(0,0,0)∨zk n b=j1 n b∨zk n b=j1 n (1,0,0)∨zk n b=j1 n (0,1,0):=by
 unfold zk;split
 ·exact .inr (.inl Z)
 ·split
  ·exact .inr (.inr (.inl Z))
  ·split
   ·exact .inr (.inr (.inr Z))
   ·exact .inl Z
theorem uT (a b:I3):ce (toV (j1 a b)) (toV a)=0:=by
 rw [<- CV];unfold ce w6;grind
theorem lU {z w:Int}(hw:w=1∨w=2):∃ y:Int,iV z w*2=y/\y.natAbs<=2*z.natAbs:=by
 rcases hw with rfl | rfl
 ·exact ⟨z*2,by show mkRat z 1*2=_;rw [Mi,M0];show (z:Rat) / 1*2=z*2;grind,by omega⟩
 ·exact ⟨z,by show mkRat z 2*2=_;rw [M0];show (z:Rat) / 2*2=z;grind,by omega⟩
theorem jS {x:Rat}{y:Int}(h:x*2=y)(hy:y.natAbs<1000):QB 1 x:=by
 have e:x=mkRat y 2:=by
  rw [M0,<- h];show x=x*2 / 2;grind
 rw [e];exact f7 dc_ (by show _<1000000000;omega) dc_
theorem HS (n:Nat):0<=iV (n:Int) 2:=by
 show 0<=mkRat (n:Int) 2;rw [M0];have h:(0:Rat)<=((n:Int):Rat):=by exact_mod_cast Nr n
 show (0:Rat)<=((n:Int):Rat) / 2;grind
theorem eg (np:Nat)(d:Deed):∀ j,(d8 np d j).length=np
 | 0=>by simp [d8]
 | j+1=>by simp [d8,eg np d j]
theorem tm4 (x:Int):(x.tmod 4).natAbs<=3:=by
 have h:(x.tmod 4).natAbs=x.natAbs % 4:=M7 x 4;omega
theorem tm5 (x:Int):(x.tmod 5).natAbs<=4:=by
 have h:(x.tmod 5).natAbs=x.natAbs % 5:=M7 x 5;omega
theorem nl (np:Nat)(d:Deed):∀ j,∀ q∈d8 np d j,∃ y:Int,q*2=y/\y.natAbs<=10+6*j
 | 0=>fun q hq=>by
  unfold d8 at hq;obtain ⟨k,_,rfl⟩:=j5.1 hq;obtain ⟨y,e,hy⟩:=lU (z:=((dA d).getD (k % 3) 0).tmod 3) (w:=2) (.inr rfl);have h1:=tm4 d.n;have h2:=tm3 ((dA d).getD (k % 3) 0);refine ⟨d.n.tmod 4*2+y, ?_,by omega⟩;rw [Rat.add_mul,e,Ny,Mi];rfl
 | j+1=>fun q hq=>by
  unfold d8 at hq;obtain ⟨k,hk,rfl⟩:=List.mem_mapIdx.1 hq;obtain ⟨x,ex,hx⟩:=nl np d j _ (Mv hk);obtain ⟨y,e,hy⟩:=lU (z:=(((dK d).getD ((j+k) % 4) 0 % 4:Nat):Int)) (w:=2) (.inr rfl);have h2:(dK d).getD ((j+k) % 4) 0 % 4<4:=K9 _ dc_;refine ⟨x+y, ?_,by omega⟩;rw [Rat.add_mul,e,ex,Ny]
theorem HL (np:Nat)(d:Deed)(j k:Nat):(d8 np d j).getD k 0<=(d8 np d (j+1)).getD k 0:=by
 have h:=eg np d j;rw [aF,aF];show _<=((d8 np d j).mapIdx _)[k]?.getD 0;rw [NZ];cases (d8 np d j)[k]? with
 | none=>exact Rat.le_refl
 | some z =>
  have:=HS ((dK d).getD ((j+k) % 4) 0 % 4);show z<=z+_;grind
theorem wy:∀ i<3,(∀ j<3,cA (nmD i j)=true)/\cA [107,UInt8.ofNat (48+i)]=true:=by decide
theorem Hm {i j k:Nat}(hj:j<3)(hk:k<3)(h:nmD i j=nmD i k):j=k:=by
 unfold nmD at h;injection h with _ h;injection h with h _;have h2:=congrArg UInt8.toNat h;rw [Oa,Oa] at h2;omega
theorem Ex (k:Nat)(hk:k<6):quads.getD k (0,0,0,0)∈quads:=by
 rw [aF,aq (show k<quads.length from hk),NG];exact Mv _
theorem HY (np:Nat)(d:Deed)(i:Nat)(hi:i<3):EvO np (bJ np d i):=by
 have hn:=Bo d;have hkn:∀ k∈(bJ np d i).knots,KnR k:=by
  intro k hk;obtain ⟨j,hj,rfl⟩:=j5.1 hk;have hj3:j<1+d.k0 % 3:=Md.1 hj;have h3:=tm3 d.n;refine ⟨⟨_,Z,by omega⟩, ?_⟩;obtain ⟨y,e,hy⟩:=lU (z:=(((dK d).getD j 0 % 4:Nat):Int)-1) (w:=((1+d.k3 % 2:Nat):Int)) om_;have h4:(dK d).getD j 0 % 4<4:=K9 _ dc_;exact ⟨y,e,by omega⟩
 have hw:∃ y:Int,(bJ np d i).width*2=y/\y.natAbs<=8:=by
  obtain ⟨y,e,hy⟩:=lU (z:=((1+d.k0 % 4:Nat):Int)) (w:=2) (.inr rfl);exact ⟨y,e,by omega⟩
 have hsl:Wh3 8 (toV (zk (rJ d) (rm3 d.b0 d.b1 d.b2))):=by
  refine vM ?_;rcases GG (rJ d) (rm3 d.b0 d.b1 d.b2) with h | h | h | h <;> rw [h]
  ·decide
  ·exact CW hn (sy _ _ _)
  ·exact CW hn dc_
  ·exact CW hn dc_
 have hfq:∀ j ≤ 3,∀ q∈d8 np d j,QB 1 q:=fun j hj q hq=>by
  obtain ⟨y,e,hy⟩:=nl np d j q hq;exact jS e om_
 constructor
 ·constructor
  ·show 0<1+d.kd % 5;omega
  ·show 1+d.kd % 5<6;omega
  ·exact vM hn
  ·exact ⟨_,Z,tm5 d.n⟩
  ·exact hsl
  ·exact hkn
  ·intro j hj;have hl:(bJ np d i).knots.length=1+d.k0 % 3:=by simp [bJ]
   rw [hl] at hj;have at':∀ m,m<1+d.k0 % 3->((bJ np d i).knots.getD m (0,0)).1=((d.n.tmod 3+2*(m:Int):Int):Rat):=fun m hm=>by
    rw [aF];show (((List.range (1+d.k0 % 3)).map _)[m]?.getD (0,0)).1=_;rw [bX,MW hm];rfl
   rw [at' _ hj,at' _ om_,<- NN];show _=((2:Int):Rat);congr 1;omega
  ·simp [bJ];omega
  ·exact vM (sy _ _ _)
  ·exact Ex _ (K9 _ dc_)
 ·intro h;exact Hi d (jA.1 h)
 ·show ce (toV (zk (rJ d) (rm3 d.b0 d.b1 d.b2))) (toV (rJ d))=0;rcases GG (rJ d) (rm3 d.b0 d.b1 d.b2) with h | h | h | h <;> rw [h]
  ·unfold ce toV;show ((0:Int):Rat)*_+((0:Int):Rat)*_+((0:Int):Rat)*_=0;rw [show ((0:Int):Rat)=0 from rfl,Rat.zero_mul,Rat.zero_mul,Rat.zero_mul,MM,MM]
  ·exact uT _ _
  ·exact uT _ _
  ·exact uT _ _
 ·exact eg np d 0
 ·exact hfq 0 om_
 ·intro f hf;obtain ⟨j,hj,rfl⟩:=j5.1 hf;have hj3:j<d.k0 % 3:=Md.1 hj;exact ⟨eg np d _,hfq _ om_⟩
 ·have hall:∀ m f,((bJ np d i).base::(bJ np d i).surf)[m]?=some f->f=d8 np d m:=by
   intro m f hm;cases m with
   | zero=>simpa [bJ] using hm.symm
   | succ m =>
    rw [Nd] at hm;have hm':((List.range (d.k0 % 3)).map fun j=>d8 np d (j+1))[m]?=some f:=hm;rw [bX] at hm';obtain ⟨a,ha,rfl⟩:=MB.1 hm';obtain ⟨hlt,h2⟩:=aJ.1 ha;rw [Oe] at h2;rw [h2]
  intro m f g hf hg k;rw [hall m f hf,hall (m+1) g hg];exact HL np d m k
 ·simp [bJ]
 ·simp [bJ];omega
 ·intro s hs;obtain ⟨j,hj,rfl⟩:=j5.1 hs;have hj3:j<d.k0 % 3+1:=Md.1 hj;exact ⟨(wy i hi).1 j om_,by simp [nmD]⟩
 ·show ((List.range (d.k0 % 3+1)).map (nmD i)).Nodup;refine List.pairwise_iff_getElem.2 fun x y hx hy hxy hh=>?_;rw [aH,Oj] at hx hy;rw [List.getElem_map,List.getElem_map,Oe,Oe] at hh;have:=Hm om_ om_ hh;omega
 ·show 0<iV (1+d.k0 % 4:Nat) 2;show 0<mkRat ((1+d.k0 % 4:Nat):Int) 2;rw [M0];have h:(1:Rat)<=(((1+d.k0 % 4:Nat):Int):Rat):=by exact_mod_cast (by omega:(1:Int)<=((1+d.k0 % 4:Nat):Int))
  show (0:Rat)<(((1+d.k0 % 4:Nat):Int):Rat) / 2;grind
 ·obtain ⟨y,e,hy⟩:=hw;exact jS e om_
 ·intro k hk;have h:=hkn k hk;obtain ⟨z,ez,hz⟩:=h.a;obtain ⟨y,ey,hy⟩:=h.v;exact ⟨jS (y:=z*2) (by rw [ez,Mi];rfl) om_,jS ey om_⟩
 ·exact ⟨(wy i hi).2,by show 2<=32;decide⟩
 ·intro h;have:=congrArg List.length h;simp [bJ] at this
def Kd (i:Nat)(s:Str):Prop:=s[0]?=some (UInt8.ofNat (65+i))∨(s[0]?=some 107/\s[1]?=some (UInt8.ofNat (48+i)))
theorem F5 {np i:Nat}{d:Deed}:∀ s∈pW (bJ np d i),Kd i s:=by
 intro s hs;unfold pW at hs;split at hs
 ·obtain ⟨j,_,rfl⟩:=j5.1 hs;exact .inl Z
 ·split at hs
  ·rw [K5.1 hs];exact .inr ⟨rfl,rfl⟩
  ·cases hs
theorem ub:∀ i<3,∀ j<3,UInt8.ofNat (65+i)≠107/\(UInt8.ofNat (65+i)=UInt8.ofNat (65+j)->i=j)/\(UInt8.ofNat (48+i)=UInt8.ofNat (48+j)->i=j)/\UInt8.ofNat (65+i)≠98:=by decide
theorem I8 {i j:Nat}{s:Str}(hi:i<3)(hj:j<3)(h:Kd i s)(k:Kd j s):i=j:=by
 have g:=ub i hi j hj;have g2:=ub j hj i hi;rcases h with h | ⟨h,h'⟩ <;> rcases k with k | ⟨k,k'⟩
 ·rw [h] at k;exact g.2.1 (LJ k)
 ·rw [h] at k;exact absurd (LJ k) g.1
 ·rw [k] at h;exact absurd (LJ h) g2.1
 ·rw [h'] at k';exact g.2.2.1 (LJ k')
theorem Ej {i:Nat}(hi:i<3){s:Str}(h:Kd i s)(hs:s[0]?=some 98):False:=by
 have g:=ub i hi i hi;rcases h with h | ⟨h,_⟩
 ·rw [hs] at h;exact g.2.2.2 (LJ h).symm
 ·rw [hs] at h;exact absurd (LJ h) dc_

theorem w8:∀ {fs:List (List Rat)},(∀ i f g,fs[i]?=some f->fs[i+1]?=some g->∀ k:Nat,f.getD k 0<=g.getD k 0)->fs.Pairwise fun f g=>∀ k:Nat,f.getD k 0<=g.getD k 0
 | [],_=>.nil
 | [a],_=>List.pairwise_singleton _ _
 | a::b::l,h=>by
  have ih:=w8 (fs:=b::l) fun i f g hf hg=>h (i+1) f g hf hg;have hab:=h 0 a b rfl rfl;refine .cons (fun c hc=>?_) ih;rcases cI.1 hc with rfl | hc
  ·exact hab
  ·exact fun k=>Rat.le_trans (hab k) ((Ls.1 ih).1 c hc k)
theorem nL {pts:List Pt}{tris:List Tri}(hM:MeshOk pts tris){t:Tri}(ht:t∈tris):0<eE (cn pts t 0) (cn pts t 1) (cn pts t 2):=hM.pos t ht
theorem H3 {pts:List Pt}{tris:List Tri}(hM:MeshOk pts tris){t:Tri}(ht:t∈tris){np:Nat}{e:Evt}(hE:EvO np e){p:Pt}(z:Rat)(hin:iA pts p t=true) :
  (e.surf.filter fun f=>decide (nh pts t f p<=z)).length=Bc (fun f=>decide (nh pts t f p<=z)) e.surf:=by
 refine (Bb ?_).symm;refine (Ls.1 (w8 hE.so)).2.imp fun {f g} h h2=>?_;exact j9 (Rat.le_trans (JD hin (nL hM ht) fun j=>h _) (bi h2))
theorem kY {pts:List Pt}{tris:List Tri}(hM:MeshOk pts tris){t:Tri}(ht:t∈tris)(i:Nat):QP 1 (cn pts t i)/\pts[fU t i]?=some (cn pts t i)/\fU t i<pts.length:=by
 have h:fU t i<pts.length:=by
  obtain ⟨h1,h2,h3⟩:=hM.ins t ht;unfold fU;split
  ·exact h1
  ·split
   ·exact h2
   ·exact h3
 exact ⟨hM.q _ (we h),AZ h,h⟩
theorem QP.le' {k m:Nat}{p:Pt}(h:QP k p)(hk:k<=m):QP m p:=⟨h.1.le hk,h.2.le hk⟩
theorem tJ {pts:List Pt}{tris:List Tri}(hM:MeshOk pts tris){t:Tri}(ht:t∈tris){p:Pt}(hp:QP 2 p)(i:Nat):QB 21 (arW pts t p i):=by
 unfold arW;exact (ve (k:=2) ((kY hM ht _).1.le' dc_) ((kY hM ht _).1.le' dc_) hp).le dc_
theorem Id {pts:List Pt}{tris:List Tri}(hM:MeshOk pts tris){t:Tri}(ht:t∈tris):QB 21 (eE (cn pts t 0) (cn pts t 1) (cn pts t 2)) :=
 (ve (k:=1) (kY hM ht _).1 (kY hM ht _).1 (kY hM ht _).1).le dc_
theorem kO {f:List Rat}{k:Nat}(hk:0<k)(h:∀ q∈f,QB k q)(i:Nat):QB k (f.getD i 0):=by
 rw [aF];cases hi:f[i]? with
 | none=>exact QB_zero.le hk
 | some q=>exact h q (ba hi)
theorem HC {pts:List Pt}{tris:List Tri}(hM:MeshOk pts tris){t:Tri}(ht:t∈tris){p:Pt}(hp:QP 2 p){f:List Rat}(hf:∀ q∈f,QB 1 q):QB 68 (DZ pts t f p):=by
 have g:=fun i=>dz (tJ hM ht hp i) (kO dc_ hf (fU t i));unfold DZ;exact (fA (fA (g 0) (g 1)) (g 2)).le dc_
theorem HB {pts:List Pt}{tris:List Tri}(hM:MeshOk pts tris){t:Tri}(ht:t∈tris){p:Pt}(hp:QP 2 p){f:List Rat}(hf:∀ q∈f,QB 1 q):QB 136 (nh pts t f p) :=
 xA (HC hM ht hp hf) ((Id hM ht).le dc_) (by have:=nL hM ht;grind)
theorem Ct {pts:List Pt}{tris:List Tri}{p:Pt}{i:Nat}{t:Tri}(ht:tris[i]?=some t)(hb:∀ u∈tris.take i,iA pts p u=false)(hin:iA pts p t=true):tris.find? (iA pts p)=some t:=by
 obtain ⟨hi,hti⟩:=aJ.1 ht;have e:tris=tris.take i++t::tris.drop (i+1):=by rw [<- hti,<- K2 hi,LQ]
 rw [e,List.find?_append,List.find?_eq_none.2 (by intro x hx;rw [hb x hx];decide),List.find?_cons,hin];rfl
theorem Cr {pts:List Pt}{tris:List Tri}{p:Pt}(hb:∀ u∈tris,iA pts p u=false):tris.find? (iA pts p)=none :=
 List.find?_eq_none.2 (by intro x hx;rw [hb x hx];decide)
theorem zZ {pts:List Pt}{tris:List Tri}{p:Pt}{i:Nat}{t:Tri}(ht:tris[i]?=some t)(hb:∀ u∈tris.take i,iA pts p u=false)(hin:iA pts p t=false):∀ u∈tris.take (i+1),iA pts p u=false:=by
 intro u hu;rw [xO,ht] at hu;rcases Lh.1 hu with h | h
 ·exact hb u h
 ·have e:u=t:=by simpa using h
  rw [e];exact hin

def FldsIn (C:Mem)(v:Value)(fs:List (List Rat)):Prop:=∃ vs:List Value,Sl C 1 v (vs.map fun w=>[w])/\vs.length=fs.length/\∀ (i:Nat)(w:Value)(f:List Rat),vs[i]?=some w->fs[i]?=some f->Sl C 1 w (f.map gK)
theorem FldsIn.mono {C D:Mem}{v:Value}{fs:List (List Rat)}(h:FldsIn C v fs)(hl:C.le D):FldsIn D v fs:=by
 obtain ⟨vs,h1,h2,h3⟩:=h;exact ⟨vs,h1.mono hl,h2,fun i w f a b=>(h3 i w f a b).mono hl⟩
theorem FldsIn.m_ {C D:Mem}{v:Value}{fs:List (List Rat)}(h:FldsIn C v fs)(hl:C.le D:=by exact mup):FldsIn D v fs:=FldsIn.mono h hl
def Ev1 (C:Mem)(e:Evt)(nm:Str)(cs:List Value):Prop:=∃ A1 c1 A2 c2 A3 c3,cs=evC 1 nm [.slice A1 e.base.length c1,.slice A2 e.units.length c2,.slice A3 e.surf.length c3] cS dy cT cR /\
 Sl C 1 (.slice A1 e.base.length c1) (e.base.map gK)/\Sl C 1 (.slice A2 e.units.length c2) (e.units.map bN)/\FldsIn C (.slice A3 e.surf.length c3) e.surf
def Ev3 (C:Mem)(e:Evt)(nm:Str)(cs:List Value):Prop:=∃ A c,cs=evC 3 nm cF cS (Fb e (.slice A e.knots.length c)) cT cR/\Sl C 2 (.slice A e.knots.length c) (e.knots.map rK)
def EvM (C:Mem)(e:Evt)(cs:List Value):Prop:=∃ nm,cA nm=true/\((e.kd=1/\Ev1 C e nm cs)∨(e.kd=2/\cs=evC 2 nm cF (JG e) dy cT cR)∨(e.kd=3/\Ev3 C e nm cs) ∨
 (e.kd=4/\cs=evC 4 nm cF cS dy (JM e) cR)∨(e.kd=5/\cs=evC 5 nm cF cS dy cT (I4 e)))
theorem EvM.mono {C D:Mem}{e:Evt}{cs:List Value}(h:EvM C e cs)(hl:C.le D):EvM D e cs:=by
 obtain ⟨nm,hn,h⟩:=h;refine ⟨nm,hn, ?_⟩;rcases h with ⟨k,A1,c1,A2,c2,A3,c3,h,a,b,c⟩ | h | ⟨k,A,c,h,a⟩ | h | h
 ·exact .inl ⟨k,A1,c1,A2,c2,A3,c3,h,a.mono hl,b.mono hl,c.mono hl⟩
 ·exact .inr (.inl h)
 ·exact .inr (.inr (.inl ⟨k,A,c,h,a.mono hl⟩))
 ·exact .inr (.inr (.inr (.inl h)))
 ·exact .inr (.inr (.inr (.inr h)))
theorem EvM.m_ {C D:Mem}{e:Evt}{cs:List Value}(h:EvM C e cs)(hl:C.le D:=by exact mup):EvM D e cs:=EvM.mono h hl
structure EvG (C:Mem)(e:Evt)(A1 A2 A3 A4:Option Addr)(n1 n2 n3 n4 c1 c2 c3 c4:Nat)(x:Nat->Str)(q:Nat->Int):Prop where
 k:1<=e.kd/\e.kd<=5
 h1:e.kd=1->n1=e.base.length/\n2=e.units.length/\n3=e.surf.length/\Sl C 1 (.slice A1 n1 c1) (e.base.map gK)/\Sl C 1 (.slice A2 n2 c2) (e.units.map bN)/\FldsIn C (.slice A3 n3 c3) e.surf
 h2:e.kd=2->x=xF e
 h3:e.kd=3->x=xK e/\n4=e.knots.length/\Sl C 2 (.slice A4 n4 c4) (e.knots.map rK)
 h4:e.kd=4->x=xD e
 h5:e.kd=5->x=xT e/\q=qT e
theorem EvM.gen {C:Mem}{e:Evt}{cs:List Value}(h:EvM C e cs):∃ nm A1 A2 A3 A4 n1 n2 n3 n4 c1 c2 c3 c4 x q,cs=evX e.kd nm (.slice A1 n1 c1) (.slice A2 n2 c2) (.slice A3 n3 c3) (.slice A4 n4 c4) x q/\EvG C e A1 A2 A3 A4 n1 n2 n3 n4 c1 c2 c3 c4 x q:=by
 obtain ⟨nm,hn,h⟩:=h;have no:∀ {a b:Nat}{p:Prop},e.kd=a->e.kd=b->a≠b->p:=fun h1 h2 h3=>absurd (h1.symm.trans h2) h3;rcases h with ⟨k,A1,c1,A2,c2,A3,c3,h,a,b,c⟩ | ⟨k,h⟩ | ⟨k,A,c,h,a⟩ | ⟨k,h⟩ | ⟨k,h⟩ <;> rw [h,k]
 ·exact ⟨nm,A1,A2,A3,none,_,_,_,0,c1,c2,c3,0,fun _=>[],fun _=>0,Z,by omega,fun _=>⟨Z,Z,Z,a,b,c⟩,fun g=>no k g dc_,fun g=>no k g dc_,fun g=>no k g dc_,fun g=>no k g dc_⟩
 ·exact ⟨nm,none,none,none,none,0,0,0,0,0,0,0,0,xF e,fun _=>0,Z,by omega,fun g=>no k g dc_,fun _=>rfl,fun g=>no k g dc_,fun g=>no k g dc_,fun g=>no k g dc_⟩
 ·exact ⟨nm,none,none,none,A,0,0,0,_,0,0,0,c,xK e,fun _=>0,Z,by omega,fun g=>no k g dc_,fun g=>no k g dc_,fun _=>⟨Z,Z,a⟩,fun g=>no k g dc_,fun g=>no k g dc_⟩
 ·exact ⟨nm,none,none,none,none,0,0,0,0,0,0,0,0,xD e,fun _=>0,Z,by omega,fun g=>no k g dc_,fun g=>no k g dc_,fun g=>no k g dc_,fun _=>rfl,fun g=>no k g dc_⟩
 ·exact ⟨nm,none,none,none,none,0,0,0,0,0,0,0,0,xT e,qT e,Z,by omega,fun g=>no k g dc_,fun g=>no k g dc_,fun g=>no k g dc_,fun g=>no k g dc_,fun _=>⟨Z,Z⟩⟩
end Go.Proofs.YtgfiffppookakaaGreatDoor
