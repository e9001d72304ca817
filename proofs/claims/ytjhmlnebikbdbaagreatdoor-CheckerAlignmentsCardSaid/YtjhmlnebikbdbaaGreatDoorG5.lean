/- Laws that the proofs of this seat share, part 5. -/
import Derived.Test.YtjhmlnebikbdbaaGreatDoorG4
import Derived.Test.YtjhmlnebikbdbaaGreatDoorShelf
import Derived.Lib.ItoaMem
import Derived.Shelf.Strconv.ParseUint10At
import Derived.Shelf.Strconv.Atoi
import Derived.Shelf.Small.Strs
import Derived.Lib.UnsafeStr
import Derived.Lib.AppendStr
import Derived.Shelf.Strconv.Itoa1
import Derived.Shelf.Strconv.Itoa2
import Derived.Laws.Externs
import Derived.Lib.Builder
import Derived.WideLaws
set_option maxHeartbeats 4000000
namespace Go.Proofs.YtjhmlnebikbdbaaGreatDoor
open Go Go.Jog
set_option maxRecDepth 100000

def optM (rows:List (List Str × Str))(obj pt d:List Str):Bool :=
 match aL obj,aL pt,openM (obj.length:Int) rows d with
 | some c,some x,some (ps,ms)=>decide (x.length=c.length) && ps.all (fun p=>decide (sgn (dotR p.1 x-p.2)<=0)) && ((List.range c.length).all fun v=>sgn (dotR ms (colR ps v)+gQ c v) == 0) && sgn (dotR ms (ps.map (·.2))+dotR c x) == 0
 | _,_,_=>false
theorem rowsM_ok {n:Int}:∀ {l:List (List Str × Str)}{ps:List (List Rat × Rat)},rowsM n l=some ps->ps.length=l.length/\∀ p∈ps,(p.1.length:Int)=n/\(∀ q∈p.1,SmQ 200 q)/\SmQ 200 p.2
 | [],ps,h=>by simp only [rowsM,Option.some.injEq] at h;subst h;exact ⟨rfl,by simp⟩
 | a::l,ps,h=>by
  simp only [rowsM] at h
  cases ha:rowM n a with
  | none=>rw [ha] at h;cases h
  | some q =>
   cases hl:rowsM n l with
   | none=>rw [ha,hl] at h;cases h
   | some qs =>
    rw [ha,hl] at h
    simp only [Option.some.injEq] at h
    subst h
    obtain ⟨h1,h2⟩:=rowsM_ok hl
    refine ⟨by simp [h1],fun p hp=>?_⟩
    rcases List.mem_cons.1 hp with rfl | hp
    ·unfold rowM at ha
     cases hr:aL a.1 with
     | none=>rw [hr] at ha;cases ha
     | some f =>
      cases hb:aK a.2 with
      | none=>rw [hr,hb] at ha;cases ha
      | some b =>
       rw [hr,hb] at ha
       simp only at ha
       split at ha
       ·cases ha
        rename_i hn
        exact ⟨hn,dU hr,readM_sm hb⟩
       ·cases ha
    ·exact h2 p hp
theorem openM_ok {n:Int}{rows:List (List Str × Str)}{d:List Str}{ps:List (List Rat × Rat)}{ms:List Rat}(h:openM n rows d=some (ps,ms)):ps.length=rows.length/\ms.length=rows.length/\SysSm 200 ps ms/\∀ p∈ps,(p.1.length:Int)=n:=by
 unfold openM at h
 cases hr:rowsM n rows with
 | none=>rw [hr] at h;cases h
 | some qs =>
  cases hd:aL d with
  | none=>rw [hr,hd] at h;cases h
  | some ns =>
   rw [hr,hd] at h
   simp only at h
   split at h
   ·cases h
    rename_i hc
    obtain ⟨h1,h2⟩:=rowsM_ok hr
    exact ⟨h1,hc.1,⟨fun p hp=>(h2 p hp).2,dU hd⟩,fun p hp=>(h2 p hp).1⟩
   ·cases h
theorem optimal_fn (C:Mem)(hT:Tabs C)(v vo vp:Value)(Ad:Option Addr)(nd cd:Nat)(rows:List (List Str × Str))(obj pt d:List Str)(hv:RowsIn C v rows)(ho:Sl C 1 vo (obj.map encS))(hp:Sl C 1 vp (pt.map encS))(hd:Sl C 1 (.slice Ad nd cd) (d.map encS))(hl:rows.length<=1000)(hf:∀ r∈rows,r.1.length<=1000000/\(∀ s∈r.1,s.length<1000000)/\r.2.length<1000000)(hol:obj.length<=1000)(hos:∀ s∈obj,s.length<1000000)(hpl:pt.length<=1000000)(hps:∀ s∈pt,s.length<1000000)(hdl:d.length<=1000000)(hds:∀ s∈d,s.length<1000000) :
  Gives cx.P 14 [v,vo,vp,.agg ⟨[.slice Ad nd cd]⟩] C (.bool (optM rows obj pt d)):=by
 obtain ⟨Ao,co,rfl,hox,hox2,_⟩:=id ho
 have hmx:maxLen<=9223372036854775807:=by simp [maxLen]
 simp only [List.length_map] at ho hox hox2 ⊢
 refine Fn.it kr_ Tryz.func14 105 fun w0=>?_
 refine G.rg fun R hR=>?_
 refine D.aM (fun b7=>?_)
 refine D.q4 1 0 1 2 7 hR ?_;clear hR R
 refine G.rp 1 fun R hR=>?_
 refine D.ap (dm _ _ obj (ho.mono mup) om_ hos) rfl rfl rfl rfl rfl rfl rfl fl_ (fun v22 C22 hle22 hq22=>?_)
 obtain ⟨Ac,nc,cc,rfl,hc⟩:=hq22
 refine D.q6 5 0 1 2 7 9 10 hR ?_;clear hR R
 refine G.rp 1 fun R hR=>?_
 refine D.aJ (dm _ _ pt (hp.mono mup) hpl hps) (fun v27 C27 hle27 hq27=>?_)
 obtain ⟨Ax,nx,cx2,rfl,hx⟩:=hq27
 refine D.q7 5 0 1 7 9 10 11 12 hR ?_;clear hR R
 refine G.rp 3 fun R hR=>?_
 refine D.ag (.head _) ?_
 refine D.ap (copen_fn _ _ (obj.length:Int) Ad nd cd rows d (hv.mono mup) (hd.mono mup) om_ hf hdl hds) rfl rfl rfl rfl rfl rfl rfl fl_ (fun v35 C35 hle35 hq35=>?_)
 obtain ⟨y,rfl,hy⟩:=hq35
 refine D.ps 3 ?_
 refine D.aj (fun b13=>?_)
 refine D.ac (j:=0) ?_
 refine D.q6 1 9 10 11 12 13 14 hR ?_;clear hR R
 refine G.rp 5 fun R hR=>?_
 refine D.ar ?_
 refine D.ps 3 ?_
 refine D.ar ?_
 refine D.ps 6 ?_
 refine D.ar ?_
 refine D.e4 9 11 13 54 hR ?_;clear hR R
 refine G.cd (fun h54=>?_) fun h54=>?_
 ·have hno:optM rows obj pt d=false:=by
   unfold optM
   cases h1:aL obj with
   | none=>rfl
   | some cs =>
    cases h2:aL pt with
    | none=>rfl
    | some zs =>
     cases h3:openM (obj.length:Int) rows d with
     | none=>rfl
     | some pm =>
      obtain ⟨ps,ms⟩:=pm
      obtain ⟨_,_,e⟩:=(hc cs h1).form
      injection e with e1 e2 e3
      obtain ⟨_,_,e'⟩:=(hx zs h2).form
      injection e' with e1' e2' e3'
      rw [h1,h2,h3,e2,e2'] at h54
      have h4:¬ zs.length=cs.length:=by simpa [Int.ofNat_inj] using h54
      simp [h4]
  refine G.z1 1 8 ?_
  refine G.rf ?_
  exact ⟨by rw [hno],rfl⟩
 ·obtain ⟨cs,zs,ps,ms,h1,h2,h3,h4⟩:∃ cs zs ps ms,aL obj=some cs/\aL pt=some zs/\openM (obj.length:Int) rows d=some (ps,ms)/\(nx:Int)=nc:=by
   cases h1:aL obj with
   | none=>rw [h1] at h54;simp at h54
   | some cs =>
    cases h2:aL pt with
    | none=>rw [h1,h2] at h54;simp at h54
    | some zs =>
     cases h3:openM (obj.length:Int) rows d with
     | none=>rw [h1,h2,h3] at h54;simp at h54
     | some pm =>
      obtain ⟨ps,ms⟩:=pm
      refine ⟨cs,zs,ps,ms,rfl,rfl,rfl, ?_⟩
      rw [h1,h2,h3] at h54
      simpa using h54
  have hcL:=hc cs h1
  have hxL:=hx zs h2
  obtain ⟨⟨vs,hsv,hvs⟩,hb,hm⟩:=hy ps ms h3
  have hsys:=hy ps ms h3
  obtain ⟨_,_,e⟩:=hcL.form
  injection e with e1 e2 e3
  obtain ⟨_,_,e'⟩:=hxL.form
  injection e' with e1' e2' e3'
  subst e2 e2'
  have hcl:=readsM_len h1
  obtain ⟨hpsl,hmsl,hsm,hpn⟩:=openM_ok h3
  have hvl:vs.length=ps.length:=by have:=hvs.1;simpa using this
  obtain ⟨Av,cv,hve,_⟩:=id hsv
  have hyn:y.n=vs.length:=by injection hve with e1 e2 e3;simpa using e2
  have hzsm:=dU h2
  have hcsm:=dU h1
  have hzc:zs.length=cs.length:=by omega
  obtain ⟨bs,hbs,hbr⟩:=hb
  have hopt:optM rows obj pt d=(decide (zs.length=cs.length) && ps.all (fun p=>decide (sgn (dotR p.1 zs-p.2)<=0)) && ((List.range cs.length).all fun v=>sgn (dotR ms (colR ps v)+gQ cs v) == 0) && sgn (dotR ms (ps.map (·.2))+dotR cs zs) == 0):=by
   unfold optM;rw [h1,h2,h3]
  refine G.rp 1 fun R hR=>?_
  refine D.ag (.head _) ?_
  refine D.q6 2 9 11 13 56 57 58 hR ?_;clear hR R
  refine G.loop (fun fr C' L' μ=>∃ (i:Nat),(i<=ps.length/\∀ p∈ps.take i,sgn (dotR p.1 zs-p.2)<=0)/\fr=[(9,[],.slice Ac cs.length cc),(11,[],.slice Ax zs.length cx2),(13,[],.pointer (some ⟨b13,0,none⟩)),(56,[],.slice y.A y.n y.c),(57,[],.int .i64 y.n),(58,[],.int .i64 i)]/\L'=[.obj b13 (.cells ⟨y.enc⟩ 122 (0,0)),.obj b7 (.cells ⟨[.slice Ad nd cd]⟩ 60 (0,0))]/\μ=ps.length-i) (h_6 9 11 13 56 57 58) ⟨0,⟨Nat.zero_le _,by simp⟩,rfl,rfl,rfl⟩ (fun fr C0' L0' m hle0 hI=>?_)
  obtain ⟨i,⟨hi,hall⟩,rfl,rfl,rfl⟩:=hI
  refine G.z7 1 9 11 13 56 57 58 59 ?_
  refine G.cd (fun h59=>?_) fun h59=>?_
  ·have hil:i<ps.length:=by
    have:(i:Int)<y.n:=by simpa using h59
    omega
   obtain ⟨p,hp0⟩:∃ p,ps[i]?=some p:=⟨ps[i],List.getElem?_eq_getElem hil⟩
   have hpm:=List.mem_of_getElem? hp0
   obtain ⟨sv,hsv0⟩:∃ sv,vs[i]?=some sv:=⟨vs[i]'om_,List.getElem?_eq_getElem _⟩
   have hrow:(vs.map SV.enc)[i]?=some sv.enc:=by rw [List.getElem?_map,hsv0];rfl
   have hfL:=hvs.2 i sv p.1 hsv0 (by rw [List.getElem?_map,hp0];rfl)
   obtain ⟨bx,hb0,hbrow,hbF⟩:=hbr.get (i:=i) (q:=p.2) (by rw [List.getElem?_map,hp0];rfl)
   have hpl:p.1.length=obj.length:=by have:=hpn p hpm;omega
   have hds1:SmQ 401001 (dotR p.1 zs):=(dotN_sm (hsm.1 p hpm).1 hzsm om_ _ (Nat.le_refl _)).le om_
   refine G.rp 1 fun R hR=>?_
   refine D.ai (hsv.mono mup) rfl rfl rfl rfl rfl rfl rfl rfl rfl rfl om_ hrow fl_ (fun p61 hp61=>?_)
   refine D.aa hp61 ?_
   refine D.q8 2 9 11 13 15 16 56 57 58 hR ?_;clear hR R
   refine G.aI [0,1,3,4,5,6,7,2,8,9] [] rfl kr_ (fun R hB hR=>?_)
   refine D.ps 3 ?_
   refine D.ag (.head _) ?_
   refine D.ae ?_
   refine D.ai (hbs.mono mup) rfl rfl rfl rfl rfl rfl rfl rfl rfl rfl om_ hbrow fl_ (fun p69 hp69=>?_)
   refine D.aa hp69 ?_
   refine D.ap (sum_fn _ (hT.mono mup) _ _ p.1 zs 200 200 (hfL.mono mup) (hxL.mono mup) om_ (hsm.1 p hpm).1 hzsm om_) rfl rfl rfl rfl rfl rfl rfl fl_ (fun v65 C65 hle65 hq65=>?_)
   refine D.ap (fcmp_fn (hq65.mono mup) (hbF.mono mup) hds1 (hsm.1 p hpm).2 om_) rfl rfl rfl rfl rfl rfl rfl fl_ (fun v71 C71 hle71 hq71=>?_)
   obtain rfl:=hq71
   refine D.ae ?_
   refine D.e7 9 11 13 56 57 58 72 hR ?_;clear hR hB R
   refine G.cd (fun h72=>?_) fun h72=>?_
   ·have hno:optM rows obj pt d=false:=by
     have h5:0<sgn (dotR p.1 zs-p.2):=by simpa using h72
     have h6:(ps.all fun p=>decide (sgn (dotR p.1 zs-p.2)<=0))=false:=by
      rw [List.all_eq_false]
      refine ⟨p,hpm, ?_⟩
      simp;omega
     rw [hopt,h6];simp
    refine G.z1 1 8 ?_
    refine G.rf ?_
    exact ⟨by rw [hno],rfl⟩
   ·have h5:sgn (dotR p.1 zs-p.2)<=0:=by
     have:¬ 0<sgn (dotR p.1 zs-p.2):=by simpa using h72
     omega
    refine G.rg fun R hR=>?_
    refine D.ax _ ?_
    refine D.q6 1 9 11 13 56 57 58 hR ?_;clear hR R
    refine G.aB (m':=ps.length-(i+1)) om_ mup (h_6 9 11 13 56 57 58) ⟨i+1,⟨by omega,fun x hx=>by
     rw [List.take_add_one,hp0] at hx
     rcases List.mem_append.1 hx with h6 | h6
     ·exact hall x h6
     ·simp at h6;subst h6;exact h5⟩,rfl,rfl,rfl⟩
  ·have hil:ps.length<=i:=by
    have:¬ (i:Int)<y.n:=by simpa using h59
    omega
   rw [List.take_of_length_le hil] at hall
   have hA:(ps.all fun p=>decide (sgn (dotR p.1 zs-p.2)<=0))=true:=by
    rw [List.all_eq_true];exact fun p hp=>by simpa using hall p hp
   refine G.rg fun R hR=>?_
   refine D.ag (.head _) ?_
   refine D.ps 2 ?_
   refine D.ap (sums_fn _ (hT.mono mup) y ps ms cs.length (by obtain ⟨⟨vs',a1,a2⟩,a3,a4⟩:=hsys;exact ⟨⟨vs',a1.mono mup,a2.mono mup⟩,a3.mono mup,a4.mono mup⟩) om_ (fun p hp=>by have:=hpn p hp;omega) hsm om_ om_) rfl rfl rfl rfl rfl rfl rfl fl_ (fun v78 C78 hle78 hq78=>?_)
   obtain ⟨As,c8,x8,rfl,⟨ws,hws,hwr⟩,hworth⟩:=hq78
   refine D.ps 3 ?_
   refine D.aj (fun b18=>?_)
   refine D.ae ?_
   refine D.ac (j:=0) ?_
   refine D.e4 9 11 17 18 hR ?_;clear hR R
   refine G.z6 3 9 11 17 18 82 83 ?_
   refine G.loop (fun fr C' L' μ=>∃ (i:Nat),(i<=cs.length/\∀ v,v<i->sgn (dotR ms (colR ps v)+gQ cs v)=0)/\fr=[(9,[],.slice Ac cs.length cc),(11,[],.slice Ax zs.length cx2),(17,[],.slice As cs.length c8),(18,[],.pointer (some ⟨b18,0,none⟩)),(82,[],.int .i64 cs.length),(83,[],.int .i64 i)]/\L'=[.obj b18 (.cells ⟨x8.enc⟩ 95 (0,0)),.obj b13 (.cells ⟨y.enc⟩ 122 (0,0)),.obj b7 (.cells ⟨[.slice Ad nd cd]⟩ 60 (0,0))]/\μ=cs.length-i) (h_6 9 11 17 18 82 83) ⟨0,⟨Nat.zero_le _,fun v hv=>by omega⟩,rfl,rfl,rfl⟩ (fun fr C1' L1' m hle1 hI=>?_)
   obtain ⟨i,⟨hj,hcol⟩,rfl,rfl,rfl⟩:=hI
   refine G.z7 1 9 11 17 18 82 83 84 ?_
   refine G.cd (fun h84=>?_) fun h84=>?_
   ·have hjl:i<cs.length:=by simpa using h84
    have hsl:(sumsR ps ms cs.length).length=cs.length:=by simp [sumsR]
    obtain ⟨w1,hw0,hwrow,hwF⟩:=hwr.get (gQ_get (l:=sumsR ps ms cs.length) (i:=i) om_)
    rw [sumsR_get hjl] at hwF
    obtain ⟨ds,hdsS,hdr⟩:=hcL
    obtain ⟨w2,hw20,hw2row,hw2F⟩:=hdr.get (gQ_get hjl)
    have hcolS:∀ q∈colR ps i,SmQ 200 q:=fun q hq=>by
     unfold colR at hq
     obtain ⟨p,hp,rfl⟩:=List.mem_map.1 hq
     exact (hsm.1 p hp).1 _ (gQ_mem (by have:=hpn p hp;omega))
    have hds2:SmQ 401001 (dotR ms (colR ps i)):=(dotN_sm hsm.2 hcolS (by unfold colR;rw [List.length_map];omega) _ (Nat.le_refl _)).le om_
    refine G.z7 2 9 11 17 18 19 82 83 ?_
    refine G.aI [0,1,2,3,4,5,6,7,8,9,10] [(9,1)] rfl kr_ (fun R hB hR=>?_)
    refine D.ps 2 ?_
    refine D.ai (hws.mono mup) rfl rfl rfl rfl rfl rfl rfl rfl rfl rfl om_ hwrow fl_ (fun p88 hp88=>?_)
    refine D.aa hp88 ?_
    refine D.ps 2 ?_
    refine D.ai (hdsS.mono mup) rfl rfl rfl rfl rfl rfl rfl rfl rfl rfl om_ hw2row fl_ (fun p92 hp92=>?_)
    refine D.aa hp92 ?_
    refine D.ap (fadd_fn (hwF.mono mup) (hw2F.mono mup) hds2 (hcsm _ (gQ_mem hjl)) om_) rfl rfl rfl rfl rfl rfl rfl fl_ (fun v94 C94 hle94 hq94=>?_)
    refine D.aP (fun _=>(sign_fn hq94)) ?_
    refine D.ae ?_
    refine D.e7 9 11 17 18 82 83 96 hR ?_;clear hR hB R
    refine G.cd (fun h96=>?_) fun h96=>?_
    ·have hno:optM rows obj pt d=false:=by
      have h5:¬ sgn (dotR ms (colR ps i)+gQ cs i)=0:=by simpa using h96
      have h6:((List.range cs.length).all fun v=>sgn (dotR ms (colR ps v)+gQ cs v) == 0)=false:=by
       rw [List.all_eq_false]
       exact ⟨i,List.mem_range.2 hjl,by simpa using h5⟩
      rw [hopt,h6];simp
     refine G.z1 1 8 ?_
     refine G.rf ?_
     exact ⟨by rw [hno],rfl⟩
    ·have h5:sgn (dotR ms (colR ps i)+gQ cs i)=0:=by simpa using h96
     refine G.rg fun R hR=>?_
     refine D.ax _ ?_
     refine D.q6 1 9 11 17 18 82 83 hR ?_;clear hR R
     refine G.aB (m':=cs.length-(i+1)) om_ mup (h_6 9 11 17 18 82 83) ⟨i+1,⟨by omega,fun v hv=>by
      by_cases hvi:v=i
      ·rw [hvi];exact h5
      ·exact hcol v om_⟩,rfl,rfl,rfl⟩
   ·have hjl:i=cs.length:=by
     have:¬ i<cs.length:=by simpa using h84
     omega
    have hB:((List.range cs.length).all fun v=>sgn (dotR ms (colR ps v)+gQ cs v) == 0)=true:=by
     rw [List.all_eq_true]
     intro v hv
     have:=hcol v (by rw [hjl];exact List.mem_range.1 hv)
     simpa using this
    have hbss:∀ q∈ps.map (·.2),SmQ 200 q:=fun q hq=>by obtain ⟨p,hp,rfl⟩:=List.mem_map.1 hq;exact (hsm.1 p hp).2
    have hds3:SmQ 401001 (dotR ms (ps.map (·.2))):=(dotN_sm hsm.2 hbss (by rw [List.length_map];omega) _ (Nat.le_refl _)).le om_
    have hds4:SmQ 401001 (dotR cs zs):=(dotN_sm hcsm hzsm om_ _ (Nat.le_refl _)).le om_
    refine G.aI [0,1,2,3,4,5,6,7] [(5,1)] rfl kr_ (fun R hB hR=>?_)
    refine D.ag (.head _) ?_
    refine D.ps 2 ?_
    refine D.ap (sum_fn _ (hT.mono mup) _ _ cs zs 200 200 (hcL.mono mup) (hxL.mono mup) om_ hcsm hzsm om_) rfl rfl rfl rfl rfl rfl rfl fl_ (fun v101 C101 hle101 hq101=>?_)
    refine D.ap (fadd_fn (hworth.mono mup) (hq101.mono mup) hds3 hds4 om_) rfl rfl rfl rfl rfl rfl rfl fl_ (fun v102 C102 hle102 hq102=>?_)
    refine D.aP (fun _=>(sign_fn hq102)) ?_
    refine D.ps 2 ?_
    refine D.e1 8 hR ?_;clear hR hB R
    refine G.rf ?_
    refine ⟨?_,rfl⟩
    rw [hopt,hA,hB]
    simp [hzc]

theorem mul_gives (x y:Nat)(hx:x<18446744073709551616)(hy:y<18446744073709551616)(C:Mem):Gives cx.P 138 [.int .u64 x,.int .u64 y] C (.tuple #[.int .u64 ((x*y / 18446744073709551616:Nat):Int),.int .u64 ((x*y % 18446744073709551616:Nat):Int)]) :=
 Gives.ofCalls kr_ (fun w=>Any.bits_Mul Tryz.mul x y hx hy w) C

theorem replicate_storeInto {a:Value}{n k m:Nat}{tl:List Value}(_hn:k+m<=n)(hk:m<=k)(_htl:tl.length=n-k) :
  aw (List.replicate k a++tl) ((List.replicate k a++tl).take m) k=List.replicate (k+m) a++tl.drop m:=by
 have h1:(List.replicate k a++tl).take m=List.replicate m a:=by
  rw [List.take_append_of_le_length (by simpa using hk),List.take_replicate,Nat.min_eq_left hk]
 have h2:(List.replicate k a++tl).take k=List.replicate k a:=by
  rw [List.take_append_of_le_length (by simp),List.take_replicate,Nat.min_self]
 have h3:(List.replicate k a++tl).drop (k+m)=tl.drop m:=by
  rw [List.drop_append,List.length_replicate,List.drop_eq_nil_of_le (by simp),List.nil_append]
  congr 1;omega
 unfold aw
 rw [h1,h2,List.length_replicate,h3,List.replicate_append_replicate]

theorem zrow_rep (a:Value)(n:Nat):zrow [a] n=List.replicate n a:=by
 rw [bX]
 induction n with
 | zero=>rfl
 | succ n ih=>rw [List.replicate_succ,List.flatten_cons,ih,List.replicate_succ];rfl
theorem mul_one_gives (n:Nat)(hn:n<18446744073709551616)(C:Mem):Gives cx.P 138 [.int .u64 (1:Int),.int .u64 n] C (.tuple #[.int .u64 0,.int .u64 n]):=by
 have h:=mul_gives 1 n om_ hn C
 have e1:1*n / 18446744073709551616=0:=by omega
 have e2:1*n % 18446744073709551616=n:=by omega
 rw [e1,e2] at h
 exact h
theorem repeat_fn (C:Mem)(v:Value)(n:Nat)(z:Int)(hv:Sl C 1 v [[.int .i64 z]])(hn:n<=1000000):Jog.Fn cx.P 97 [v,.int .i64 n] C [] fun u _C' L'=>∃ b,u=.slice (some ⟨b,0,none⟩) n n/\L'=[.arr u 3 1 n (List.replicate n (.int .i64 z))]:=by
 have hv0:=hv
 obtain ⟨A,c,rfl,_⟩:=hv0
 refine Fn.it kr_ Tryz.func97 48 fun w0=>?_
 refine G.z2 1 0 1 ?_
 refine G.z3 2 0 1 10 ?_
 refine G.cd (fun h10=>?_) fun h10=>?_
 ·simp at h10;omega
 ·refine G.rp 2 fun R hR=>?_
  refine D.bL (c:=1) rfl rfl rfl rfl rfl rfl rfl rfl rfl fl_ ?_
  refine D.ae ?_
  refine D.bL (c:=(n:Int)) rfl rfl rfl rfl rfl rfl rfl rfl (by rw [IntKind.wrap_u64];omega) fl_ ?_
  refine D.au (mul_one_gives n om_ _) rfl rfl rfl rfl rfl rfl rfl fl_ ?_
  refine D.q3 5 0 5 6 hR ?_
  refine G.rp 5 fun R hR=>?_
  refine D.ar ?_
  refine D.e3 0 6 26 hR ?_
  refine G.cd (fun h26=>?_) fun h26=>?_
  ·simp at h26;omega
  ·refine G.rp 1 fun R hR=>?_
   refine D.bL (c:=(n:Int)) rfl rfl rfl rfl rfl rfl rfl rfl (by rw [IntKind.wrap_i64];omega) fl_ ?_
   refine D.a8 rfl rfl rfl rfl rfl rfl rfl rfl rfl (Nat.le_refl _) (by show 8*n<=281474976710656;omega) (by simp only [maxLen];omega) fl_ (fun b30=>?_)
   refine D.q2 1 0 7 hR ?_
   refine G.rp 2 fun R hR=>?_
   refine D.copyC (j:=0) (q:=min 1 n) rfl rfl rfl rfl rfl rfl rfl rfl rfl rfl rfl rfl hv rfl rfl (by rw [cG];show 0+min 1 n*1<=n*1;omega) fl_ ?_
   refine D.q2 1 7 8 hR ?_
   have hst0:aw (zrow [Value.int .i64 0] n) (([[Value.int .i64 z]]:List (List Value)).take (min 1 n)).flatten 0=List.replicate (min 1 n) (.int .i64 z)++List.replicate (n-min 1 n) (.int .i64 0):=by
    rw [zrow_rep]
    cases n with
    | zero=>rfl
    | succ n=>rw [show min 1 (n+1)=1 by omega,List.replicate_succ];rfl
   refine G.bv (L':=[.arr (.slice (some ⟨b30,0,none⟩) n n) 3 1 n (List.replicate (min 1 n) (.int .i64 z)++List.replicate (n-min 1 n) (.int .i64 0))]) (by rw [<- hst0];rfl) ?_
   refine G.loop (fun fr C' L' μ=>∃ (k:Nat),(k<=n/\min 1 n<=k)/\fr=[(7,[],.slice (some ⟨b30,0,none⟩) n n),(8,[],.int .i64 k)]/\L'=[.arr (.slice (some ⟨b30,0,none⟩) n n) 3 1 n (List.replicate k (.int .i64 z)++List.replicate (n-k) (.int .i64 0))]/\μ=n-k) (h_2 7 8) ⟨min 1 n,⟨Nat.min_le_right _ _,Nat.le_refl _⟩,rfl,rfl,rfl⟩ (fun fr C0' L0' m hle0 hI=>?_)
   obtain ⟨k,⟨hk,hk1⟩,rfl,rfl,rfl⟩:=hI
   refine G.z3 4 7 8 37 ?_
   refine G.cd (fun h37=>?_) fun h37=>?_
   ·simp only [decide_eq_true_eq] at h37
    have hkn:k<n:=by omega
    have hk2:1<=k:=by omega
    refine G.aI [0,1,2,3,4,5,6,7,8,9] [] rfl kr_ (fun R hB hR=>?_)
    refine D.ps 3 ?_
    refine D.dH k n n rfl rfl rfl rfl rfl rfl rfl rfl rfl rfl rfl rfl (fun _=>⟨.inr ⟨_,rfl⟩,.inl ⟨rfl,rfl⟩,.inl ⟨rfl,rfl⟩,hk,Nat.le_refl _,Nat.le_refl _⟩) rfl rfl ?_
    refine D.ps 2 ?_
    refine D.dH 0 k n rfl rfl rfl rfl rfl rfl rfl rfl rfl rfl rfl rfl (fun _=>⟨.inl ⟨rfl,rfl⟩,.inr ⟨_,rfl⟩,.inl ⟨rfl,rfl⟩,Nat.zero_le _,hk,Nat.le_refl _⟩) rfl rfl ?_
    refine D.copyS (j:=0) (off:=k) (g0:=b30) (dl:=n-k) (dc:=n-k) (sl:=k-0) (sc:=n-0) (q:=min k (n-k)) rfl rfl rfl rfl rfl rfl rfl rfl (by show some (Value.slice (if n=k then some (⟨b30,0,none⟩:Addr) else (some (⟨b30,0,none⟩:Addr)).map (·.add (k*1))) (n-k) (n-k))=_;rw [if_neg om_];simp [Addr.add_lit]) (by show some (Value.slice (if n=0 then some (⟨b30,0,none⟩:Addr) else (some (⟨b30,0,none⟩:Addr)).map (·.add (0*1))) (k-0) (n-0))=_;split <;> simp [Addr.add_lit]) rfl rfl (by simp [oneB]) (by simp;omega) fl_ ?_
    refine D.i64 (((k+min k (n-k):Nat):Int)) rfl rfl rfl rfl om_ om_ om_ rfl rfl ?_
    refine D.q2 1 7 8 hR ?_
    refine G.bv (L':=[.arr (.slice (some ⟨b30,0,none⟩) n n) 3 1 n (List.replicate (k+min k (n-k)) (.int .i64 z)++List.replicate (n-(k+min k (n-k))) (.int .i64 0))]) (by rw [replicate_storeInto (n:=n) om_ (Nat.min_le_left _ _) (by simp),List.drop_replicate,Nat.sub_sub];rfl) ?_
    refine G.aB (m':=n-(k+min k (n-k))) om_ hle0 (h_2 7 8) ⟨k+min k (n-k),⟨by omega,by omega⟩,rfl,rfl,rfl⟩
   ·simp only [decide_eq_false_iff_not] at h37
    have hkn:k=n:=by omega
    subst hkn
    refine G.z1 2 4 ?_
    refine G.aA (G.fin1 rfl rfl ?_)
    exact ⟨b30,rfl,by simp⟩
end Go.Proofs.YtjhmlnebikbdbaaGreatDoor
namespace Go.Jog
open Go

end Go.Jog
namespace Go.Jog
open Go Go.MapKept

section
variable {cx:Cx} {n:Nat} {ds:List (Option Nat)} {R:Rg n ds} {its:List It} {fr:Fr} {C:Mem} {L:List Ent} {i k d:Nat} {o:Oper} {g:GL} {v:Value}
variable {kd:TypeDesc} {κ:Type} [DecidableEq κ] (K:KeyT kd κ)
theorem D.insert {t kt et j b:Nat}{x y z:Operand}{m:List (κ × Value)}{key:κ}{ti:TI}(hk:k=3)(hg:gOn ds fr o.guard=true)(hd:o.dst=none)(hop:o.op=.insert t x y z)
  (hx:ev fr [] x=some (.map (some b))) (hy:ev fr [] y=some (K.enc key)) (hz:ev fr [] z=some v) (hm:L[j]?=some (.obj b (cm K.enc m)))
  (ht:cx.T.get t=some ti) (htk:ti.k=.map kt et) (hkt:cx.P.underlying kt=some kd)
  (h:D cx R its fr C (.obj b (cm K.enc (mset m key v))::L.eraseIdx j)):D cx R ((i,k,o)::its) fr C L :=
 D.eff0 (S:=fun C' L'=>C'=C/\L'=.obj b (cm K.enc (mset m key v))::L.eraseIdx j) (by subst hk;rfl) hg (fun a hs w _ hw=>by
  have hw':=St.perm hw (af hm)
  have hb:w.heap[b]?=some (cm K.enc m):=hw'.sep.e _ (List.mem_cons_self ..)
  have hu:=und_mapK cx.hT ht htk
  have hf:=dh K key m 0 0
  have h1:(getObj b).run cx.P w=.ok (.map ⟨ek K.enc m 0⟩ m.length) w:=Go.MapKept.run_getObj_map hb
  have h2:=run_findKey (P:=cx.P) (w:=w) hkt hf
  have hrun:(Instr.mapUpdate t (.map (some b)) (K.enc key) v).run cx.P w=.ok () { w with heap:=w.heap.setIfInBounds b (cm K.enc (mset m key v)) }:=by
   unfold Instr.mapUpdate
   simp only [Sem.run_bind,run_underlying hu,Result.andThen_ok,h1,run_checkKey hkt (K.isKey key)]
   rw [h2]
   cases hi:midx m key with
   | none =>
    obtain ⟨h3,h4⟩:=mapEs_none K (v:=v) (i:=0) hi
    simp only [Option.map_none,Result.andThen_ok]
    rw [Go.MapKept.run_setObj_map (P:=cx.P) _ hb]
    congr 2
    simp only [cm,h4,<- h3,Nat.zero_add]
    congr 2
    apply Array.ext'
    simp
   | some p =>
    obtain ⟨q,u⟩:=p
    obtain ⟨h3,h4,h5⟩:=mapEs_some K (v:=v) (i:=0) hi
    have hq:(((⟨ek K.enc m 0⟩:Array MapEntry)[0+q]?).map (·.key)).getD (K.enc key)=K.enc key:=by
     rw [Nat.zero_add]
     show (((ek K.enc m 0).toArray[q]?).map (·.key)).getD (K.enc key)=K.enc key
     rw [List.getElem?_toArray,h5];rfl
    simp only [Option.map_some,Result.andThen_ok,Sem.run_bind]
    rw [hq,run_keyThatStays (d:=kd) (K.isKey key)]
    simp only [Result.andThen_ok]
    rw [Go.MapKept.run_setObj_map (P:=cx.P) _ hb]
    congr 2
    simp only [cm,h4,<- h3,Nat.zero_add]
    congr 2
    apply Array.ext'
    simp
  have hex:(execOp a.eval o).run cx.P w=.ok .skip { w with heap:=w.heap.setIfInBounds b (cm K.enc (mset m key v)) }:=by
   have e1:execOp a.eval o=(do Instr.mapUpdate t (a.eval x) (a.eval y) (a.eval z);Pure.pure .skip:Sem Next):=by unfold execOp;rw [hop]
   rw [e1,hs _ _ hx,hs _ _ hy,hs _ _ hz]
   simp only [Sem.run_bind,hrun,Result.andThen_ok,Sem.run_pure]
  unfold Oper.wp
  rw [hex]
  have hset:=heap_set (o':=cm K.enc (mset m key v)) hb
  refine ⟨C,.obj b (cm K.enc (mset m key v))::L.eraseIdx j, ?_,Mem.le.refl _,fun h2=>by omega,St.put hw' hset.1 hset.2 (by simp) rfl rfl rfl (Nat.le_refl _),rfl,rfl⟩
  rw [hd];rfl)
  (fun C' L' _ ⟨e1,e2⟩=>by subst e1;subst e2;exact h)
end
end Go.Jog
namespace Go.Proofs.YtjhmlnebikbdbaaGreatDoor
open Go Go.Jog
set_option maxRecDepth 100000

theorem indexN_fn (C:Mem)(A:Option Addr)(c:Nat)(g:FuncId):Gives cx.P 135 [.slice A 0 c,.func (.func g) #[] #[]] C (.int .i64 (-1)):=by
 refine Fn.it kr_ Tryz.func135 19 fun w0=>?_
 refine G.z2 1 0 1 ?_
 refine G.z4 3 0 1 7 8 ?_
 refine G.loop (fun fr C' L' μ=>∃ (k:Nat),(k=0)/\fr=[(0,[],.slice A 0 c),(1,[],.func (.func g) #[] #[]),(7,[],.int .i64 0),(8,[],.int .i64 k)]/\L'=[]/\μ=k) (h_4 0 1 7 8) ⟨0,rfl,rfl,rfl,rfl⟩ (fun fr C0' L0' m hle0 hI=>?_)
 obtain ⟨k,hk,rfl,rfl,rfl⟩:=hI
 refine G.z5 1 0 1 7 8 9 ?_
 refine G.cd (fun h9=>?_) fun h9=>?_
 ·subst hk;exact absurd h9 (by decide)
 ·refine G.z1 1 4 ?_
  refine G.rf ?_
  exact ⟨rfl,rfl⟩
theorem contN_fn (C:Mem)(A:Option Addr)(c:Nat)(g:FuncId):Gives cx.P 89 [.slice A 0 c,.func (.func g) #[] #[]] C (.bool false):=by
 refine Fn.it kr_ Tryz.func89 9 fun w0=>?_
 refine G.z2 1 0 1 ?_
 refine G.rp 2 fun R hR=>?_
 refine D.am (indexN_fn _ A c g) ?_
 refine D.q1 2 4 hR ?_
 refine G.rf ?_
 exact ⟨rfl,rfl⟩
theorem indexB_fn (C:Mem)(A:Option Addr)(c:Nat)(b:Bool):Gives cx.P 102 [.slice A 0 c,.bool b] C (.int .i64 (-1)):=by
 refine Fn.it kr_ Tryz.func102 19 fun w0=>?_
 refine G.z2 1 0 1 ?_
 refine G.z4 3 0 1 7 8 ?_
 refine G.loop (fun fr C' L' μ=>∃ (k:Nat),(k=0)/\fr=[(0,[],.slice A 0 c),(1,[],.bool b),(7,[],.int .i64 0),(8,[],.int .i64 k)]/\L'=[]/\μ=k) (h_4 0 1 7 8) ⟨0,rfl,rfl,rfl,rfl⟩ (fun fr C0' L0' m hle0 hI=>?_)
 obtain ⟨k,hk,rfl,rfl,rfl⟩:=hI
 refine G.z5 1 0 1 7 8 9 ?_
 refine G.cd (fun h9=>?_) fun h9=>?_
 ·subst hk;exact absurd h9 (by decide)
 ·refine G.z1 1 4 ?_
  refine G.rf ?_
  exact ⟨rfl,rfl⟩
theorem containsB_fn (C:Mem)(A:Option Addr)(c:Nat)(b:Bool):Gives cx.P 52 [.slice A 0 c,.bool b] C (.bool false):=by
 refine Fn.it kr_ Tryz.func52 9 fun w0=>?_
 refine G.z2 1 0 1 ?_
 refine G.rp 2 fun R hR=>?_
 refine D.am (indexB_fn _ A c b) ?_
 refine D.q1 2 4 hR ?_
 refine G.rf ?_
 exact ⟨rfl,rfl⟩
def keyI:KeyT (.int .i64) Int where
 enc n:=.int .i64 n
 isKey _:=rfl
 same a b:=by
  simp only [Instr.sameNow]
  congr 1
def nil3:List Value:=[.slice none 0 0,.slice none 0 0,.slice none 0 0]
def Sheet0 (D:Mem)(p:Value):Prop:=∃ b b2,p=.pointer (some ⟨b,0,none⟩)/\D b=some (.cells ⟨[.slice none 0 0,.slice none 0 0,.slice (some ⟨b2,0,none⟩) 0 0]⟩ 147 (0,0))
theorem plain_fn (C:Mem):Pur cx.P 46 [.agg ⟨nil3⟩] C fun u D=>∃ p,u=.tuple #[p,.bool true]/\Sheet0 D p:=by
 refine Fn.it kr_ Tryz.func46 217 fun w0=>?_
 refine G.rg fun R hR=>?_
 refine D.aM (fun b1=>?_)
 refine D.q1 2 1 hR ?_
 refine G.rp 1 fun R hR=>?_
 refine D.ag (.head _) ?_
 refine D.ps 4 ?_
 refine D.ag (.head _) ?_
 refine D.ps 2 ?_
 refine D.ar ?_
 refine D.ps 2 ?_
 refine D.ag (.head _) ?_
 refine D.ps 2 ?_
 refine D.ar ?_
 refine D.e2 1 26 hR ?_
 refine G.cd (fun h26=>?_) fun h26=>?_
 ·exact absurd h26 (by decide)
 ·refine G.rp 1 fun R hR=>?_
  refine D.ag (.head _) ?_
  refine D.ae ?_
  refine D.a8 rfl rfl rfl rfl rfl rfl rfl rfl rfl (Nat.le_refl _) (by decide) (by decide) fl_ (fun b30=>?_)
  refine D.build [.slice none 0 0,.slice none 0 0,.slice (some ⟨b30,0,none⟩) 0 0] rfl rfl rfl rfl rfl rfl rfl rfl ?_
  refine D.aM (fun b32=>?_)
  refine D.q2 1 1 4 hR ?_
  refine G.rp 1 fun R hR=>?_
  refine D.ag (.tail _ (.tail _ (.head _))) ?_
  refine D.q5 2 1 4 34 35 36 hR ?_
  refine G.freezeArr 1 [] rfl rfl (fun r hr=>by cases hr) rfl (fun Cf hf hsd=>?_)
  refine G.loop (fun fr C' L' μ=>∃ (k:Nat),(k=0)/\fr=[(1,[],.pointer (some ⟨b1,0,none⟩)),(4,[],.pointer (some ⟨b32,0,none⟩)),(34,[],.slice none 0 0),(35,[],.int .i64 0),(36,[],.int .i64 k)]/\L'=[.obj b32 (.cells ⟨[.slice none 0 0,.slice none 0 0,.slice (some ⟨b30,0,none⟩) 0 0]⟩ 147 (0,0)),.obj b1 (.cells ⟨nil3⟩ 71 (0,0))]/\μ=k) (h_5 1 4 34 35 36) ⟨0,rfl,rfl,rfl,rfl⟩ (fun fr C0' L0' m hle0 hI=>?_)
  obtain ⟨k,hk,rfl,rfl,rfl⟩:=hI
  refine G.z6 1 1 4 34 35 36 37 ?_
  refine G.cd (fun h37=>?_) fun h37=>?_
  ·subst hk;exact absurd h37 (by decide)
  ·refine G.rg fun R hR=>?_
   refine D.makeMap keyS rfl rfl rfl rfl fl_ (fun b71=>?_)
   refine D.q3 1 1 4 7 hR ?_
   refine G.rp 1 fun R hR=>?_
   refine D.ag (.tail _ (.tail _ (.head _))) ?_
   refine D.q6 2 1 4 7 73 74 75 hR ?_
   refine G.loop (fun fr C' L' μ=>∃ (k:Nat),(k=0)/\fr=[(1,[],.pointer (some ⟨b1,0,none⟩)),(4,[],.pointer (some ⟨b32,0,none⟩)),(7,[],.map (some b71)),(73,[],.slice none 0 0),(74,[],.int .i64 0),(75,[],.int .i64 k)]/\L'=[.obj b71 (cm keyS.enc []),.obj b32 (.cells ⟨[.slice none 0 0,.slice none 0 0,.slice (some ⟨b30,0,none⟩) 0 0]⟩ 147 (0,0)),.obj b1 (.cells ⟨nil3⟩ 71 (0,0))]/\μ=k) (h_6 1 4 7 73 74 75) ⟨0,rfl,rfl,rfl,rfl⟩ (fun fr C1' L1' m hle1 hI=>?_)
   obtain ⟨k,hk2,rfl,rfl,rfl⟩:=hI
   refine G.z7 1 1 4 7 73 74 75 76 ?_
   refine G.cd (fun h76=>?_) fun h76=>?_
   ·subst hk2;exact absurd h76 (by decide)
   ·refine G.rp 4 fun R hR=>?_
    refine D.ag (.tail _ (.head _)) ?_
    refine D.am (contN_fn _ _ _ _) ?_
    refine D.q2 3 2 3 hR ?_
    refine G.freeze 1 rfl (fun Cg hg hb=>?_)
    refine G.aA (G.dropAll (G.bg rfl rfl rfl ?_))
    exact ⟨rfl,_,rfl,b32,b30,rfl,hb⟩
theorem crossed_fn (C:Mem)(p:Value)(h:Sheet0 C p):Gives cx.P 47 [p] C (.bool false):=by
 obtain ⟨b,b2,rfl,hb⟩:=h
 refine Fn.it kr_ Tryz.func47 123 fun w0=>?_
 refine G.z1 1 0 ?_
 refine G.z2 1 0 3 ?_
 refine G.loop (fun fr C' L' μ=>∃ (k:Nat),(k=0)/\fr=[(0,[],.pointer (some ⟨b,0,none⟩)),(3,[],.int .i64 k)]/\L'=[]/\μ=k) (h_2 0 3) ⟨0,rfl,rfl,rfl,rfl⟩ (fun fr C0' L0' m hle0 hI=>?_)
 obtain ⟨k,hk,rfl,rfl,rfl⟩:=hI
 refine G.rp 4 fun R hR=>?_
 refine D.aa (PtrTo.block (Mem.get hb mup) _) ?_
 refine D.q3 2 0 3 15 hR ?_
 refine G.cd (fun h15=>?_) fun h15=>?_
 ·subst hk;exact absurd h15 (by decide)
 ·refine G.z1 1 2 ?_
  refine G.rf ?_
  exact ⟨rfl,rfl⟩
theorem cycles_fn (C:Mem)(p:Value)(h:Sheet0 C p):Pur cx.P 48 [p] C fun u _=>∃ A,u=.tuple #[.slice A 0 0,.slice none 0 0]:=by
 obtain ⟨b,b2,rfl,hb⟩:=h
 refine Fn.it kr_ Tryz.func48 102 fun w0=>?_
 refine G.rg fun R hR=>?_
 refine D.aM (fun b1=>?_)
 refine D.q2 2 1 3 hR ?_
 refine G.rg fun R hR=>?_
 refine D.ag (.head _) ?_
 refine D.ps 2 ?_
 refine D.aa (PtrTo.block (Mem.get hb mup) _) ?_
 refine D.q5 2 1 3 15 16 17 hR ?_
 refine G.loop (fun fr C' L' μ=>∃ (k:Nat),(k=0)/\fr=[(1,[],.pointer (some ⟨b1,0,none⟩)),(3,[],.slice none 0 0),(15,[],.slice (some ⟨b2,0,none⟩) 0 0),(16,[],.int .i64 0),(17,[],.int .i64 k)]/\L'=[.obj b1 (.cells ⟨[.pointer (some ⟨b,0,none⟩)]⟩ 128 (0,0))]/\μ=k) (h_5 1 3 15 16 17) ⟨0,rfl,rfl,rfl,rfl⟩ (fun fr C0' L0' m hle0 hI=>?_)
 obtain ⟨k,hk,rfl,rfl,rfl⟩:=hI
 refine G.z6 1 1 3 15 16 17 18 ?_
 refine G.cd (fun h18=>?_) fun h18=>?_
 ·subst hk;exact absurd h18 (by decide)
 ·refine G.aS [(6,3)] rfl (fun R hR=>?_)
  refine D.ah [[.int .i64 (-1)]] (fun p33 C33 hle33 hs33=>?_)
  refine D.ag (.head _) ?_
  refine D.ps 2 ?_
  refine D.aa (PtrTo.block (Mem.get hb mup) _) ?_
  refine D.ae ?_
  refine D.call (repeat_fn _ _ 0 (-1) (hs33.mono mup) om_) rfl (.inr (by decide)) rfl rfl rfl rfl rfl rfl (List.Perm.refl _) fl_ (fun v39 C39 L39 hle39 hq39=>?_)
  obtain ⟨b9,rfl,rfl⟩:=hq39
  refine D.q3 1 1 2 3 hR ?_
  refine G.freezeArr 0 [] rfl rfl (fun r hr=>by cases hr) rfl (fun Cf hf hsd=>?_)
  refine G.rg fun R hR=>?_
  refine D.ag (.head _) ?_
  refine D.ps 2 ?_
  refine D.aa (PtrTo.block (Mem.get hb mup) _) ?_
  refine D.q5 2 1 2 3 44 45 hR ?_
  refine G.loop (fun fr C' L' μ=>∃ (k:Nat),(k=0)/\fr=[(1,[],.pointer (some ⟨b1,0,none⟩)),(2,[],.slice (some ⟨b9,0,none⟩) 0 0),(3,[],.slice none 0 0),(44,[],.int .i64 0),(45,[],.int .i64 k)]/\L'=[.obj b1 (.cells ⟨[.pointer (some ⟨b,0,none⟩)]⟩ 128 (0,0))]/\μ=k) (h_5 1 2 3 44 45) ⟨0,rfl,rfl,rfl,rfl⟩ (fun fr C1' L1' m hle1 hI=>?_)
  obtain ⟨k,hk2,rfl,rfl,rfl⟩:=hI
  refine G.z6 1 1 2 3 44 45 46 ?_
  refine G.cd (fun h46=>?_) fun h46=>?_
  ·subst hk2;exact absurd h46 (by decide)
  ·refine G.z2 4 2 3 ?_
   refine G.aA (G.dropAll (G.bg rfl rfl rfl ?_))
   exact ⟨rfl,_,rfl⟩
theorem map0_fn (C:Mem):Gives cx.P 15 [.agg ⟨nil3⟩] C (.bool true):=by
 refine Fn.it kr_ Tryz.func15 100 fun w0=>?_
 refine G.rg fun R hR=>?_
 refine D.aM (fun b1=>?_)
 refine D.q1 1 1 hR ?_
 refine G.rg fun R hR=>?_
 refine D.ag (.head _) ?_
 refine D.aJ (plain_fn _) (fun v20 C20 hle20 hq20=>?_)
 obtain ⟨p,rfl,hp⟩:=hq20
 obtain ⟨b,b2,rfl,hb⟩:=id hp
 refine D.ps 3 ?_
 refine D.aj (fun b3=>?_)
 refine D.ac (j:=0) ?_
 refine D.q3 1 1 3 4 hR ?_
 refine G.rp 3 fun R hR=>?_
 refine D.ag (.head _) ?_
 refine D.aU (fun _=>(crossed_fn _ _ (by obtain ⟨b,b2,e,hb⟩:=hp;exact ⟨b,b2,e,Mem.get hb mup⟩))) rfl rfl rfl rfl rfl rfl rfl rfl rfl ?_
 refine D.ar ?_
 refine D.e3 1 3 28 hR ?_
 refine G.cd (fun h28=>?_) fun h28=>?_
 ·exact absurd h28 (by decide)
 ·refine G.rg fun R hR=>?_
  refine D.ag (.head _) ?_
  refine D.ap (cycles_fn _ _ (by obtain ⟨b,b2,e,hb⟩:=hp;exact ⟨b,b2,e,Mem.get hb mup⟩)) rfl rfl rfl rfl rfl rfl rfl fl_ (fun v31 C31 hle31 hq31=>?_)
  obtain ⟨A9,rfl⟩:=hq31
  refine D.ps 3 ?_
  refine D.aj (fun b5=>?_)
  refine D.aj (fun b6=>?_)
  refine D.ac (j:=1) ?_
  refine D.ac (j:=1) ?_
  refine D.e4 1 3 5 6 hR ?_
  refine G.rg fun R hR=>?_
  refine D.aj (fun b7=>?_)
  refine D.e5 1 3 5 6 7 hR ?_
  refine G.rp 1 fun R hR=>?_
  refine D.ac (j:=0) ?_
  refine D.e4 1 3 6 7 hR ?_
  refine G.rg fun R hR=>?_
  refine D.makeMap keyI rfl rfl rfl rfl fl_ (fun b35=>?_)
  refine D.insert keyI (j:=0) rfl rfl rfl rfl rfl rfl rfl rfl rfl rfl kr_ ?_
  refine D.q5 2 1 3 6 7 8 hR ?_
  refine G.rp 1 fun R hR=>?_
  refine D.ag (.tail _ (.tail _ (.tail _ (.tail _ (.tail _ (.head _)))))) ?_
  refine D.ae ?_
  refine D.a8 rfl rfl rfl rfl rfl rfl rfl rfl rfl (Nat.le_refl _) (by decide) (by decide) fl_ (fun b40=>?_)
  refine D.q5 1 3 6 7 8 9 hR ?_
  refine G.rg fun R hR=>?_
  refine D.ag (.tail _ (.tail _ (.tail _ (.head _)))) ?_
  refine D.q7 2 3 7 8 9 41 42 43 hR ?_
  refine G.dropAll ?_
  refine G.loop (fun fr C' L' μ=>∃ (k:Nat),(k=0)/\fr=[(3,[],.pointer (some ⟨b3,0,none⟩)),(7,[],.pointer (some ⟨b7,0,none⟩)),(8,[],.map (some b35)),(9,[],.slice (some ⟨b40,0,none⟩) 0 0),(41,[],.slice none 0 0),(42,[],.int .i64 0),(43,[],.int .i64 k)]/\L'=[]/\μ=k) (h_7 3 7 8 9 41 42 43) ⟨0,rfl,rfl,rfl,rfl⟩ (fun fr C0' L0' m hle0 hI=>?_)
  obtain ⟨k,hk,rfl,rfl,rfl⟩:=hI
  refine G.z8 1 3 7 8 9 41 42 43 44 ?_
  refine G.cd (fun h44=>?_) fun h44=>?_
  ·subst hk;exact absurd h44 (by decide)
  ·refine G.rp 1 fun R hR=>?_
   refine D.am (containsB_fn _ _ _ _) ?_
   refine D.q1 2 2 hR ?_
   refine G.rf ?_
   exact ⟨rfl,rfl⟩

def posS:List Str->Str->Nat
 | [],_=>0
 | x::l,s=>if x=s then 0 else posS l s+1
def atM:List Str->Nat->List (Str × Value)
 | [],_=>[]
 | s::l,i=>(s,.int .i64 i)::atM l (i+1)
theorem mget_atM:∀ {N:List Str}{i:Nat}{s:Str},mget (atM N i) s=if s∈N then some (.int .i64 ((i+posS N s:Nat):Int)) else none
 | [],i,s=>by simp [atM,mget]
 | x::N,i,s=>by
  simp only [atM,mget,posS]
  by_cases e:x=s
  ·subst e;simp
  ·rw [if_neg e,if_neg e,mget_atM]
   have e':¬ s=x:=fun h=>e h.symm
   by_cases h:s∈N
   ·rw [if_pos h,if_pos (by simp [h])]
    congr 3
    omega
   ·rw [if_neg h,if_neg (by simp [h,e'])]
theorem mset_atM:∀ {N:List Str}{i:Nat}{s:Str},s ∉ N->mset (atM N i) s (.int .i64 ((i+N.length:Nat):Int))=atM (N++[s]) i
 | [],i,s,_=>by simp [atM,mset]
 | x::N,i,s,h=>by
  simp only [List.mem_cons,not_or] at h
  simp only [List.cons_append,atM,mset,if_neg (Ne.symm h.1)]
  congr 1
  rw [<- mset_atM h.2]
  congr 3
  simp;omega

def gR (l:List Rel)(i:Int):Rel:=l.getD i.toNat default
theorem gR_at {l:List Rel}{i:Int}(h0:0<=i)(h1:i<l.length):l[i.toNat]?=some (gR l i)/\(l.map Rel.enc)[i.toNat]?=some (gR l i).enc:=by
 have e:l[i.toNat]?=some (gR l i):=by
  unfold gR
  rw [List.getD_eq_getElem?_getD,List.getElem?_eq_getElem om_];rfl
 exact ⟨e,by rw [List.getElem?_map,e];rfl⟩
def arcB (l:List Rel)(i:Int):Bool:=decide (0<=i) && decide (i<l.length) && decide (1<=(gR l i).kind) && decide ((gR l i).kind<=3)
theorem arcB_in {l:List Rel}{i:Int}(h:arcB l i=true):0<=i/\i<l.length:=by
 unfold arcB at h
 simp at h
 omega
theorem carc_fn (C:Mem)(v:Value)(l:List Rel)(i:Int)(hv:Sl C 3 v (l.map Rel.enc)):Gives cx.P 42 [v,.int .i64 i] C (.bool (arcB l i)):=by
 obtain ⟨A,c,rfl,_⟩:=id hv
 simp only [List.length_map] at hv ⊢
 refine Fn.it kr_ Tryz.func42 29 fun w0=>?_
 refine G.z2 1 0 1 ?_
 refine G.rp 7 fun R hR=>?_
 refine D.aC rfl rfl rfl rfl rfl rfl rfl rfl ?_
 refine D.ps 3 ?_
 refine D.index rfl rfl rfl rfl rfl rfl rfl rfl rfl rfl (fun hg=>⟨hv,(by have h:(decide (0<=i) && decide (i<(l.length:Int)))=true:=hg.1;simp at h;omega),(by have h:(decide (0<=i) && decide (i<(l.length:Int)))=true:=hg.1;simp at h;exact (gR_at h.1 h.2).2)⟩) fl_ rfl (fun p16 hp16=>?_)
 refine D.eL rfl rfl rfl rfl rfl rfl rfl rfl rfl rfl hp16 fl_ rfl (fun p17 hp17=>?_)
 refine D.aD rfl rfl rfl rfl rfl rfl hp17 rfl rfl rfl ?_
 refine D.ae ?_
 refine D.aC rfl rfl rfl rfl rfl rfl rfl rfl ?_
 refine D.ps 3 ?_
 refine D.index rfl rfl rfl rfl rfl rfl rfl rfl rfl rfl (fun hg=>⟨hv,(by have h:(decide (0<=i) && decide (i<(l.length:Int)) && decide (1<=(gR l i).kind))=true:=hg.1;simp at h;omega),(by have h:(decide (0<=i) && decide (i<(l.length:Int)) && decide (1<=(gR l i).kind))=true:=hg.1;simp at h;exact (gR_at h.1.1 h.1.2).2)⟩) fl_ rfl (fun p24 hp24=>?_)
 refine D.eL rfl rfl rfl rfl rfl rfl rfl rfl rfl rfl hp24 fl_ rfl (fun p25 hp25=>?_)
 refine D.aD rfl rfl rfl rfl rfl rfl hp25 rfl rfl rfl ?_
 refine D.ae ?_
 refine D.aC rfl rfl rfl rfl rfl rfl rfl rfl ?_
 refine D.q1 1 4 hR ?_
 refine G.rf ?_
 exact ⟨rfl,rfl⟩
def stepsM (l:List Rel)(ix:Int):Str->List Int->Option Str
 | u,[]=>some u
 | u,i::r=>if arcB l i && !(i == ix) && decide ((gR l i).lower=u) then stepsM l ix (gR l i).upper r else none
def impB (l:List Rel)(ix:Int)(bs:List Int):Bool:=arcB l ix && !(decide (bs.length=0)) && (match stepsM l ix (gR l ix).lower bs with
 | some u=>decide (u=(gR l ix).upper)
 | none=>false)
theorem implied_fn (C:Mem)(v vb:Value)(l:List Rel)(ix:Int)(bs:List Int)(hv:Sl C 3 v (l.map Rel.enc))(hb:Sl C 1 vb (bs.map encI)):Gives cx.P 12 [v,.int .i64 ix,vb] C (.bool (impB l ix bs)):=by
 obtain ⟨A,c,rfl,hl1,hl2,_⟩:=id hv
 obtain ⟨Ab,cb,rfl,hb1,hb2,_⟩:=id hb
 have hmx:maxLen<=9223372036854775807:=by simp [maxLen]
 simp only [List.length_map] at hv hb hb1 hl1 ⊢
 refine Fn.it kr_ Tryz.func12 61 fun w0=>?_
 refine G.z3 1 0 1 2 ?_
 refine G.rp 2 fun R hR=>?_
 refine D.am (carc_fn _ _ l ix hv) ?_
 refine D.ps 5 ?_
 refine D.ar ?_
 refine D.e4 0 1 2 18 hR ?_
 refine G.cd (fun h18=>?_) fun h18=>?_
 ·have hno:impB l ix bs=false:=by
   unfold impB
   cases h1:arcB l ix with
   | false=>rfl
   | true =>
    rw [h1] at h18
    have h2:bs.length=0:=by simpa using h18
    simp [h2]
  refine G.z1 1 6 ?_
  refine G.rf ?_
  exact ⟨by rw [hno],rfl⟩
 ·have h1:arcB l ix=true:=by
   cases h1:arcB l ix with
   | true=>rfl
   | false=>rw [h1] at h18;cases h18
  have h2:¬ bs.length=0:=by
   rw [h1] at h18
   simpa using h18
  obtain ⟨hx0,hx1⟩:=arcB_in h1
  have hI:impB l ix bs=(match stepsM l ix (gR l ix).lower bs with
   | some u=>decide (u=(gR l ix).upper)
   | none=>false):=by
   unfold impB
   rw [h1];simp [h2]
  refine G.rp 2 fun R hR=>?_
  refine D.ai (hv.mono mup) rfl rfl rfl rfl rfl rfl rfl rfl rfl rfl om_ (gR_at hx0 hx1).2 fl_ (fun p21 hp21=>?_)
  refine D.d6 hp21 rfl rfl rfl rfl rfl rfl rfl rfl rfl rfl fl_ (fun p22 hp22=>?_)
  refine D.aa hp22 ?_
  refine D.q4 1 0 1 2 7 hR ?_
  refine G.z6 3 0 1 7 24 25 26 ?_
  refine G.loop (fun fr C' L' μ=>∃ (k:Nat)(u:Str),(k<=bs.length/\stepsM l ix (gR l ix).lower bs=stepsM l ix u (bs.drop k))/\fr=[(0,[],.slice A l.length c),(1,[],.int .i64 ix),(7,[],strV u),(24,[],.slice Ab bs.length cb),(25,[],.int .i64 bs.length),(26,[],.int .i64 k)]/\L'=[]/\μ=bs.length-k) (h_6 0 1 7 24 25 26) ⟨0,(gR l ix).lower,⟨Nat.zero_le _,rfl⟩,rfl,rfl,rfl⟩ (fun fr C0' L0' m hle0 hI=>?_)
  obtain ⟨k,u,⟨hk,hst⟩,rfl,rfl,rfl⟩:=hI
  refine G.z7 1 0 1 7 24 25 26 27 ?_
  refine G.cd (fun h27=>?_) fun h27=>?_
  ·have hkl:k<bs.length:=by simpa using h27
   obtain ⟨i,hi⟩:∃ i,bs[k]?=some i:=⟨bs[k],List.getElem?_eq_getElem hkl⟩
   have hrow:(bs.map encI)[k]?=some (encI i):=by rw [List.getElem?_map,hi];rfl
   have hdr:bs.drop k=i::bs.drop (k+1):=by
    rw [List.drop_eq_getElem_cons hkl]
    congr 1
    exact (List.getElem?_eq_some_iff.1 hi).2
   refine G.rg fun R hR=>?_
   refine D.ai (hb.mono mup) rfl rfl rfl rfl rfl rfl rfl rfl rfl rfl om_ hrow fl_ (fun p28 hp28=>?_)
   refine D.aa hp28 ?_
   refine D.q7 1 0 1 7 9 24 25 26 hR ?_
   refine G.rp 2 fun R hR=>?_
   refine D.am (carc_fn _ _ l i (hv.mono mup)) ?_
   refine D.ps 5 ?_
   refine D.ar ?_
   refine D.ps 3 ?_
   refine D.index rfl rfl rfl rfl rfl rfl rfl rfl rfl rfl (fun hg=>⟨hv.mono mup,(by have h:(!arcB l i || (i == ix))=false:=hg.1;simp at h;exact (arcB_in h.1).1),(by have h:(!arcB l i || (i == ix))=false:=hg.1;simp at h;exact (gR_at (arcB_in h.1).1 (arcB_in h.1).2).2)⟩) fl_ rfl (fun p42 hp42=>?_)
   refine D.eL rfl rfl rfl rfl rfl rfl rfl rfl rfl rfl hp42 fl_ rfl (fun p43 hp43=>?_)
   refine D.aD rfl rfl rfl rfl rfl rfl hp43 rfl rfl rfl ?_
   refine D.ps 2 ?_
   refine D.ar ?_
   refine D.e7 0 1 9 24 25 26 47 hR ?_
   refine G.cd (fun h47=>?_) fun h47=>?_
   ·have hno:stepsM l ix (gR l ix).lower bs=none:=by
     rw [hst,hdr,stepsM,if_neg]
     intro h
     simp at h h47
     obtain ⟨⟨e1,e2⟩,e3⟩:=h
     rw [e1] at h47
     simp [e2,e3] at h47
    refine G.z1 1 6 ?_
    refine G.rf ?_
    exact ⟨by rw [hI,hno],rfl⟩
   ·have hok:(arcB l i && !(i == ix) && decide ((gR l i).lower=u))=true:=by
     simp at h47
     simp [h47.1.1,h47.1.2,h47.2]
    have hin:=arcB_in (l:=l) (i:=i) (by simp at hok;exact hok.1.1)
    refine G.rp 2 fun R hR=>?_
    refine D.ai (hv.mono mup) rfl rfl rfl rfl rfl rfl rfl rfl rfl rfl om_ (gR_at hin.1 hin.2).2 fl_ (fun p50 hp50=>?_)
    refine D.d6 hp50 rfl rfl rfl rfl rfl rfl rfl rfl rfl rfl fl_ (fun p51 hp51=>?_)
    refine D.aa hp51 ?_
    refine D.q6 1 0 1 7 24 25 26 hR ?_
    refine G.rg fun R hR=>?_
    refine D.ax _ ?_
    refine D.q6 1 0 1 7 24 25 26 hR ?_
    refine G.aB (m':=bs.length-(k+1)) om_ mup (h_6 0 1 7 24 25 26) ⟨k+1,(gR l i).upper,⟨by omega,by rw [hst,hdr,stepsM,if_pos hok]⟩,rfl,rfl,rfl⟩
  ·have hkl:bs.length<=k:=by
    have:¬ k<bs.length:=by simpa using h27
    omega
   refine G.rp 3 fun R hR=>?_
   refine D.ai (hv.mono mup) rfl rfl rfl rfl rfl rfl rfl rfl rfl rfl om_ (gR_at hx0 hx1).2 fl_ (fun p57 hp57=>?_)
   refine D.d6 hp57 rfl rfl rfl rfl rfl rfl rfl rfl rfl rfl fl_ (fun p58 hp58=>?_)
   refine D.aa hp58 ?_
   refine D.q1 2 6 hR ?_
   refine G.rf ?_
   refine ⟨?_,rfl⟩
   rw [hI,hst,List.drop_of_length_le hkl,stepsM]
   simp [eqStr]
def posZ (N:List Str)(s:Str):Nat:=if s∈N then posS N s else 0
theorem look_at (N:List Str)(s:Str):lookV (.int .i64 0) true (mget (atM N 0) s)=.tuple #[.int .i64 (posZ N s),.bool (decide (s∈N))]:=by
 rw [mget_atM]
 by_cases h:s∈N
 ·simp [h,posZ,lookV]
 ·simp [h,posZ,lookV]
theorem nodup_snoc {α:Type}{l:List α}{x:α}(h:l.Nodup)(hx:x ∉ l):(l++[x]).Nodup:=by
 rw [List.nodup_append]
 exact ⟨h,by simp,fun a ha b hb e=>by simp only [List.mem_singleton] at hb;subst hb;subst e;exact hx ha⟩
def keptB (l:List Rel)(o:List Str)(k:Nat):Bool:=decide ((gR l k).upper∈o) && decide ((gR l k).lower∈o) && !(arcB l k && decide (posZ o (gR l k).upper<=posZ o (gR l k).lower))
def ordB (l:List Rel)(o:List Str):Bool:=decide o.Nodup && (List.range l.length).all (keptB l o)
theorem corder_fn (C:Mem)(v vo:Value)(l:List Rel)(o:List Str)(hv:Sl C 3 v (l.map Rel.enc))(hvo:Sl C 1 vo (o.map encS)):Gives cx.P 13 [v,vo] C (.bool (ordB l o)):=by
 obtain ⟨A,c,rfl,hl1,hl2,_⟩:=id hv
 obtain ⟨Ao,co,rfl,ho1,ho2,_⟩:=id hvo
 have hmx:maxLen<=9223372036854775807:=by simp [maxLen]
 simp only [List.length_map] at hv hvo hl1 ho1 ⊢
 refine Fn.it kr_ Tryz.func13 73 fun w0=>?_
 refine G.z2 1 0 1 ?_
 refine G.rg fun R hR=>?_
 refine D.makeMap keyS rfl rfl rfl rfl fl_ (fun b16=>?_)
 refine D.q3 1 0 1 5 hR ?_
 refine G.z5 3 0 5 17 18 19 ?_
 refine G.loop (fun fr C' L' μ=>∃ (k:Nat),(k<=o.length/\(o.take k).Nodup)/\fr=[(0,[],.slice A l.length c),(5,[],.map (some b16)),(17,[],.slice Ao o.length co),(18,[],.int .i64 o.length),(19,[],.int .i64 k)]/\L'=[.obj b16 (cm keyS.enc (atM (o.take k) 0))]/\μ=o.length-k) (h_5 0 5 17 18 19) ⟨0,⟨Nat.zero_le _,by simp⟩,rfl,rfl,rfl⟩ (fun fr C0' L0' m hle0 hI=>?_)
 obtain ⟨k,⟨hk,hnd⟩,rfl,rfl,rfl⟩:=hI
 refine G.z6 1 0 5 17 18 19 20 ?_
 refine G.cd (fun h20=>?_) fun h20=>?_
 ·have hkl:k<o.length:=by simpa using h20
  obtain ⟨s,hs⟩:∃ s,o[k]?=some s:=⟨o[k],List.getElem?_eq_getElem hkl⟩
  have hrs:(o.map encS)[k]?=some (encS s):=by rw [List.getElem?_map,hs];rfl
  have htk:o.take (k+1)=o.take k++[s]:=by rw [List.take_add_one,hs];rfl
  refine G.rp 1 fun R hR=>?_
  refine D.ai (hvo.mono mup) rfl rfl rfl rfl rfl rfl rfl rfl rfl rfl om_ hrs fl_ (fun p22 hp22=>?_)
  refine D.aa hp22 ?_
  refine D.q7 2 0 5 6 7 17 18 19 hR ?_
  refine G.rp 2 fun R hR=>?_
  refine D.lookupL keyS (.head _) rfl rfl rfl rfl rfl rfl rfl rfl kr_ rfl (look_at (o.take k) s) rfl rfl ?_
  refine D.q8 5 0 5 6 7 9 17 18 19 hR ?_
  refine G.z8 1 0 5 6 7 17 18 19 30 ?_
  refine G.cd (fun h30=>?_) fun h30=>?_
  ·have h38':s∈o.take k:=by simpa using h30
   have hno:ordB l o=false:=by
    unfold ordB
    have hn:¬ o.Nodup:=fun hn=>by
     have h2:=hn.sublist (List.take_sublist (k+1) o)
     rw [htk,List.nodup_append] at h2
     exact h2.2.2 s h38' s (by simp) rfl
    simp [hn]
   refine G.z1 1 4 ?_
   refine G.rf ?_
   exact ⟨by rw [hno],rfl⟩
  ·have h38':s ∉ o.take k:=by simpa using h30
   have hset:=mset_atM (i:=0) h38'
   rw [<- htk,List.length_take,Nat.min_eq_left om_,Nat.zero_add] at hset
   refine G.rp 3 fun R hR=>?_
   refine D.mapUpdate keyS (j:=0) rfl rfl rfl rfl rfl rfl rfl rfl rfl rfl kr_ ?_
   refine D.e5 0 5 17 18 19 hR ?_
   refine G.rg fun R hR=>?_
   refine D.ax _ ?_
   refine D.q5 1 0 5 17 18 19 hR ?_
   refine G.bv (L':=[.obj b16 (cm keyS.enc (atM (o.take (k+1)) 0))]) (by rw [<- hset];rfl) ?_
   refine G.aB (m':=o.length-(k+1)) om_ mup (h_5 0 5 17 18 19) ⟨k+1,⟨by omega,by rw [htk];exact nodup_snoc hnd h38'⟩,rfl,rfl,rfl⟩
 ·have hkl:o.length<=k:=by
   have:¬ k<o.length:=by simpa using h20
   omega
  rw [List.take_of_length_le hkl] at hnd ⊢
  refine G.z5 3 0 5 35 36 37 ?_
  refine G.loop (fun fr C' L' μ=>∃ (k:Nat),(k<=l.length/\∀ j,j<k->keptB l o j=true)/\fr=[(0,[],.slice A l.length c),(5,[],.map (some b16)),(35,[],.slice A l.length c),(36,[],.int .i64 l.length),(37,[],.int .i64 k)]/\L'=[.obj b16 (cm keyS.enc (atM o 0))]/\μ=l.length-k) (h_5 0 5 35 36 37) ⟨0,⟨Nat.zero_le _,fun j hj=>by omega⟩,rfl,rfl,rfl⟩ (fun fr C1' L1' m hle1 hI=>?_)
  obtain ⟨k,⟨hk2,hall⟩,rfl,rfl,rfl⟩:=hI
  refine G.z6 1 0 5 35 36 37 38 ?_
  refine G.cd (fun h38=>?_) fun h38=>?_
  ·have hkl2:k<l.length:=by simpa using h38
   have hrx:=(gR_at (l:=l) (i:=(k:Int)) om_ om_).2
   refine G.rp 1 fun R hR=>?_
   refine D.ai (hv.mono mup) rfl rfl rfl rfl rfl rfl rfl rfl rfl rfl om_ hrx fl_ (fun p40 hp40=>?_)
   refine D.aa hp40 ?_
   refine D.aj (fun b11=>?_)
   refine D.ae ?_
   refine D.ac (j:=0) ?_
   refine D.e7 0 5 10 11 35 36 37 hR ?_
   refine G.rp 2 fun R hR=>?_
   refine D.ag (.head _) ?_
   refine D.lookupL keyS (.tail _ (.head _)) rfl rfl rfl rfl rfl rfl rfl rfl kr_ rfl (look_at o (gR l k).upper) rfl rfl ?_
   refine D.q9 5 0 5 10 11 12 13 35 36 37 hR ?_
   refine G.rp 2 fun R hR=>?_
   refine D.ag (.head _) ?_
   refine D.lookupL keyS (.tail _ (.head _)) rfl rfl rfl rfl rfl rfl rfl rfl kr_ rfl (look_at o (gR l k).lower) rfl rfl ?_
   refine D.q10 5 0 5 10 12 13 14 15 35 36 37 hR ?_
   refine G.rp 5 fun R hR=>?_
   refine D.ar ?_
   refine D.ps 3 ?_
   refine D.aP (fun _=>(carc_fn _ _ l k (hv.mono mup))) ?_
   refine D.ps 4 ?_
   refine D.aC rfl rfl rfl rfl rfl rfl rfl rfl ?_
   refine D.ar ?_
   refine D.e6 0 5 35 36 37 71 hR ?_
   refine G.cd (fun h71=>?_) fun h71=>?_
   ·have hkp:keptB l o k=false:=by
     unfold keptB
     cases h1:decide ((gR l k).upper∈o) <;> cases h2:decide ((gR l k).lower∈o) <;> try rfl
     rw [h1,h2] at h71
     simp at h71
     simp [h71.1,h71.2]
    have hno:ordB l o=false:=by
     unfold ordB
     have:((List.range l.length).all (keptB l o))=false:=by
      rw [List.all_eq_false]
      exact ⟨k,List.mem_range.2 hkl2,by rw [hkp];decide⟩
     rw [this,Bool.and_false]
    refine G.z1 1 4 ?_
    refine G.rf ?_
    exact ⟨by rw [hno],rfl⟩
   ·have hkp:keptB l o k=true:=by
     unfold keptB
     cases h1:decide ((gR l k).upper∈o) <;> cases h2:decide ((gR l k).lower∈o) <;> rw [h1,h2] at h71 <;> first
      | (simp at h71;done)
      | skip
     simp at h71
     simp
     cases h3:arcB l k with
     | false=>exact .inl rfl
     | true=>exact .inr (by have:=h71 h3;omega)
    refine G.rg fun R hR=>?_
    refine D.ax _ ?_
    refine D.q5 1 0 5 35 36 37 hR ?_
    refine G.eH 0 rfl ?_
    refine G.aB (m':=l.length-(k+1)) om_ mup (h_5 0 5 35 36 37) ⟨k+1,⟨by omega,fun j hj=>by
     by_cases e:j=k
     ·rw [e];exact hkp
     ·exact hall j om_⟩,rfl,rfl,rfl⟩
  ·have hkl2:l.length<=k:=by
    have:¬ k<l.length:=by simpa using h38
    omega
   refine G.z1 1 4 ?_
   refine G.rf ?_
   refine ⟨?_,rfl⟩
   have h1:((List.range l.length).all (keptB l o))=true:=by
    rw [List.all_eq_true]
    exact fun j hj=>hall j (by have:=List.mem_range.1 hj;omega)
   unfold ordB
   rw [h1]
   simp [hnd]


def kl:List Rel:=[⟨1,[66],[65]⟩,⟨1,[67],[66]⟩,⟨1,[67],[65]⟩]
theorem kn1 (C:Mem):Gives cx.P 11 [strV [51,47,54]] C (.bool false):=by
 have h:=number_fn C [51,47,54] (by decide)
 rw [show (aK [51,47,54]).isSome=false by decide +kernel] at h
 exact h
theorem kn2 (C:Mem):Gives cx.P 11 [strV [45,51,47,50]] C (.bool true):=by
 have h:=number_fn C [45,51,47,50] (by decide)
 rw [show (aK [45,51,47,50]).isSome=true by decide +kernel] at h
 exact h
theorem ki1 (C:Mem)(v vb:Value)(hv:Sl C 3 v (kl.map Rel.enc))(hb:Sl C 1 vb (([0,1]:List Int).map encI)):Gives cx.P 12 [v,.int .i64 2,vb] C (.bool true):=by
 have h:=implied_fn C v vb kl 2 [0,1] hv hb
 rw [show impB kl 2 [0,1]=true by decide +kernel] at h
 exact h
theorem ki2 (C:Mem)(v vb:Value)(hv:Sl C 3 v (kl.map Rel.enc))(hb:Sl C 1 vb (([1,0]:List Int).map encI)):Gives cx.P 12 [v,.int .i64 2,vb] C (.bool false):=by
 have h:=implied_fn C v vb kl 2 [1,0] hv hb
 rw [show impB kl 2 [1,0]=false by decide +kernel] at h
 exact h
theorem ko1 (C:Mem)(v vo:Value)(hv:Sl C 3 v (kl.map Rel.enc))(ho:Sl C 1 vo (([[65],[66],[67]]:List Str).map encS)):Gives cx.P 13 [v,vo] C (.bool true):=by
 have h:=corder_fn C v vo kl [[65],[66],[67]] hv ho
 rw [show ordB kl [[65],[66],[67]]=true by decide +kernel] at h
 exact h
theorem ko2 (C:Mem)(v vo:Value)(hv:Sl C 3 v (kl.map Rel.enc))(ho:Sl C 1 vo (([[66],[65],[67]]:List Str).map encS)):Gives cx.P 13 [v,vo] C (.bool false):=by
 have h:=corder_fn C v vo kl [[66],[65],[67]] hv ho
 rw [show ordB kl [[66],[65],[67]]=false by decide +kernel] at h
 exact h
def kr:List (List Str × Str):=[([[45,49]],[45,49]),([[49]],[51])]
theorem kp1 (C:Mem)(hT:Tabs C)(v vo vp:Value)(A:Option Addr)(n c:Nat)(hv:RowsIn C v kr)(ho:Sl C 1 vo (([[49]]:List Str).map encS))(hp:Sl C 1 vp (([[49]]:List Str).map encS))(hd:Sl C 1 (.slice A n c) (([[49],[48]]:List Str).map encS)):Gives cx.P 14 [v,vo,vp,.agg ⟨[.slice A n c]⟩] C (.bool true):=by
 have h:=optimal_fn C hT v vo vp A n c kr [[49]] [[49]] [[49],[48]] hv ho hp hd (by decide) (by decide) (by decide) (by decide) (by decide) (by decide) (by decide) (by decide)
 rw [show optM kr [[49]] [[49]] [[49],[48]]=true by decide +kernel] at h
 exact h
theorem kp2 (C:Mem)(hT:Tabs C)(v vo vp:Value)(A:Option Addr)(n c:Nat)(hv:RowsIn C v kr)(ho:Sl C 1 vo (([[49]]:List Str).map encS))(hp:Sl C 1 vp (([[50]]:List Str).map encS))(hd:Sl C 1 (.slice A n c) (([[49],[48]]:List Str).map encS)):Gives cx.P 14 [v,vo,vp,.agg ⟨[.slice A n c]⟩] C (.bool false):=by
 have h:=optimal_fn C hT v vo vp A n c kr [[49]] [[50]] [[49],[48]] hv ho hp hd (by decide) (by decide) (by decide) (by decide) (by decide) (by decide) (by decide) (by decide)
 rw [show optM kr [[49]] [[50]] [[49],[48]]=false by decide +kernel] at h
 exact h
theorem known_fn (C:Mem)(hT:Tabs C):Gives cx.P 4 [] C (.bool true):=by
 refine Fn.it kr_ Tryz.func4 63 fun w0=>?_
 refine G.rp 1 fun R hR=>?_
 refine D.done [] trivial (hR _ _ _ rfl ?_)
 refine G.rg fun R hR=>?_
 refine D.build (Rel.mk 1 [66] [65]).enc rfl rfl rfl rfl rfl rfl rfl rfl ?_
 refine D.build (Rel.mk 1 [67] [66]).enc rfl rfl rfl rfl rfl rfl rfl rfl ?_
 refine D.build (Rel.mk 1 [67] [65]).enc rfl rfl rfl rfl rfl rfl rfl rfl ?_
 refine D.ah (kl.map Rel.enc) (fun p8 C8 hle8 hs8=>?_)
 refine D.q1 1 1 hR ?_
 refine G.rg fun R hR=>?_
 refine D.cD [[strV [45,49]]] rfl rfl rfl rfl rfl rfl rfl rfl rfl rfl rfl rfl fl_ (fun b9 C9 hle9 hs9=>?_)
 refine D.build (RV.mk (some ⟨b9,0,none⟩) 1 1 [45,49]).enc rfl rfl rfl rfl rfl rfl rfl rfl ?_
 refine D.cD [[strV [49]]] rfl rfl rfl rfl rfl rfl rfl rfl rfl rfl rfl rfl fl_ (fun b11 C11 hle11 hs11=>?_)
 refine D.build (RV.mk (some ⟨b11,0,none⟩) 1 1 [51]).enc rfl rfl rfl rfl rfl rfl rfl rfl ?_
 refine D.ah [(RV.mk (some ⟨b9,0,none⟩) 1 1 [45,49]).enc,(RV.mk (some ⟨b11,0,none⟩) 1 1 [51]).enc] (fun p13 C13 hle13 hs13=>?_)
 refine D.q2 1 1 2 hR ?_
 have hri:RowsIn C13 p13 kr:=by
  refine ⟨[⟨some ⟨b9,0,none⟩,1,1,[45,49]⟩,⟨some ⟨b11,0,none⟩,1,1,[51]⟩],hs13,rfl, ?_⟩
  intro i r row hr hw
  match i with
  | 0=>cases hr;cases hw;exact ⟨hs9.mono mup,rfl⟩
  | 1=>cases hr;cases hw;exact ⟨hs11.mono mup,rfl⟩
  | i+2=>simp at hr
 refine G.rg fun R hR=>?_
 refine D.ah [[strV [49]]] (fun p14 C14 hle14 hs14=>?_)
 refine D.q3 1 1 2 3 hR ?_
 refine G.rg fun R hR=>?_
 refine D.cD [[strV [49]],[strV [48]]] rfl rfl rfl rfl rfl rfl rfl rfl rfl rfl rfl rfl fl_ (fun b15 C15 hle15 hs15=>?_)
 refine D.build [.slice (some ⟨b15,0,none⟩) 2 2] rfl rfl rfl rfl rfl rfl rfl rfl ?_
 refine D.aj (fun b4=>?_)
 refine D.ac (j:=0) ?_
 refine D.e4 1 2 3 4 hR ?_
 refine G.rg fun R hR=>?_
 refine D.am (kn1 _) ?_
 refine D.ps 2 ?_
 refine D.aP (fun _=>(kn2 _)) ?_
 refine D.aC rfl rfl rfl rfl rfl rfl rfl rfl ?_
 refine D.ps 2 ?_
 refine D.bE [[.int .i64 0],[.int .i64 1]] rfl rfl rfl rfl rfl rfl rfl rfl rfl rfl rfl rfl fl_ rfl rfl (fun b24 C24 hle24 hs24=>?_)
 refine D.aP (fun _=>(ki1 _ _ _ (hs8.mono mup) ((hs24 ⟨rfl,trivial⟩).mono mup))) ?_
 refine D.aC rfl rfl rfl rfl rfl rfl rfl rfl ?_
 refine D.ps 2 ?_
 refine D.bE [[.int .i64 1],[.int .i64 0]] rfl rfl rfl rfl rfl rfl rfl rfl rfl rfl rfl rfl fl_ rfl rfl (fun b29 C29 hle29 hs29=>?_)
 refine D.aP (fun _=>(ki2 _ _ _ (hs8.mono mup) ((hs29 ⟨rfl,trivial⟩).mono mup))) ?_
 refine D.ae ?_
 refine D.aC rfl rfl rfl rfl rfl rfl rfl rfl ?_
 refine D.ps 2 ?_
 refine D.bE [[strV [65]],[strV [66]],[strV [67]]] rfl rfl rfl rfl rfl rfl rfl rfl rfl rfl rfl rfl fl_ rfl rfl (fun b35 C35 hle35 hs35=>?_)
 refine D.aP (fun _=>(ko1 _ _ _ (hs8.mono mup) ((hs35 ⟨rfl,trivial⟩).mono mup))) ?_
 refine D.aC rfl rfl rfl rfl rfl rfl rfl rfl ?_
 refine D.ps 2 ?_
 refine D.bE [[strV [66]],[strV [65]],[strV [67]]] rfl rfl rfl rfl rfl rfl rfl rfl rfl rfl rfl rfl fl_ rfl rfl (fun b40 C40 hle40 hs40=>?_)
 refine D.aP (fun _=>(ko2 _ _ _ (hs8.mono mup) ((hs40 ⟨rfl,trivial⟩).mono mup))) ?_
 refine D.ae ?_
 refine D.aC rfl rfl rfl rfl rfl rfl rfl rfl ?_
 refine D.ps 4 ?_
 refine D.ag (.head _) ?_
 refine D.aP (fun _=>(kp1 _ (hT.mono mup) _ _ _ _ _ _ (hri.mono mup) (hs14.mono mup) (hs14.mono mup) (hs15.mono mup))) ?_
 refine D.aC rfl rfl rfl rfl rfl rfl rfl rfl ?_
 refine D.ps 3 ?_
 refine D.bE [[strV [50]]] rfl rfl rfl rfl rfl rfl rfl rfl rfl rfl rfl rfl fl_ rfl rfl (fun b54 C54 hle54 hs54=>?_)
 refine D.ag (.head _) ?_
 refine D.aP (fun _=>(kp2 _ (hT.mono mup) _ _ _ _ _ _ (hri.mono mup) (hs14.mono mup) ((hs54 ⟨rfl,trivial⟩).mono mup) (hs15.mono mup))) ?_
 refine D.ae ?_
 refine D.aC rfl rfl rfl rfl rfl rfl rfl rfl ?_
 refine D.ae ?_
 refine D.build nil3 rfl rfl rfl rfl rfl rfl rfl rfl ?_
 refine D.aP (fun _=>(map0_fn _)) ?_
 refine D.aC rfl rfl rfl rfl rfl rfl rfl rfl ?_
 refine D.q1 1 0 hR ?_
 refine G.rf ?_
 exact ⟨rfl,rfl⟩
end Go.Proofs.YtjhmlnebikbdbaaGreatDoor
namespace Go.Jog
open Go
section
variable {cx:Cx} {n:Nat} {ds:List (Option Nat)} {R:Rg n ds} {its:List It} {fr:Fr} {C:Mem} {L:List Ent} {i k d:Nat} {o:Oper} {g:GL}
end
theorem cB (n:Nat):Lib.decDigits n=decS n:=by
 induction n using Nat.strongRecOn with
 | ind n ih =>
  rw [Lib.decDigits,decS]
  split
  ·rfl
  ·rw [ih (n / 10) om_]
def txt (z:Int):List UInt8:=if z<0 then 45::decS z.natAbs else decS z.natAbs
theorem itoa_txt (z:Int):Lib.itoa z=txt z:=by
 unfold Lib.itoa txt
 split
 ·rw [cB]
 ·rename_i h
  rw [cB]
  congr 1
  omega
end Go.Jog
namespace Go.Jog

abbrev B9:Nat:=1000000000
def val9:List Nat->Nat
 | []=>0
 | x::l=>x+B9*val9 l
def Dig9 (l:List Nat):Prop:=∀ x∈l,x<B9
def Can9 (l:List Nat):Prop:=Dig9 l/\l.getLast?≠some 0
theorem dr:∀ (a b:List Nat),val9 (a++b)=val9 a+B9 ^ a.length*val9 b
 | [],b=>by simp [val9]
 | x::a,b=>by
  simp only [List.cons_append,val9,dr a b,List.length_cons,Nat.pow_succ]
  rw [Nat.mul_add,<- Nat.mul_assoc,Nat.mul_comm (B9 ^ a.length) B9,Nat.add_assoc]
theorem val9_snoc (a:List Nat)(x:Nat):val9 (a++[x])=val9 a+B9 ^ a.length*x:=by
 rw [dr];simp [val9]
theorem val9_lt:∀ {l:List Nat},Dig9 l->val9 l<B9 ^ l.length
 | [],_=>by simp [val9]
 | x::l,h=>by
  have h1:=h x (by simp)
  have h2:=val9_lt (l:=l) (fun y hy=>h y (by simp [hy]))
  simp only [val9,List.length_cons,Nat.pow_succ]
  have h3:B9*(val9 l+1)<=B9*B9 ^ l.length:=Nat.mul_le_mul_left _ h2
  rw [Nat.mul_comm (B9 ^ l.length) B9]
  rw [Nat.mul_add] at h3
  omega
theorem val9_take {l:List Nat}{i x:Nat}(h:l[i]?=some x):val9 (l.take (i+1))=val9 (l.take i)+B9 ^ i*x:=by
 have hi:=(List.getElem?_eq_some_iff.1 h).1
 rw [List.take_add_one,h]
 simp only [Option.toList_some]
 rw [val9_snoc,List.length_take,Nat.min_eq_left om_]
theorem Dig9.take {l:List Nat}(h:Dig9 l)(i:Nat):Dig9 (l.take i):=fun x hx=>h x (List.mem_of_mem_take hx)
theorem Dig9.snoc {l:List Nat}(h:Dig9 l){x:Nat}(hx:x<B9):Dig9 (l++[x]):=fun y hy=>by
 rcases List.mem_append.1 hy with hy | hy
 ·exact h y hy
 ·rw [List.mem_singleton.1 hy];exact hx
theorem val9_zeros:∀ {l:List Nat},(∀ x∈l,x=0)->val9 l=0
 | [],_=>rfl
 | x::l,h=>by
  rw [val9,h x (by simp),val9_zeros (fun y hy=>h y (by simp [hy]))];rfl
def cutN9 (l:List Nat):Nat->Nat
 | 0=>0
 | k+1=>if l[k]?=some 0 then cutN9 l k else k+1
def cut9 (l:List Nat):List Nat:=l.take (cutN9 l l.length)
theorem cutN9_last (l:List Nat):∀ k,k<=l.length->(l.take (cutN9 l k)).getLast?≠some 0/\val9 (l.take (cutN9 l k))=val9 (l.take k)
 | 0,_=>by simp [cutN9]
 | k+1,hk=>by
  rw [cutN9]
  obtain ⟨x,hx⟩:∃ x,l[k]?=some x:=⟨l[k],List.getElem?_eq_getElem om_⟩
  split
  ·rename_i h
   obtain ⟨h1,h2⟩:=cutN9_last l k om_
   refine ⟨h1, ?_⟩
   rw [h2,val9_take h];simp
  ·rename_i h
   refine ⟨?_,rfl⟩
   rw [List.take_add_one,hx]
   simp only [Option.toList_some,List.getLast?_append,List.getLast?_singleton]
   intro e
   rw [hx] at h
   simp at e
   exact h (by rw [e])
theorem ep (l:List Nat):val9 (cut9 l)=val9 l:=by
 have:=(cutN9_last l l.length (Nat.le_refl _)).2
 rw [List.take_length] at this;exact this
theorem er {l:List Nat}(h:Dig9 l):Can9 (cut9 l):=⟨h.take _,(cutN9_last l l.length (Nat.le_refl _)).1⟩
theorem can9_low {l:List Nat}(h:Can9 l)(hl:0<l.length):B9 ^ (l.length-1)<=val9 l:=by
 obtain ⟨x,hx⟩:∃ x,l[l.length-1]?=some x:=⟨l[l.length-1]'om_,List.getElem?_eq_getElem om_⟩
 have h1:=val9_take hx
 rw [show l.length-1+1=l.length by omega,List.take_length] at h1
 have hx0:x≠0:=fun e=>h.2 (by rw [List.getLast?_eq_getElem?,hx,e])
 rw [h1]
 have:B9 ^ (l.length-1)*1<=B9 ^ (l.length-1)*x:=Nat.mul_le_mul_left _ om_
 omega
theorem can9_nil {l:List Nat}(h:Can9 l):val9 l=0 ↔ l=[]:=by
 constructor
 ·intro e
  apply Classical.byContradiction
  intro hn
  have:=can9_low h (List.length_pos_iff.2 hn)
  rw [e] at this
  have hp:0<B9 ^ (l.length-1):=Nat.pow_pos (by decide)
  omega
 ·rintro rfl;rfl
theorem len9_lt {a b:List Nat}(ha:Dig9 a)(hb:Can9 b)(h:a.length<b.length):val9 a<val9 b:=by
 have h1:=val9_lt ha
 have h2:=can9_low hb om_
 have h3:B9 ^ a.length<=B9 ^ (b.length-1):=Nat.pow_le_pow_right (by decide) om_
 omega
theorem at9_lt {a b:List Nat}{i x y:Nat}(ha:Dig9 a)(hl:a.length=b.length)(hx:a[i]?=some x)(hy:b[i]?=some y)(hxy:x<y)(he:a.drop (i+1)=b.drop (i+1)):val9 a<val9 b:=by
 have e1:val9 a=val9 (a.take (i+1))+B9 ^ (i+1)*val9 (a.drop (i+1)):=by
  have hi:=(List.getElem?_eq_some_iff.1 hx).1
  conv=>lhs;rw [<- List.take_append_drop (i+1) a]
  rw [dr,List.length_take,Nat.min_eq_left om_]
 have e2:val9 b=val9 (b.take (i+1))+B9 ^ (i+1)*val9 (b.drop (i+1)):=by
  have hi:=(List.getElem?_eq_some_iff.1 hy).1
  conv=>lhs;rw [<- List.take_append_drop (i+1) b]
  rw [dr,List.length_take,Nat.min_eq_left om_]
 rw [e1,e2,he,val9_take hx,val9_take hy]
 have h1:=val9_lt (ha.take i)
 have h2:(a.take i).length<=i:=by rw [List.length_take];omega
 have h3:B9 ^ (a.take i).length<=B9 ^ i:=Nat.pow_le_pow_right (by decide) h2
 have h4:B9 ^ i*(x+1)<=B9 ^ i*y:=Nat.mul_le_mul_left _ hxy
 rw [Nat.mul_add] at h4
 omega
def g9 (l:List Nat)(i:Nat):Nat:=l.getD i 0
theorem g9_lt {l:List Nat}(h:Dig9 l)(i:Nat):g9 l i<B9:=by
 unfold g9
 rw [List.getD_eq_getElem?_getD]
 cases hx:l[i]? with
 | none=>decide
 | some x=>exact h x (List.mem_of_getElem? hx)
theorem g9_some {l:List Nat}{i x:Nat}(h:l[i]?=some x):g9 l i=x:=by unfold g9;rw [List.getD_eq_getElem?_getD,h];rfl
theorem pow_B9 (j:Nat):10 ^ (9*j)=B9 ^ j:=by rw [Nat.pow_mul]
theorem take9_step {s:List UInt8}{out:List Nat}{e lo j:Nat}(he:e+9*j=s.length)(hl:out.length=j)(hlo:lo<=e)(h:val9 out=decV (s.drop e)) :
  val9 (out++[decV (cutS s lo e)])=decV (s.drop lo):=by
 rw [val9_snoc,hl,h]
 have e1:s.drop lo=cutS s lo e++s.drop e:=by
  unfold cutS
  have:s.drop lo=(s.take e++s.drop e).drop lo:=by rw [List.take_append_drop]
  rw [this,List.drop_append_of_le_length (by rw [List.length_take];omega)]
 rw [e1,cN,List.length_drop,show s.length-e=9*j by omega,pow_B9,Nat.mul_comm,Nat.add_comm]
theorem cutS9_lt {s:List UInt8}{lo e:Nat}(hs:∀ c∈s,digB c=true)(h:e<=lo+9):decV (cutS s lo e)<B9:=by
 have h1:∀ c∈cutS s lo e,digB c=true:=fun c hc=>hs c (List.mem_of_mem_take (List.mem_of_mem_drop hc))
 have h2:=cA h1
 have h3:(cutS s lo e).length<=9:=by
  unfold cutS
  rw [List.length_drop,List.length_take];omega
 have h4:10 ^ (cutS s lo e).length<=10 ^ 9:=Nat.pow_le_pow_right (by decide) h3
 have h5:(10:Nat) ^ 9=B9:=rfl
 omega
theorem give9_step {p:List Nat}{s:List UInt8}{i x:Nat}(hd:Dig9 p)(hx:p[i]?=some x)(h:CanS s)(hv:decV s=val9 (p.drop (i+1)))(h0:0<decV s) :
  CanS (s++padS 9 x)/\decV (s++padS 9 x)=val9 (p.drop i)/\0<decV (s++padS 9 x):=by
 have hxl:=hd x (List.mem_of_getElem? hx)
 obtain ⟨h1,h2,h3⟩:=padS_ok 9 x hxl
 have hi:=List.getElem?_eq_some_iff.1 hx
 have e:val9 (p.drop i)=x+B9*val9 (p.drop (i+1)):=by rw [List.drop_eq_getElem_cons hi.1,hi.2];rfl
 have hv2:decV (s++padS 9 x)=val9 (p.drop i):=by
  rw [cN,h1,h3,hv,e,Nat.add_comm,Nat.mul_comm]
 refine ⟨⟨fun c hc=>?_, ?_,fun he=>?_⟩,hv2, ?_⟩
 ·rcases List.mem_append.1 hc with hc | hc
  ·exact h.1 c hc
  ·exact h2 c hc
 ·intro e;exact h.2.1 (List.append_eq_nil_iff.1 e).1
 ·exfalso
  rw [head_app h.2.1] at he
  have h5:=h.2.2 he
  match hs:s,h.2.1 with
  | [c],_ =>
   simp at he
   subst he
   have:decV ([48]:List UInt8)=0:=rfl
   omega
  | c::d::s,_=>simp at h5
 ·rw [cN]
  have:0<decV s*10 ^ (padS 9 x).length:=Nat.mul_pos h0 (Nat.pow_pos (by decide))
  omega
theorem val9_tk (l:List Nat)(i:Nat):val9 (l.take (i+1))=val9 (l.take i)+B9 ^ i*g9 l i:=by
 cases hx:l[i]? with
 | none =>
  have hi:l.length<=i:=List.getElem?_eq_none_iff.1 hx
  have:g9 l i=0:=by unfold g9;rw [List.getD_eq_getElem?_getD,hx];rfl
  rw [this,List.take_of_length_le om_,List.take_of_length_le hi];simp
 | some x=>rw [val9_take hx,g9_some hx]
theorem mul9_dm (P s c B t:Nat)(h:s+B*c=t):P*s+P*B*c=P*t:=by
 rw [<- h,Nat.mul_add,Nat.mul_assoc]
theorem add9_step {a b out:List Nat}{c i:Nat}(hl:out.length=i)(h:val9 out+B9 ^ i*c=val9 (a.take i)+val9 (b.take i)) :
  val9 (out++[(g9 a i+g9 b i+c) % B9])+B9 ^ (i+1)*((g9 a i+g9 b i+c) / B9)=val9 (a.take (i+1))+val9 (b.take (i+1)):=by
 rw [val9_snoc,hl,val9_tk,val9_tk,Nat.pow_succ]
 have h1:=mul9_dm (B9 ^ i) _ _ B9 _ (Nat.mod_add_div (g9 a i+g9 b i+c) B9)
 rw [Nat.mul_add,Nat.mul_add] at h1
 omega
def bor9 (x y c:Nat):Nat:=if x<y+c then 1 else 0
def dif9 (x y c:Nat):Nat:=x+B9*bor9 x y c-y-c
theorem sub9_step {a b out:List Nat}{c i:Nat}(hb:Dig9 b)(hc:c<=1)(hl:out.length=i)(h:val9 out+val9 (b.take i)=val9 (a.take i)+B9 ^ i*c) :
  val9 (out++[dif9 (g9 a i) (g9 b i) c])+val9 (b.take (i+1))=val9 (a.take (i+1))+B9 ^ (i+1)*bor9 (g9 a i) (g9 b i) c:=by
 have hy:=g9_lt hb i
 have h0:dif9 (g9 a i) (g9 b i) c+(g9 b i+c)=g9 a i+B9*bor9 (g9 a i) (g9 b i) c:=by
  unfold dif9 bor9
  split <;> omega
 rw [val9_snoc,hl,val9_tk,val9_tk,Nat.pow_succ]
 have h1:B9 ^ i*dif9 (g9 a i) (g9 b i) c+(B9 ^ i*g9 b i+B9 ^ i*c)=B9 ^ i*g9 a i+B9 ^ i*B9*bor9 (g9 a i) (g9 b i) c:=by
  rw [<- Nat.mul_add,<- Nat.mul_add,h0,Nat.mul_add,Nat.mul_assoc]
 omega
theorem bor9_le (x y c:Nat):bor9 x y c<=1:=by unfold bor9;split <;> omega
theorem dif9_lt {x y c:Nat}(hx:x<B9)(hy:y<B9)(hc:c<=1):dif9 x y c<B9:=by unfold dif9 bor9;split <;> omega
theorem carry9_le {x y c:Nat}(hx:x<B9)(hy:y<B9)(hc:c<=1):(x+y+c) / B9<=1:=by
 have:x+y+c<2*B9:=by omega
 exact Nat.le_of_lt_succ ((Nat.div_lt_iff_lt_mul (by decide)).2 this)
theorem val9_set:∀ {l:List Nat}{i x z:Nat},l[i]?=some x->val9 (l.set i z)+B9 ^ i*x=val9 l+B9 ^ i*z
 | [],_,_,_,h=>by simp at h
 | y::l,0,x,z,h=>by
  simp at h;subst h
  simp only [List.set_cons_zero,val9,Nat.pow_zero,Nat.one_mul];omega
 | y::l,i+1,x,z,h=>by
  have ih:=val9_set (l:=l) (i:=i) (x:=x) (z:=z) (by simpa using h)
  simp only [List.set_cons_succ,val9,Nat.pow_succ]
  have h1:B9*val9 (l.set i z)+B9*(B9 ^ i*x)=B9*val9 l+B9*(B9 ^ i*z):=by rw [<- Nat.mul_add,ih,Nat.mul_add]
  rw [Nat.mul_comm (B9 ^ i) B9,Nat.mul_assoc,Nat.mul_assoc]
  omega
theorem Dig9.set {l:List Nat}(h:Dig9 l){i z:Nat}(hz:z<B9):Dig9 (l.set i z):=fun x hx=>by
 rcases List.mem_or_eq_of_mem_set hx with h1 | h1
 ·exact h x h1
 ·rw [h1];exact hz
theorem mul9_step {out b:List Nat}{V T c x i k:Nat}{o:Nat}(ho:out[i+k]?=some o)(hT:T=val9 (b.take k))(h:val9 out+B9 ^ (i+k)*c=V+B9 ^ i*(x*T)) :
  val9 (out.set (i+k) ((c+x*g9 b k+o) % B9))+B9 ^ (i+(k+1))*((c+x*g9 b k+o) / B9)=V+B9 ^ i*(x*val9 (b.take (k+1))):=by
 have h1:=val9_set (z:=(c+x*g9 b k+o) % B9) ho
 rw [val9_tk,<- hT,show i+(k+1)=i+k+1 by omega,Nat.pow_succ]
 have h2:=mul9_dm (B9 ^ (i+k)) _ _ B9 _ (Nat.mod_add_div (c+x*g9 b k+o) B9)
 rw [Nat.mul_add,Nat.mul_add] at h2
 have h3:B9 ^ i*(x*(T+B9 ^ k*g9 b k))=B9 ^ i*(x*T)+B9 ^ (i+k)*(x*g9 b k):=by
  rw [Nat.mul_add,Nat.mul_add,Nat.pow_add]
  congr 1
  rw [Nat.mul_left_comm x,Nat.mul_assoc]
 omega
theorem mul9_bound {c x y o:Nat}(hc:c<B9)(hx:x<B9)(hy:y<B9)(ho:o<B9):c+x*y+o<B9*B9:=by
 have h1:x*y<=(B9-1)*(B9-1):=Nat.mul_le_mul om_ om_
 have h2:(B9-1)*(B9-1)=999999998000000001:=by decide
 have h3:B9*B9=1000000000000000000:=by decide
 have hB:B9=1000000000:=rfl
 omega
theorem carry9_lt {c x y o:Nat}(hc:c<B9)(hx:x<B9)(hy:y<B9)(ho:o<B9):(c+x*y+o) / B9<B9:=(Nat.div_lt_iff_lt_mul (by decide)).2 (mul9_bound hc hx hy ho)
end Go.Jog
namespace Go.Jog
open Go Go.Proofs Go.Shelf

theorem St.bytesW {C:Mem}{w:World}(hw:Sep C [] w)(e:TypeId)(s:ByteArray):St w C [] C [] (Lib.bytesWorld w e s):=by
 refine ((St.start hw).fresh (ob:=_) ⟨?_, ?_, ?_,Lib.bytesWorld_size w e s,fun k hk=>Lib.bytesWorld_at_old w e s k hk,Lib.bytesWorld_at_new w e s, ?_⟩).drop
 ·unfold Lib.bytesWorld World.freeze;split <;> rfl
 ·unfold Lib.bytesWorld World.freeze;split <;> rfl
 ·unfold Lib.bytesWorld World.freeze;split <;> rfl
 ·unfold Lib.bytesWorld World.freeze;split <;> exact Nat.le_succ _
theorem decFrom_dec:∀ (s:List UInt8)(a:Nat),(∀ c∈s,digB c=true)->Lib.decFrom a s=some (s.foldl decF a)
 | [],a,_=>rfl
 | c::s,a,h=>by
  have h1:=h c (by simp)
  simp only [digB,decide_eq_true_eq] at h1
  simp only [Lib.decFrom,Lib.digitVal,if_pos h1,List.foldl_cons]
  rw [decFrom_dec s _ (fun d hd=>h d (by simp [hd]))]
  simp only [decF]
  rw [Nat.mul_comm 10 a]
theorem decNat_dec {s:List UInt8}(h:∀ c∈s,digB c=true)(hn:s≠[]):Lib.decNat s=some (decV s):=by
 unfold Lib.decNat
 cases s with
 | nil=>exact absurd rfl hn
 | cons c s=>simp only [List.isEmpty_cons,Bool.false_eq_true,if_false];exact decFrom_dec _ 0 h
theorem dig_not {c:UInt8}(h:digB c=true):(c == 45)=false/\(c == 43)=false:=by
 simp only [digB,decide_eq_true_eq] at h
 constructor <;> (rw [beq_eq_false_iff_ne];rintro rfl;revert h;decide)
theorem atoi_digs {s:List UInt8}(h:∀ c∈s,digB c=true)(hn:s≠[]):Lib.atoi s=some (decV s:Nat):=by
 cases s with
 | nil=>exact absurd rfl hn
 | cons c s =>
  obtain ⟨h1,h2⟩:=dig_not (h c (by simp))
  simp only [Lib.atoi,h1,h2,Bool.false_eq_true,if_false,decNat_dec h hn]
  rfl
theorem atoi_txt (z:Int):Lib.atoi (txt z)=some z:=by
 obtain ⟨h1,h2⟩:=aV z.natAbs
 unfold txt
 split
 ·rename_i hz
  simp only [Lib.atoi,beq_self_eq_true,if_true,decNat_dec h1.1 h1.2.1,h2]
  show some (-(z.natAbs:Int))=some z
  congr 1;omega
 ·rename_i hz
  rw [atoi_digs h1.1 h1.2.1,h2]
  show some ((z.natAbs:Int))=some z
  congr 1;omega
theorem parseM_dec (M:Nat)(hM:999999999999999999<=M):∀ (s:List UInt8)(a k:Nat),(∀ c∈s,digB c=true)->a<10 ^ k->k+s.length<=18->Lib.parseUintM M a s=.ok (s.foldl decF a)
 | [],a,k,_,_,_=>rfl
 | c::s,a,k,h,ha,hl=>by
  have h1:=h c (by simp)
  simp only [digB,decide_eq_true_eq] at h1
  have hk:10 ^ (k+1)<=10 ^ 18:=Nat.pow_le_pow_right (by decide) (by simp at hl;omega)
  have hk2:10 ^ k<=10 ^ 17:=Nat.pow_le_pow_right (by decide) (by simp at hl;omega)
  have e18:(10:Nat) ^ 18=1000000000000000000:=by decide
  have e17:(10:Nat) ^ 17=100000000000000000:=by decide
  rw [Nat.pow_succ] at hk
  simp only [Lib.parseUintM,if_pos h1]
  rw [if_neg om_,if_neg om_,parseM_dec M hM s (a*10+(c.toNat-48)) (k+1) (fun d hd=>h d (by simp [hd])) (by rw [Nat.pow_succ];omega) (by simp at hl;omega)]
  simp only [List.foldl_cons,decF]
  rw [Nat.mul_comm 10 a]
section
variable {P:Program} {ρ:Ren}
theorem parseU_fn (L:Lays.n287 P ρ)(s:List UInt8)(hd:∀ c∈s,digB c=true)(h0:s≠[])(hl:s.length<=18)(C:Mem)(hen:Enters P (ρ.f 287)=true) :
  Gives P (ρ.f 287) [strV s,.int .i64 10,.int .i64 64] C (.tuple #[.int .u64 (decV s),.nilIface]) :=
 ⟨hen,fun w hw=>(Any.internal_strconv_ParseUint_10_at64 L ⟨s.toArray⟩ (by simp [ByteArray.size];omega) w).mono fun e w' ⟨h2,h3⟩=>by
  have hp:Lib.parseUintB 64 (⟨s.toArray⟩:ByteArray).data.toList=.ok (decV s):=by
   unfold Lib.parseUintB
   rw [if_neg h0]
   exact parseM_dec _ (by decide) s 0 0 hd (by decide) om_
  rw [hp] at h2
  rcases h3 with h3 | h3
  ·subst h3;exact ⟨_,C,[],h2,St.start hw,rfl,rfl⟩
  ·subst h3;exact ⟨_,C,[],h2,St.bytesW hw _ _,rfl,rfl⟩⟩
theorem atoi_fn (L:Lays.n172 P ρ)(z:Int)(hl:(txt z).length<=18)(C:Mem)(hen:Enters P (ρ.f 172)=true):Gives P (ρ.f 172) [strV (txt z)] C (.tuple #[.int .i64 z,.nilIface]) :=
 ⟨hen,fun w hw=>(Any.strconv_Atoi L ⟨(txt z).toArray⟩ z (by simpa [ByteArray.size] using hl) (atoi_txt z) w).mono fun e w' ⟨h2,t,h3⟩=>by
  subst h3;exact ⟨_,C,[],h2,St.bytesW hw _ _,rfl,rfl⟩⟩
theorem scompare_fn (L:Lays.n106 P ρ)(a b:List UInt8)(C:Mem)(hen:Enters P (ρ.f 106)=true):Gives P (ρ.f 106) [strV a,strV b] C (.int .i64 (Lib.compareBytes a b)) :=
 Gives.ofCalls hen (fun w=>Any.strings_Compare L ⟨a.toArray⟩ ⟨b.toArray⟩ w) C
end
end Go.Jog
namespace Go.Jog
open Go Go.Proofs Go.Shelf

theorem run_append_string_at {P:Program}(w:World)(t u ty e:TypeId)(i:TypeInfo)(ht:P.underlying t=some (.slice e))(hu:P.underlying u=some .string)(hi:P.info? e=some i)(hz:i.zero=some (.int .u8 0))
  (hsize:i.size=1) (hby:i.bytes=1) (v:Value) (n:Nat) (xs:List Value) (hown:w.ownsRow 0 e 1 v n xs) (s:ByteArray) (h63:n+s.size<=maxLen) (hbytes:n+s.size<=140737488355328) :
  ∃ v' w',(Builtin.append_ #[t,u] ty #[v,.string s]).run P w=.ok v' w'/\w'.ownsRow 0 e 1 v' (n+s.size) (xs++Lib.strCells s)/\w.grownBy w' v.ownBlock /\
   (v'.ownBlock=v.ownBlock∨v'.ownBlock=some w.heap.size∨v'.ownBlock=none):=by
 obtain ⟨v',w',h1,h2,h3,h4⟩:=Lib.run_append_own_string (P:=P) w 0 t u ty e i ht hu hi hz hsize hby v n xs hown s h63 hbytes (Nat.zero_le _)
 refine ⟨v',w',h1,h2,h3, ?_⟩
 have hxl:xs.length=n:=by simpa using hown.1
 have hsmall:n+s.size<=9223372036854775807:=by simp only [maxLen] at h63;omega
 rcases hown.2 with ⟨rfl,rfl⟩ | ⟨g,cap,cur,rfl,hbg,hg,hnc,hcm,hcs,htake⟩
 ·by_cases hm:s.size=0
  ·rw [h4.2 ⟨rfl,hm⟩];exact .inr (.inr rfl)
  ·have hr:=run_append_nil_string (P:=P) w t u ty e i (.int .u8 0) ht hu hi hz s om_ om_ (by rw [hby];omega)
   rw [hr] at h1
   injection h1 with h1 _
   subst h1
   exact .inr (.inl rfl)
 ·by_cases hroom:n+s.size<=cap
  ·have hcs':cur.size=cap:=by simpa using hcs
   have hr:=Lib.run_append_room_string (P:=P) w t u ty e i ht hu hi hsize g n cap cur hg s hroom om_
   rw [hr] at h1
   injection h1 with h1 _
   subst h1
   exact .inl rfl
  ·have holds:∀ j u,xs[j]?=some u->w.cell? ((⟨g,0,none⟩:Addr).add j)=some u:=hown.cells (g:=g) rfl
   have hr:=Lib.run_append_grow_string (P:=P) w t u ty e i (.int .u8 0) ht hu hi hz ⟨g,0,none⟩ n cap xs (by rw [hsize];simpa using hxl) holds s om_ om_ (by rw [hby];exact growslice_fits om_ om_)
   rw [hr] at h1
   injection h1 with h1 _
   subst h1
   exact .inr (.inl rfl)

section
variable {cx:Cx} {n:Nat} {ds:List (Option Nat)} {R:Rg n ds} {its:List It} {fr:Fr} {C:Mem} {L:List Ent} {i k d:Nat} {o:Oper} {g:GL} {v:Value}

theorem D.appendStr {t u e j m:Nat}{x y:Operand}{ti tu te:TI}{v0:Value}{xs:List Value}{s:List UInt8}(hk:k=3)(hd:o.dst=some d)(hg:gOn ds fr o.guard=true)
  (hop:o.op=.call ⟨.builtin .append,#[x,y],#[t,u]⟩) (ht:cx.T.get t=some ti) (hte:ti.k=.slice e) (hut:cx.T.get u=some tu) (huk:tu.k=.str) (he:cx.T.get e=some te) (hz:te.zv=.int .u8 0) (hs1:te.size=1) (hb1:te.bytes=1)
  (hx:ev fr [] x=some v0) (hy:ev fr [] y=some (strV s)) (hm:L[j]?=some (.arr v0 e 1 m xs))
  (hbytes:m+s.length<=140737488355328) (hp:∀ v,aH n ds ((d,[],v)::fr) d=true)
  (h:∀ A n c,D cx R its ((d,[],.slice A n c)::fr) C (.arr (.slice A n c) e 1 (m+s.length) (xs++s.map fun b=>Value.int .u8 b.toNat)::L.eraseIdx j)):D cx R ((i,k,o)::its) fr C L:=by
 have hu:cx.P.underlying t=some (.slice e):=by
  obtain ⟨kk,s1,b1,z1,g1⟩:=ti
  simp only at hte
  subst hte
  exact bz cx.hT ht
 have hus:cx.P.underlying u=some .string:=by
  obtain ⟨kk,s1,b1,z1,g1⟩:=tu
  simp only at huk
  subst huk
  exact und_str cx.hT hut
 obtain ⟨inf,hi,hsize,hby,hz0,hzc⟩:=(bZ cx.hT he).info
 have hsz:(⟨s.toArray⟩:ByteArray).size=s.length:=by simp [ByteArray.size]
 refine D.eff (S:=fun v' C' L'=>(∃ A n c,v'=.slice A n c)/\C'=C/\L'=.arr v' e 1 (m+s.length) (xs++s.map fun b=>Value.int .u8 b.toNat)::L.eraseIdx j) (by subst hk;rfl) hd hg hp (fun a hs w _ hw=>?_) (fun v' C' L' _ ⟨⟨A,n',c,e0⟩,e1,e2⟩=>by subst e0;subst e1;subst e2;exact h A n' c)
 have hw':=St.perm hw (af hm)
 have hown:w.ownsRow 0 e 1 v0 m xs:=hw'.sep.e _ (List.mem_cons_self ..)
 obtain ⟨v',w',hr1,hr2,hr3,hr5⟩:=run_append_string_at (P:=cx.P) w t u o.type e inf hu hus hi (by rw [hz0,hz]) (by rw [hsize,hs1]) (by rw [hby,hb1]) v0 m xs hown ⟨s.toArray⟩ (by rw [hsz];simp [maxLen];omega) (by rw [hsz];exact hbytes)
 rw [hsz] at hr2
 have hr1':(Builtin.append_ #[t,u] o.type #[v0,strV s]).run cx.P w=.ok v' w':=hr1
 have hrun:(execOp a.eval o).run cx.P w=.ok (.value v') w':=by
  have e1:execOp a.eval o=(do let dd <- resolve a.eval ⟨.builtin .append,#[x,y],#[t,u]⟩ o.type;invoke dd.target dd.args:Sem Next):=by unfold execOp;rw [hop]
  rw [e1]
  simp only [resolve,invoke,builtin,Sem.run_bind,Sem.run_pure,Result.andThen_ok,List.map_toArray,List.map_cons,List.map_nil,hs _ _ hx,hs _ _ hy,hr1']
 unfold Oper.wp
 rw [hrun]
 have hform:∃ A n c,v'=.slice A n c:=by
  rcases hr2.2 with ⟨h1,_⟩ | ⟨g0,cap,cur,h1,_⟩
  ·exact ⟨_,_,_,h1⟩
  ·exact ⟨_,_,_,h1⟩
 exact ⟨v',C,_,rfl,Mem.le.refl _,fun h2=>by omega,St.turn hw' hr2 hr3 (aY _ hr1) hr5,hform,rfl,rfl⟩

theorem D.sliceData {t g0 m cap:Nat}{x:Operand}(hk:Nat.ble k 1=true)(hd:o.dst=some d)(hop:o.op=.call ⟨.builtin .unsafeSliceData,#[x],#[t]⟩)(hg:gOf ds fr o.guard=some g)(hx:ev fr g x=some (.slice (some ⟨g0,0,none⟩) m cap))(hc:cap≠0)
  (hp:aH n ds ((d,g,.pointer (some ⟨g0,0,none⟩))::fr) d=true) (hwf:wfG ds fr g=true)
  (hh:D cx R its ((d,g,.pointer (some ⟨g0,0,none⟩))::fr) C L):D cx R ((i,k,o)::its) fr C L:=by
 refine D.run _ hk hd hg (fun hG a hs w=>?_) hp hwf hh
 have e1:execOp a.eval o=(do let dd <- resolve a.eval ⟨.builtin .unsafeSliceData,#[x],#[t]⟩ o.type;invoke dd.target dd.args:Sem Next):=by unfold execOp;rw [hop]
 rw [e1]
 simp only [resolve,invoke,builtin,Sem.run_bind,Sem.run_pure,Result.andThen_ok,List.map_toArray,List.map_cons,List.map_nil,hs _ _ hx,Lib.run_unsafeSliceData_row _ _ _ _ _ _ hc]

theorem D.unsafeStr {t u e j g0 m cap:Nat}{x y:Operand}{s:List UInt8}(hk:k=3)(hd:o.dst=some d)(hg:gOn ds fr o.guard=true)
  (hop:o.op=.call ⟨.builtin .unsafeString,#[x,y],#[t,u]⟩) (hpt:cx.P.underlying t=some (.pointer e)) (hce:cx.P.cellsOf e=1)
  (hx:ev fr [] x=some (.pointer (some ⟨g0,0,none⟩))) (hy:ev fr [] y=some (.int .i64 s.length)) (hm:L[j]?=some (.arr (.slice (some ⟨g0,0,none⟩) m cap) e 1 s.length (s.map fun b=>Value.int .u8 b.toNat))) (h0:s≠[])
  (hlen:s.length<=140737488355328) (hp:∀ v,aH n ds ((d,[],v)::fr) d=true)
  (h:D cx R its ((d,[],strV s)::fr) C (L.eraseIdx j)):D cx R ((i,k,o)::its) fr C L:=by
 refine D.eff (S:=fun v' C' L'=>v'=strV s/\C'=C/\L'=L.eraseIdx j) (by subst hk;rfl) hd hg hp (fun a hs w _ hw=>?_) (fun v' C' L' _ ⟨e0,e1,e2⟩=>by subst e0;subst e1;subst e2;exact h)
 have hw':=St.perm hw (af hm)
 have hown:w.ownsRow 0 e 1 (.slice (some ⟨g0,0,none⟩) m cap) s.length (s.map fun b=>Value.int .u8 b.toNat):=hw'.sep.e _ (List.mem_cons_self ..)
 rcases hown.2 with ⟨hq,_⟩ | ⟨g1,cap1,cur,hq,hbg,hg1,hnc,hcm,hcs,htake⟩
 ·cases hq
 ·cases hq
  have hcs':cur.size=cap:=by simpa using hcs
  have hr:=Lib.run_unsafeString_row (P:=cx.P) w t u o.type e hpt hce g0 cur.size (by simp [World.shape?,hg1]) s h0 om_ om_ (fun j x hj=>hown.cells (g:=g0) rfl j _ (by rw [List.getElem?_map,hj];rfl))
  have hrun:(execOp a.eval o).run cx.P w=.ok (.value (strV s)) (w.freeze ⟨g0,0,none⟩ s.length):=by
   have e1:execOp a.eval o=(do let dd <- resolve a.eval ⟨.builtin .unsafeString,#[x,y],#[t,u]⟩ o.type;invoke dd.target dd.args:Sem Next):=by unfold execOp;rw [hop]
   rw [e1]
   simp only [resolve,invoke,builtin,Sem.run_bind,Sem.run_pure,Result.andThen_ok,List.map_toArray,List.map_cons,List.map_nil,hs _ _ hx,hs _ _ hy,hr]
   rfl
  unfold Oper.wp
  rw [hrun]
  have hlt:g0<w.heap.size:=bG hg1
  have hother:∀ k,k≠g0->(w.freeze ⟨g0,0,none⟩ s.length).heap[k]?=w.heap[k]?:=fun k hk=>by
   unfold World.freeze
   split <;> first | rfl | (simp only [Array.getElem?_modify];rw [if_neg (fun e=>hk e.symm)]) | (simp [Array.getElem?_setIfInBounds,Ne.symm hk])
  have hsz:(w.freeze ⟨g0,0,none⟩ s.length).heap.size=w.heap.size:=by
   unfold World.freeze
   split <;> simp
  obtain ⟨ob',hob'⟩:∃ ob',(w.freeze ⟨g0,0,none⟩ s.length).heap[g0]?=some ob':=⟨_,Array.getElem?_eq_getElem (by rw [hsz];exact hlt)⟩
  have hobj:St _ _ _ C (.obj g0 (.cells cur e (0,0))::L.eraseIdx j) w :=
   ⟨⟨hw'.sep.c,fun x hx=>by
    rcases List.mem_cons.1 hx with rfl | hx
    ·exact hg1
    ·exact hw'.sep.e x (by simp [hx]),by
    have:=List.pairwise_cons.1 hw'.sep.d
    exact List.pairwise_cons.2 ⟨fun y hy k hk=>this.1 y hy k (by simp only [Ent.own] at hk ⊢;simp [Value.ownBlock,hk]),this.2⟩,fun k ⟨x,hx,hk⟩=>by
    rcases List.mem_cons.1 hx with rfl | hx
    ·simp only [Ent.own] at hk
     exact hw'.sep.n k ⟨_,List.mem_cons_self ..,by simp [Ent.own,Value.ownBlock,hk]⟩
    ·exact hw'.sep.n k ⟨x,by simp [hx],hk⟩⟩,hw'.ev,hw'.c0,hw'.cn,fun k ⟨x,hx,hk⟩=>by
    rcases List.mem_cons.1 hx with rfl | hx
    ·simp only [Ent.own] at hk
     exact hw'.ln k ⟨_,List.mem_cons_self ..,by simp [Ent.own,Value.ownBlock,hk]⟩
    ·exact hw'.ln k ⟨x,by simp [hx],hk⟩⟩
  have hput:=hobj.put (w':=w.freeze ⟨g0,0,none⟩ s.length) (o':=ob') hob' hother hsz (by unfold World.freeze;split <;> rfl) (by unfold World.freeze;split <;> rfl) (by unfold World.freeze;split <;> rfl) (by unfold World.freeze;split <;> exact Nat.le_refl _)
  exact ⟨strV s,C,_,rfl,Mem.le.refl _,fun h2=>by omega,hput.drop,rfl,rfl,rfl⟩
end
end Go.Jog
namespace Go.Jog
open Go Go.Proofs Go.Shelf Go.Sort

section
variable {P:Program} {ρ:Ren}
theorem format10_fn (L:Lays.n285 P ρ)(b cap u t:Nat)(cs:List Value)(hu64:u<18446744073709551616)(hz:∀ j,j<Lib.nDigits u->cs[j]?=some (.int .u8 0))(hsz:Lib.nDigits u<4611686018427387904)(C:Mem)(hen:Enters P (ρ.f 285)=true) :
  Fn P (ρ.f 285) [.slice (some ⟨b,0,none⟩) (Lib.nDigits u) cap,.int .u64 u] C [.obj b (.cells ⟨cs⟩ t (0,0))] fun r C' L'=>r=.tuple #[]/\C'=C/\∃ cs',L'=[.obj b (.cells ⟨cs'⟩ t (0,0))]/\cs'.length=cs.length/\∀ (j:Nat) x,(decS u)[j]?=some x->cs'[j]?=some (.int .u8 x.toNat) :=
 ⟨hen,fun w hw=>by
  have hb:w.heap[b]?=some (.cells ⟨cs⟩ t (0,0)):=hw.e _ (List.mem_cons_self ..)
  have hH:Holds (fun (b:UInt8)=>Value.int .u8 (b.toNat:Int)) w b 0 (Array.replicate (Lib.nDigits u) (0:UInt8)):=fun j hj=>by
   have hj':j<Lib.nDigits u:=by simpa using hj
   constructor
   ·simp [World.cell?,hb,hz j hj',hj']
   ·simp [World.frozen?,hb]
  have hfmt:=Any.internal_strconv_formatBase10 L b 0 cap u (Array.replicate (Lib.nDigits u) 0) w hH (by rw [Array.size_replicate];exact Lib.lt_pow_nDigits u) hu64 (by rw [Array.size_replicate];exact hsz)
  rw [Array.size_replicate] at hfmt
  refine hfmt.mono ?_
  rintro e w' ⟨h1,q,v',dk,h2,hF⟩
  subst h2
  have hheap:((putRow (fun (b:UInt8)=>Value.int .u8 (b.toNat:Int)) w b 0 dk).drewN q).heap[b]?=some (.cells ⟨(putCells (fun (b:UInt8)=>Value.int .u8 (b.toNat:Int)) 0 dk ⟨cs⟩).toList⟩ t (0,0)):=by
   simp [putRow,mapBlock,onCells,Array.getElem?_modify,hb]
  refine ⟨_,C,_,h1, ?_,rfl,rfl,(putCells (fun (b:UInt8)=>Value.int .u8 (b.toNat:Int)) 0 dk ⟨cs⟩).toList,rfl, ?_,fun j x hx=>?_⟩
  ·exact (St.start hw).put hheap (fun k hk=>by simp [putRow,mapBlock,Array.getElem?_modify,Ne.symm hk]) (by simp [putRow,mapBlock]) rfl rfl rfl (Nat.le_add_right _ _)
  ·simp [putCells]
  ·rw [<- cB] at hx
   obtain ⟨hj,hx2⟩:=List.getElem?_eq_some_iff.1 hx
   have hr:=Lib.row_is_numeral hF j hj
   have hj2:j<Lib.nDigits u:=by rw [<- Lib.decDigits_length];exact hj
   have hjc:j<cs.length:=(List.getElem?_eq_some_iff.1 (hz j hj2)).1
   have hds:=hF.size
   simp only [putCells,Array.getElem?_toList,Array.getElem?_mapIdx]
   rw [show ((⟨cs⟩:Array Value)[j]?)=some cs[j] from by simp [hjc]]
   simp only [Option.map_some]
   rw [if_pos ⟨Nat.zero_le _,by omega⟩,Nat.sub_zero,<- hr,hx2]⟩
theorem numDigits_fn (L : LaysM.n284 P ρ) (u : Nat) (h1 : 1 <= u) (h2 : u < 18446744073709551616) (C : Mem) (hT : VarC P C "internal/strconv.uint64pow10" (Lib.pow10Tab.map fun z => Value.int .u64 z).toArray) (hen : Enters P (ρ.f 284) = true) :
  Gives P (ρ.f 284) [.int .u64 u] C (.int .i64 (Lib.nDigits u)) :=
 ⟨hen,fun w hw=>(Any.internal_strconv_numDigits L u h1 h2 w (hT.var hw)).mono fun e w' ⟨h3,h4⟩=>by
  subst h4
  exact ⟨_,C,[],h3,St.start hw,rfl,rfl⟩⟩
end
end Go.Jog
namespace Go.Jog
open Go

section
variable {cx:Cx} {n:Nat} {ds:List (Option Nat)} {R:Rg n ds} {its:List It} {fr:Fr} {C:Mem} {L:List Ent} {i k d:Nat} {o:Oper} {g:GL} {v:Value}

theorem D.ptrNil {t e ty:Nat}{x:Operand}{p:Option Addr}(hk:Nat.ble k 1=true)(hd:o.dst=some d)(hop:o.op=.binOp .eql t x (.const (.pointer none)) ty)(hg:gOf ds fr o.guard=some g)
  (hx:ev fr g x=some (.pointer p)) (hu:cx.P.underlying t=some (.pointer e)) (hu2:cx.P.pointee t=e)
  (hp:aH n ds ((d,g,.bool p.isNone)::fr) d=true) (hwf:wfG ds fr g=true)
  (h:D cx R its ((d,g,.bool p.isNone)::fr) C L):D cx R ((i,k,o)::its) fr C L:=by
 subst hu2
 refine D.run _ hk hd hg (fun _ a hs w=>?_) hp hwf h
 rw [ba hop (hs _ _ hx) rfl (fun _ _=>.inl (by simp)) (.inl (by simp)) w]
 simp only [Act.eval,run_eql_pointer_nil w t p hu,Result.andThen_ok]
theorem D.ptrNeSelf {t e ty:Nat}{x y:Operand}{a0:Addr}(hk:Nat.ble k 1=true)(hd:o.dst=some d)(hop:o.op=.binOp .neq t x y ty)(hg:gOf ds fr o.guard=some g)
  (hx:ev fr g x=some (.pointer (some a0))) (hy:ev fr g y=some (.pointer (some a0))) (hu:cx.P.underlying t=some (.pointer e)) (hi:(cx.P.info? e).isSome=true)
  (hp:aH n ds ((d,g,.bool false)::fr) d=true) (hwf:wfG ds fr g=true)
  (h:D cx R its ((d,g,.bool false)::fr) C L):D cx R ((i,k,o)::its) fr C L:=by
 obtain ⟨j,hj⟩:=Option.isSome_iff_exists.1 hi
 refine D.run _ hk hd hg (fun _ a hs w=>?_) hp hwf h
 rw [ba hop (hs _ _ hx) (hs _ _ hy) (fun _ _=>.inl (by simp)) (.inl (by simp)) w]
 simp only [Lib.run_neq_ptr_same w a0 hu hj,Result.andThen_ok]
theorem D.toUnsafe {src dst t e b:Nat}{x:Operand}{cs:List Value}{fz:Nat × Nat}(hk:k=2)(hd:o.dst=some d)(hop:o.op=.convert src dst x)(hg:gOn ds fr o.guard=true)(hx:ev fr [] x=some (.pointer (some ⟨b,0,none⟩)))
  (hm:Ent.obj b (.cells ⟨cs⟩ e fz)∈L) (hs:cx.P.underlying src=some (.pointer t)) (hdd:cx.P.underlying dst=some .unsafePointer) (ht:((cx.P.info? t).map fun i=>Nat.beq i.size 0)=some false) (hcs:0<cs.length)
  (hp:∀ v,aH n ds ((d,[],v)::fr) d=true)
  (h:D cx R its ((d,[],.pointer (some ⟨b,0,none⟩))::fr) C L):D cx R ((i,k,o)::its) fr C L:=by
 obtain ⟨j,hj,hjs⟩:=Option.map_eq_some_iff.1 ht
 refine D.eff (S:=fun v C' L'=>v=.pointer (some ⟨b,0,none⟩)/\C'=C/\L'=L) (by subst hk;rfl) hd hg hp (fun a hss w _ hw=>?_) (fun v' C' L' _ ⟨e0,e1,e2⟩=>by subst e0;subst e1;subst e2;exact h)
 have hb:w.heap[b]?=some (.cells ⟨cs⟩ e fz):=hw.sep.e _ hm
 have hr:=Lib.run_to_unsafe (P:=cx.P) w (src:=src) (dst:=dst) (e:=e) (cells:=cs.length) ⟨b,0,none⟩ hs hdd hj (fun e=>by rw [e] at hjs;cases hjs) (by simp [World.shape?,hb]) hcs
 have e1:execOp a.eval o=(do Pure.pure (.value (<- convert src dst (a.eval x))):Sem Next):=by unfold execOp;rw [hop]
 unfold Oper.wp
 rw [e1,hss _ _ hx]
 simp only [Sem.run_bind,hr,Result.andThen_ok,Sem.run_pure]
 exact ⟨_,C,L,rfl,Mem.le.refl _,fun _ _ h=>h,hw,rfl,rfl,rfl⟩
theorem D.fromUnsafe {src dst t e b:Nat}{x:Operand}{cs:List Value}{fz:Nat × Nat}(hk:k=2)(hd:o.dst=some d)(hop:o.op=.convert src dst x)(hg:gOn ds fr o.guard=true)(hx:ev fr [] x=some (.pointer (some ⟨b,0,none⟩)))
  (hm:Ent.obj b (.cells ⟨cs⟩ e fz)∈L) (hs:cx.P.underlying src=some .unsafePointer) (hdd:cx.P.underlying dst=some (.pointer t)) (ht:(cx.P.info? t).isSome=true) (hlies:liesAt cx.P cx.P.depth e (cs.length / cx.P.cellsOf e) 0 t 1=true)
  (hp:∀ v,aH n ds ((d,[],v)::fr) d=true)
  (h:D cx R its ((d,[],.pointer (some ⟨b,0,none⟩))::fr) C L):D cx R ((i,k,o)::its) fr C L:=by
 obtain ⟨j,hj⟩:=Option.isSome_iff_exists.1 ht
 refine D.eff (S:=fun v C' L'=>v=.pointer (some ⟨b,0,none⟩)/\C'=C/\L'=L) (by subst hk;rfl) hd hg hp (fun a hss w _ hw=>?_) (fun v' C' L' _ ⟨e0,e1,e2⟩=>by subst e0;subst e1;subst e2;exact h)
 have hb:w.heap[b]?=some (.cells ⟨cs⟩ e fz):=hw.sep.e _ hm
 have hr:=Lib.run_from_unsafe (P:=cx.P) w (src:=src) (dst:=dst) (e:=e) (cells:=cs.length) ⟨b,0,none⟩ hs hdd hj (by simp [World.shape?,hb]) hlies
 have e1:execOp a.eval o=(do Pure.pure (.value (<- convert src dst (a.eval x))):Sem Next):=by unfold execOp;rw [hop]
 unfold Oper.wp
 rw [e1,hss _ _ hx]
 simp only [Sem.run_bind,hr,Result.andThen_ok,Sem.run_pure]
 exact ⟨_,C,L,rfl,Mem.le.refl _,fun _ _ h=>h,hw,rfl,rfl,rfl⟩
theorem D.noEscape {f:FuncId}{fn:Func}{x:Operand}{ts:Array TypeId}{u:Value}(hk:Nat.ble k 1=false)(hd:o.dst=some d)(hop:o.op=.call ⟨.value (.func f),#[x],ts⟩)(hg:gOn ds fr o.guard=true)
  (hx : ev fr [] x = some u) (hf : cx.P.funcs[f]? = some fn) (hname : (fn.name == "runtime.NumGoroutine") = false) (hb : fn.body.isNone = true) (hn : Extern.findNext fn = none) (he : Extern.find fn = some Extern.AbiNoEscape.same)
  (hp:∀ v,aH n ds ((d,[],v)::fr) d=true)
  (h:D cx R its ((d,[],u)::fr) C L):D cx R ((i,k,o)::its) fr C L:=by
 refine D.eff (S:=fun v C' L'=>v=u/\C'=C/\L'=L) hk hd hg hp (fun a hs w _ hw=>?_) (fun v' C' L' _ ⟨e0,e1,e2⟩=>by subst e0;subst e1;subst e2;exact h)
 have e1:execOp a.eval o=(do let dd <- resolve a.eval ⟨.value (.func f),#[x],ts⟩ o.type;invoke dd.target dd.args:Sem Next):=by unfold execOp;rw [hop]
 have e2:a.eval (.func f)=.func (.func f) #[] #[]:=rfl
 unfold Oper.wp
 rw [e1]
 simp only [resolve,e2,Deferred.ofValue,Sem.run_bind,Sem.run_pure,Result.andThen_ok,invoke,List.map_toArray,List.map_cons,List.map_nil,hs _ _ hx]
 rw [run_callFunc_extern hf hname hb hn he]
 simp only [Array.empty_append,Array.append_empty,Lib.run_noEscape,Result.andThen_ok]
 exact ⟨_,C,L,rfl,Mem.le.refl _,fun _ _ h=>h,hw,rfl,rfl,rfl⟩
theorem run_eqGuard_nil {P:Program}{op:BinOp}{t:Nat}{x:Operand}(u:Value)(w:World)(hu:∀ a,u≠.agg a):(eqGuard op t x (.const .nilIface) u .nilIface).run P w=.ok () w:=by
 by_cases h:u=.nilIface
 ·subst h
  cases op <;> first | rfl | (unfold eqGuard;simp)
 ·exact cl w (fun a _=>.inl (hu a)) (.inl h)
theorem D.ifaceNil (b:Bool){op:BinOp}{t ty:Nat}{x:Operand}(hk:Nat.ble k 1=true)(hd:o.dst=some d)(hop:o.op=.binOp op t x (.const .nilIface) ty)(hg:gOf ds fr o.guard=some g)
  (hx:ev fr g x=some .nilIface) (hb:(op=.eql/\b=true)∨(op=.neq/\b=false)) (hu:cx.P.underlying t=some (.interface (cx.P.methodsAt t)))
  (hp:aH n ds ((d,g,.bool b)::fr) d=true) (hwf:wfG ds fr g=true)
  (h:D cx R its ((d,g,.bool b)::fr) C L):D cx R ((i,k,o)::its) fr C L:=by
 refine D.run _ hk hd hg (fun _ a hs w=>?_) hp hwf h
 rw [exec_binOp' hop,hs _ _ hx]
 have e:a.eval (.const .nilIface)=.nilIface:=rfl
 rcases hb with ⟨rfl,rfl⟩ | ⟨rfl,rfl⟩
 ·simp only [e,Sem.run_bind,run_eqGuard_nil .nilIface w (by intro a;simp),Result.andThen_ok,run_eql_nil_nil w t hu,Sem.run_pure]
 ·simp only [e,Sem.run_bind,run_eqGuard_nil .nilIface w (by intro a;simp),Result.andThen_ok,run_neq_nil_nil w t hu,Sem.run_pure]
theorem res_ct {cx:Cx}{fn:Func}{n s t u b:Nat}{fr:Fr}{C:Mem}{L:List Ent}{dd:List Deferred}{w0:World}{C0:Mem}{L0:List Ent}{tb:TypeId}{fz:Nat × Nat}{cs:List Value}{ti:TI}{y z:Value}(hm:Ent.obj b (.cells ⟨cs⟩ tb fz)∈L)(hres:fn.results=#[.cell s t,.tmp u])
  (hs:ev fr [] (.tmp s)=some (.pointer (some ⟨b,0,none⟩))) (hu:ev fr [] (.tmp u)=some z) (ht:cx.T.get t=some ti) (hv:bl ti (cs.take ti.size)=some y) :
  ∀ a w,FrOk n [] dd fr a->St w0 C0 L0 C L w->(results fn a.tmps).run cx.P w=.ok (.tuple #[y,z]) w:=fun a w ha hw=>by
 have hs':=aT ha (fun p hp=>by cases hp) hs
 have hu':=aT ha (fun p hp=>by cases hp) hu
 simp only [Act.eval] at hs' hu'
 have hl:=run_cell (F:=⟨cx,fn,n,⟨w0,C0,L0⟩,fun _ _ _=>True,Cw.plain cx.P,dd,fun _ _ _=>True⟩) ht (hw.sep.e _ hm) hv
 simp only [Array.getD_eq_getD_getElem?] at hs' hu'
 simp [results,hres,hs',hu',asAddr,hl]
theorem D.remZ {t ty:Nat}{x y:Operand}{ki:IntKind}{p q:Int}(c:Int)(hk:Nat.ble k 1=true)(hd:o.dst=some d)(hop:o.op=.binOp .rem t x y ty)(hg:gOf ds fr o.guard=some g)(hx:ev fr g x=some (.int ki p))(hy:ev fr g y=some (.int ki q))
  (hq:q≠0) (hc:p.tmod q=c) (hp:aH n ds ((d,g,.int ki c)::fr) d=true) (hwf:wfG ds fr g=true)
  (h:D cx R its ((d,g,.int ki c)::fr) C L):D cx R ((i,k,o)::its) fr C L :=
 D.run _ hk hd hg (fun _ a hs w=>by
  rw [ba hop (hs _ _ hx) (hs _ _ hy) (fun _ _=>.inl (by simp)) (.inl (by simp)) w]
  simp [binOp,Op.intDiv,hq,hc]) hp hwf h
theorem D.cX (p q:Nat){t ty:Nat}{x y:Operand}{ki:IntKind}(hk:Nat.ble k 1=true)(hd:o.dst=some d)(hop:o.op=.binOp .rem t x y ty)(hg:gOf ds fr o.guard=some g)(hx:ev fr g x=some (.int ki (p:Nat)))(hy:ev fr g y=some (.int ki (q:Nat)))
  (hq:0<q) (hp:aH n ds ((d,g,.int ki ((p % q:Nat):Int))::fr) d=true) (hwf:wfG ds fr g=true)
  (h:D cx R its ((d,g,.int ki ((p % q:Nat):Int))::fr) C L):D cx R ((i,k,o)::its) fr C L:=by
 rw [Int.natCast_emod] at hp h
 exact D.rem hk hd hop hg hx hy om_ om_ hp hwf h
theorem D.quoN (p q:Nat){t ty:Nat}{x y:Operand}{ki:IntKind}(hk:Nat.ble k 1=true)(hd:o.dst=some d)(hop:o.op=.binOp .quo t x y ty)(hg:gOf ds fr o.guard=some g)(hx:ev fr g x=some (.int ki (p:Nat)))(hy:ev fr g y=some (.int ki (q:Nat)))
  (hq:0<q) (hm:(ki=.i64/\p<9223372036854775808)∨(ki=.u64/\p<18446744073709551616)) (hp:aH n ds ((d,g,.int ki ((p / q:Nat):Int))::fr) d=true) (hwf:wfG ds fr g=true)
  (h:D cx R its ((d,g,.int ki ((p / q:Nat):Int))::fr) C L):D cx R ((i,k,o)::its) fr C L:=by
 have hr:ki.wrap ((p / q:Nat):Int)=((p / q:Nat):Int):=by
  have hle:=Nat.div_le_self p q
  generalize p / q=z at hle ⊢
  rcases hm with ⟨rfl,hm⟩ | ⟨rfl,hm⟩
  ·rw [IntKind.wrap_i64];omega
  ·rw [IntKind.wrap_u64];omega
 rw [Int.natCast_ediv] at hp h hr
 exact D.quo hk hd hop hg hx hy om_ om_ hr hp hwf h
end
end Go.Jog
namespace Go.Proofs.YtjhmlnebikbdbaaGreatDoor
open Go Go.Jog
set_option maxRecDepth 100000

abbrev bPtr (b:Nat):Value:=.pointer (some ⟨b,0,none⟩)
abbrev bObj (b:Nat)(q:Option Addr)(v:Value):Ent:=.obj b (.cells ⟨[.pointer q,v]⟩ 254 (0,0))
abbrev u8s (s:Str):List Value:=s.map fun c=>Value.int .u8 c.toNat
abbrev bArr (v:Value)(s:Str):Ent:=.arr v 5 1 s.length (u8s s)
theorem copyChk_fn (C:Mem)(b:Nat)(q:Option Addr)(v:Value)(hq:q=none∨q=some ⟨b,0,none⟩):Jog.Fn cx.P 176 [bPtr b] C [bObj b q v] fun _ _ L'=>L'=[bObj b (some ⟨b,0,none⟩) v]:=by
 refine Fn.it kr_ Tryz.func176 20 fun w0=>?_
 refine G.bv (L':=[.obj b (.cells ⟨[.pointer q,v]⟩ 254 (0,0))]) rfl ?_
 refine G.rp 3 fun R hR=>?_
 refine D.ag (.head _) ?_
 refine D.ptrNil (e:=254) rfl rfl rfl rfl rfl kr_ kr_ rfl rfl ?_
 refine D.e2 0 6 hR ?_
 refine G.cd (fun h6=>?_) fun h6=>?_
 ·have hq0:q=none:=by simpa using h6
  subst hq0
  refine G.rp 2 fun R hR=>?_
  refine D.toUnsafe (t:=254) rfl rfl rfl rfl rfl (.head _) kr_ kr_ kr_ (by simp) fl_ ?_
  refine D.noEscape (fn:=Tryz.f196) rfl rfl rfl rfl rfl Tryz.func196 kr_ kr_ kr_ kr_ fl_ ?_
  refine D.fromUnsafe (t:=254) rfl rfl rfl rfl rfl (.head _) kr_ kr_ kr_ kr_ fl_ ?_
  refine D.ps 2 ?_
  refine D.ac (j:=0) ?_
  refine D.done [] trivial (hR _ _ _ rfl ?_)
  refine G.end0 rfl ?_
  rfl
 ·have hq1:q=some ⟨b,0,none⟩:=by
   rcases hq with rfl | rfl
   ·simp at h6
   ·rfl
  subst hq1
  refine G.rp 3 fun R hR=>?_
  refine D.ag (.head _) ?_
  refine D.ae ?_
  refine D.ptrNeSelf (e:=254) rfl rfl rfl rfl rfl rfl kr_ kr_ rfl rfl ?_
  refine D.e1 19 hR ?_
  refine G.cd (fun h19=>?_) fun h19=>?_
  ·cases h19
  ·refine G.end0 rfl ?_
   rfl
theorem writeByte_fn (C:Mem)(b:Nat)(q:Option Addr)(v:Value)(s:Str)(c:UInt8)(hq:q=none∨q=some ⟨b,0,none⟩)(hl:s.length<=1000000000):Jog.Fn cx.P 148 [bPtr b,.int .u8 c.toNat] C [bObj b q v,bArr v s] fun _ _ L'=>∃ v',L'=[bObj b (some ⟨b,0,none⟩) v',bArr v' (s++[c])]:=by
 refine Fn.it kr_ Tryz.func148 17 fun w0=>?_
 refine G.bv (L':=[.obj b (.cells ⟨[.pointer q,v]⟩ 254 (0,0)),.arr v 5 1 s.length (u8s s)]) rfl ?_
 refine G.z2 1 0 1 ?_
 refine G.aS [(1,3)] rfl (fun R hR=>?_)
 refine D.ae ?_
 refine D.call (copyChk_fn _ b q v hq) rfl (.inr (by decide)) rfl rfl rfl rfl rfl rfl (List.Perm.refl _) fl_ (fun v6 C6 L6 hle6 hq6=>?_)
 refine D.e2 0 1 hR ?_
 subst hq6
 refine G.bv (L':=[.obj b (.cells ⟨[.pointer (some ⟨b,0,none⟩),v]⟩ 254 (0,0)),.arr v 5 1 s.length (u8s s)]) rfl ?_
 refine G.rp 4 fun R hR=>?_
 refine D.ag (.head _) ?_
 refine D.ae ?_
 refine D.ah [[.int .u8 c.toNat]] (fun p13 C13 hle13 hs13=>?_)
 refine D.ak (j:=1) rfl rfl rfl rfl rfl rfl rfl rfl rfl rfl rfl hs13 rfl (by simp only [List.length_singleton,maxLen];omega) (by simp only [List.length_singleton];omega) fl_ (fun A14 n14 c14=>?_)
 refine D.ps 2 ?_
 refine D.ac (j:=1) ?_
 refine D.done [] trivial (hR _ _ _ rfl ?_)
 refine G.z1 1 4 ?_
 refine G.perm (L':=[.obj b (.cells ⟨[.pointer (some ⟨b,0,none⟩),.slice A14 n14 c14]⟩ 254 (0,0)),.arr (.slice A14 n14 c14) 5 1 (s.length+1) (u8s s++[Value.int .u8 c.toNat])]) (List.Perm.refl _) ?_
 refine G.aA (G.fin1 rfl rfl ?_)
 exact ⟨.slice A14 n14 c14,by simp [bArr,u8s]⟩
theorem writeString_fn (C:Mem)(b:Nat)(q:Option Addr)(v:Value)(s t:Str)(hq:q=none∨q=some ⟨b,0,none⟩)(hl:s.length+t.length<=1000000000):Jog.Fn cx.P 150 [bPtr b,strV t] C [bObj b q v,bArr v s] fun _ _ L'=>∃ v',L'=[bObj b (some ⟨b,0,none⟩) v',bArr v' (s++t)]:=by
 refine Fn.it kr_ Tryz.func150 19 fun w0=>?_
 refine G.bv (L':=[.obj b (.cells ⟨[.pointer q,v]⟩ 254 (0,0)),.arr v 5 1 s.length (u8s s)]) rfl ?_
 refine G.z2 2 0 1 ?_
 refine G.aS [(1,3)] rfl (fun R hR=>?_)
 refine D.ae ?_
 refine D.call (copyChk_fn _ b q v hq) rfl (.inr (by decide)) rfl rfl rfl rfl rfl rfl (List.Perm.refl _) fl_ (fun v7 C7 L7 hle7 hq7=>?_)
 refine D.e2 0 1 hR ?_
 subst hq7
 refine G.bv (L':=[.obj b (.cells ⟨[.pointer (some ⟨b,0,none⟩),v]⟩ 254 (0,0)),.arr v 5 1 s.length (u8s s)]) rfl ?_
 refine G.rp 4 fun R hR=>?_
 refine D.ag (.head _) ?_
 refine D.ae ?_
 refine D.appendStr (j:=1) rfl rfl rfl rfl rfl rfl rfl rfl rfl rfl rfl rfl rfl rfl rfl om_ fl_ (fun A2 n2 c2=>?_)
 refine D.ps 2 ?_
 refine D.ac (j:=1) ?_
 refine D.e1 1 hR ?_
 refine G.z2 4 4 5 ?_
 refine G.perm (L':=[.obj b (.cells ⟨[.pointer (some ⟨b,0,none⟩),.slice A2 n2 c2]⟩ 254 (0,0)),.arr (.slice A2 n2 c2) 5 1 (s.length+t.length) (u8s s++t.map fun b=>Value.int .u8 b.toNat)]) (List.Perm.refl _) ?_
 refine G.aA (G.bg rfl rfl rfl ?_)
 exact ⟨.slice A2 n2 c2,by simp [bArr,u8s]⟩
theorem bstring_fn (C:Mem)(b:Nat)(q:Option Addr)(v:Value)(s:Str)(h0:s≠[])(hl:s.length<=1000000000):Jog.Fn cx.P 151 [bPtr b] C [bObj b q v,bArr v s] fun u _ L'=>u=strV s/\L'=[]:=by
 refine Fn.it kr_ Tryz.func151 14 fun w0=>?_
 refine G.bv (L':=[.obj b (.cells ⟨[.pointer q,v]⟩ 254 (0,0)),.arr v 5 1 s.length (u8s s)]) rfl ?_
 refine G.form (.tail _ (.head _)) (fun hf hfl=>?_)
 have hp0:=List.length_pos_iff.2 h0
 rcases hf with ⟨h1,h2⟩ | ⟨g0,c0,rfl,hc1,hc2⟩
 ·omega
 refine G.z1 1 0 ?_
 refine G.aI [0,1,2,3,4,5,6,7,8,9,10,11] [(4,0)] rfl kr_ (fun R hB hR=>?_)
 refine D.ps 3 ?_
 refine D.ag (.head _) ?_
 refine D.sliceData rfl rfl rfl rfl rfl om_ rfl rfl ?_
 refine D.ps 3 ?_
 refine D.ag (.head _) ?_
 refine D.ae ?_
 refine D.unsafeStr (j:=1) (e:=5) rfl rfl rfl rfl kr_ kr_ rfl rfl rfl h0 om_ fl_ ?_
 refine D.q1 1 2 hR ?_
 refine G.rf ?_
 exact ⟨rfl,rfl⟩

def encU (x:Nat):List Value:=[.int .u64 x]
theorem ct (x:Nat):(encU x).length=1:=rfl
def NineC (C:Mem)(v:Value)(n:Nat):Prop:=∃ l,Can9 l/\val9 l=n/\Sl C 1 v (l.map encU)
theorem NineC.mono {C D:Mem}{v:Value}{n:Nat}(h:NineC C v n)(hl:C.le D):NineC D v n:=by
 obtain ⟨l,h1,h2,h3⟩:=h
 exact ⟨l,h1,h2,h3.mono hl⟩
theorem trim9_fn (C:Mem)(v:Value)(l:List Nat)(hv:Sl C 1 v (l.map encU)):Pur cx.P 145 [v] C fun u C'=>Sl C' 1 u ((cut9 l).map encU):=by
 obtain ⟨A0,c0,rfl,hlc,_⟩:=id hv
 simp only [List.length_map] at hv hlc ⊢
 refine Fn.it kr_ Tryz.func145 21 fun w0=>?_
 refine G.z1 1 0 ?_
 refine G.loop (fun fr C' L' μ=>∃ (k:Nat)(A:Option Addr)(c:Nat),(k<=l.length/\Sl C' 1 (.slice A k c) ((l.take k).map encU)/\cutN9 l l.length=cutN9 l k)/\fr=[(0,[],.slice A k c)]/\L'=[]/\μ=k+1) (h_1 0) ⟨l.length,A0,c0,⟨Nat.le_refl _,by rw [List.take_length];exact hv,rfl⟩,rfl,rfl,rfl⟩ (fun fr C0' L0' m hle0 hI=>?_)
 obtain ⟨k,A,c,⟨hk,hs,ht⟩,rfl,rfl,rfl⟩:=hI
 obtain ⟨_,c9,hqe,hkc,_⟩:=id hs
 have hmx:maxLen<=9223372036854775807:=by simp [maxLen]
 have hkc2:k<=c:=by
  rw [List.length_map,List.length_take] at hkc
  injection hqe with h1 h2 h3
  omega
 have hrow:0<k->((l.take k).map encU)[((k:Int)-1).toNat]?=some (encU (g9 l (k-1))):=fun h=>by
  rw [show ((k:Int)-1).toNat=k-1 by omega,List.getElem?_map,List.getElem?_take,if_pos om_,List.getElem?_eq_getElem (by omega:k-1<l.length)]
  unfold g9
  rw [List.getD_eq_getElem?_getD,List.getElem?_eq_getElem (by omega:k-1<l.length)];rfl
 refine G.rp 7 fun R hR=>?_
 refine D.ax _ ?_
 refine D.index rfl rfl rfl rfl rfl rfl rfl rfl rfl rfl (fun hg=>⟨hs,(by have h:decide ((0:Int)<(k:Int))=true:=hg.1;simp at h;omega),hrow (by have h:decide ((0:Int)<(k:Int))=true:=hg.1;simp at h;omega)⟩) fl_ rfl (fun p11 hp11=>?_)
 refine D.aD rfl rfl rfl rfl rfl rfl hp11 rfl rfl rfl ?_
 refine D.ae ?_
 refine D.aC rfl rfl rfl rfl rfl rfl rfl rfl ?_
 refine D.e2 0 14 hR ?_
 refine G.cd (fun h14=>?_) fun h14=>?_
 ·have hk0:0<k/\g9 l (k-1)=0:=by
   have:(0:Int)<(k:Int)/\((g9 l (k-1):Nat):Int)=0:=by simpa using h14
   omega
  refine G.rp 3 fun R hR=>?_
  refine D.i64 (((k-1:Nat):Int)) rfl rfl rfl rfl om_ om_ om_ rfl rfl ?_
  refine D.dH 0 (k-1) c rfl rfl rfl rfl rfl rfl rfl rfl rfl rfl rfl rfl (fun _=>⟨.inl ⟨rfl,rfl⟩,.inr ⟨_,rfl⟩,.inl ⟨rfl,rfl⟩,by omega,by omega,Nat.le_refl _⟩) rfl rfl ?_
  refine D.q1 1 0 hR ?_
  have hsub:=Sl.sub hs (l:=0) (h:=k-1) (m:=c) (Nat.zero_le _) (by simp;omega) om_ (Nat.le_refl _)
  have esub:(((l.take k).map encU).take (k-1)).drop 0=(l.take (k-1)).map encU:=by
   rw [List.drop_zero,<- List.map_take,List.take_take,Nat.min_eq_left om_]
  rw [esub] at hsub
  have etr:cutN9 l l.length=cutN9 l (k-1):=by
   rw [ht]
   obtain ⟨j,rfl⟩:∃ j,k=j+1:=⟨k-1,by omega⟩
   simp only [Nat.add_sub_cancel] at hk0 ⊢
   rw [cutN9,if_pos]
   unfold g9 at hk0
   rw [List.getD_eq_getElem?_getD,List.getElem?_eq_getElem om_] at hk0
   rw [List.getElem?_eq_getElem om_]
   exact congrArg some hk0.2
  refine G.aB (m':=k-1+1) om_ mup (h_1 0) ⟨k-1,_,c,⟨by omega,hsub.mono mup,etr⟩,rfl,rfl,rfl⟩
 ·have hk0:¬ (0<k/\g9 l (k-1)=0):=fun hh=>by
   have h1:(decide ((0:Int)<(k:Int)) && (((g9 l (k-1):Nat):Int) == 0))=true:=by
    rw [hh.2];simp;omega
   rw [h1] at h14
   cases h14
  refine G.z1 2 2 ?_
  refine G.rf ?_
  refine ⟨rfl, ?_⟩
  have e:cutN9 l k=k:=by
   cases k with
   | zero=>rfl
   | succ j =>
    simp only [Nat.add_sub_cancel] at hk0
    rw [cutN9,if_neg]
    intro h
    refine hk0 ⟨by omega, ?_⟩
    unfold g9
    rw [List.getD_eq_getElem?_getD,h];rfl
  unfold cut9
  rw [ht,e]
  exact hs
theorem dS (C:Mem)(v:Value)(l:List Nat){n:Nat}(hn:l.length=n):Jog.Fn cx.P 145 [v] C [.arr v 220 1 n (l.map encU).flatten] fun u C' L'=>L'=[]/\Sl C' 1 u ((cut9 l).map encU) :=
 Jog.Fn.give (l.map encU) kr_ (by intro r hr;obtain ⟨y,_,rfl⟩:=List.mem_map.1 hr;rfl) (by rw [List.length_map,hn]) (fun C' _ hs=>trim9_fn C' v l hs)
def ordZ (m n:Nat):Int:=if m<n then -1 else if n<m then 1 else 0
theorem ordZ_lt {m n:Nat}:ordZ m n<0 ↔ m<n:=by unfold ordZ;split <;> (try split) <;> omega
theorem ordZ_gt {m n:Nat}:0<ordZ m n ↔ n<m:=by unfold ordZ;split <;> (try split) <;> omega
theorem order9_fn (C:Mem)(va vb:Value)(a b:List Nat)(ha:Sl C 1 va (a.map encU))(hb:Sl C 1 vb (b.map encU))(hca:Can9 a)(hcb:Can9 b):Gives cx.P 130 [va,vb] C (.int .i64 (ordZ (val9 a) (val9 b))):=by
 have hmx:maxLen<=9223372036854775807:=by simp [maxLen]
 obtain ⟨A0,c0,rfl,hla,hla2,_⟩:=id ha
 obtain ⟨B0,d0,rfl,hlb,hlb2,_⟩:=id hb
 simp only [List.length_map] at ha hb hla hlb ⊢
 refine Fn.it kr_ Tryz.func130 41 fun w0=>?_
 refine G.z2 1 0 1 ?_
 refine G.z3 5 0 1 10 ?_
 refine G.cd (fun h10=>?_) fun h10=>?_
 ·have hne:a.length≠b.length:=fun e=>by
   rw [e] at h10;simp at h10
  refine G.z1 5 15 ?_
  refine G.cd (fun h15=>?_) fun h15=>?_
  ·have hlt:a.length<b.length:=by
    have:(a.length:Int)<b.length:=by simpa using h15
    omega
   refine G.z1 1 4 ?_
   refine G.rf ?_
   exact ⟨by rw [show ordZ (val9 a) (val9 b)=-1 from if_pos (len9_lt hca.1 hcb hlt)],rfl⟩
  ·have hlt:b.length<a.length:=by
    have:¬ (a.length:Int)<b.length:=by simpa using h15
    omega
   have hvv:=len9_lt hcb.1 hca hlt
   refine G.z1 1 4 ?_
   refine G.rf ?_
   exact ⟨by rw [show ordZ (val9 a) (val9 b)=1 from by unfold ordZ;rw [if_neg om_,if_pos hvv]],rfl⟩
 ·have hlen:a.length=b.length:=by
   have:(a.length:Int)=b.length:=by simpa using h10
   omega
  refine G.rp 2 fun R hR=>?_
  refine D.ax _ ?_
  refine D.q3 1 0 1 5 hR ?_
  refine G.loop (fun fr C' L' μ=>∃ (k:Nat),(k<=a.length/\a.drop k=b.drop k)/\fr=[(0,[],.slice A0 a.length c0),(1,[],.slice B0 b.length d0),(5,[],.int .i64 ((k:Int)-1))]/\L'=[]/\μ=k+1) (h_3 0 1 5) ⟨a.length,⟨Nat.le_refl _,by rw [List.drop_length,hlen,List.drop_length]⟩,rfl,rfl,rfl⟩ (fun fr C0' L0' m hle0 hI=>?_)
  obtain ⟨k,⟨hk,he⟩,rfl,rfl,rfl⟩:=hI
  refine G.z4 2 0 1 5 20 ?_
  refine G.cd (fun h20=>?_) fun h20=>?_
  ·have hk0:0<k:=by
    have:(0:Int)<=(k:Int)-1:=by simpa using h20
    omega
   obtain ⟨j,rfl⟩:∃ j,k=j+1:=⟨k-1,by omega⟩
   obtain ⟨x,hx⟩:∃ x,a[j]?=some x:=⟨a[j],List.getElem?_eq_getElem om_⟩
   obtain ⟨y,hy⟩:∃ y,b[j]?=some y:=⟨b[j],List.getElem?_eq_getElem om_⟩
   have hrx:(a.map encU)[(((j+1:Nat):Int)-1).toNat]?=some (encU x):=by
    rw [show (((j+1:Nat):Int)-1).toNat=j by omega,List.getElem?_map,hx];rfl
   have hry:(b.map encU)[(((j+1:Nat):Int)-1).toNat]?=some (encU y):=by
    rw [show (((j+1:Nat):Int)-1).toNat=j by omega,List.getElem?_map,hy];rfl
   refine G.aI [0,1,2,3,4,5,6,7,8] [] rfl kr_ (fun R hB hR=>?_)
   refine D.ps 2 ?_
   refine D.ai (ha.mono mup) rfl rfl rfl rfl rfl rfl rfl rfl rfl rfl om_ hrx fl_ (fun p25 hp25=>?_)
   refine D.aa hp25 ?_
   refine D.ps 2 ?_
   refine D.ai (hb.mono mup) rfl rfl rfl rfl rfl rfl rfl rfl rfl rfl om_ hry fl_ (fun p29 hp29=>?_)
   refine D.aa hp29 ?_
   refine D.q4 1 0 1 5 31 hR ?_
   refine G.cd (fun h31=>?_) fun h31=>?_
   ·have hxy:x≠y:=fun h=>by
     subst h;simp at h31
    refine G.aI [0,1,2,3,4,5,6,7,8] [] rfl kr_ (fun R hB hR=>?_)
    refine D.ps 2 ?_
    refine D.ai (ha.mono mup) rfl rfl rfl rfl rfl rfl rfl rfl rfl rfl om_ hrx fl_ (fun p34 hp34=>?_)
    refine D.aa hp34 ?_
    refine D.ps 2 ?_
    refine D.ai (hb.mono mup) rfl rfl rfl rfl rfl rfl rfl rfl rfl rfl om_ hry fl_ (fun p38 hp38=>?_)
    refine D.aa hp38 ?_
    refine D.q1 1 40 hR ?_
    refine G.cd (fun h40=>?_) fun h40=>?_
    ·have hxy:x<y:=by
      have:(x:Int)<y:=by simpa using h40
      omega
     refine G.z1 1 4 ?_
     refine G.rf ?_
     exact ⟨by rw [show ordZ (val9 a) (val9 b)=-1 from if_pos (at9_lt hca.1 hlen hx hy hxy he)],rfl⟩
    ·have hyx:y<x:=by
      have:¬ (x:Int)<y:=by simpa using h40
      omega
     have hvv:=at9_lt hcb.1 hlen.symm hy hx hyx he.symm
     refine G.z1 1 4 ?_
     refine G.rf ?_
     exact ⟨by rw [show ordZ (val9 a) (val9 b)=1 from by unfold ordZ;rw [if_neg om_,if_pos hvv]],rfl⟩
   ·have hxy2:x=y:=by
     have:(x:Int)=y:=by simpa using h31
     omega
    refine G.rp 1 fun R hR=>?_
    refine D.ax _ ?_
    refine D.q3 1 0 1 5 hR ?_
    rw [show ((j+1:Nat):Int)-1-1=(j:Int)-1 by omega]
    refine G.aB (m':=j+1) om_ mup (h_3 0 1 5) ⟨j,⟨by omega,by
     rw [List.drop_eq_getElem_cons (by omega:j<a.length),List.drop_eq_getElem_cons (by omega:j<b.length),he,(List.getElem?_eq_some_iff.1 hx).2,(List.getElem?_eq_some_iff.1 hy).2,hxy2]⟩,rfl,rfl,rfl⟩
  ·have hk0:k=0:=by
    have:¬ (0:Int)<=(k:Int)-1:=by simpa using h20
    omega
   subst hk0
   refine G.z1 1 4 ?_
   refine G.rf ?_
   have hab:a=b:=by simpa using he
   subst hab
   exact ⟨by rw [show ordZ (val9 a) (val9 a)=0 from by unfold ordZ;rw [if_neg om_,if_neg om_]],rfl⟩

theorem g9_get {l:List Nat}{i:Nat}(h:i<l.length):l[i]?=some (g9 l i):=by rw [List.getElem?_eq_getElem h,g9_some (List.getElem?_eq_getElem h)]
theorem g9_row {l:List Nat}{i:Nat}(h:i<l.length):(l.map encU)[i]?=some (encU (g9 l i)):=by rw [List.getElem?_map,g9_get h];rfl
theorem g9_out {l:List Nat}{i:Nat}(h:l.length<=i):g9 l i=0:=by
 unfold g9;rw [List.getD_eq_getElem?_getD,List.getElem?_eq_none h];rfl
theorem B9v:B9=1000000000:=rfl
theorem plus_fn (C:Mem)(va vb:Value)(a b:List Nat)(ha:Sl C 1 va (a.map encU))(hb:Sl C 1 vb (b.map encU))(hda:Dig9 a)(hdb:Dig9 b)(hla:a.length<=10000000)(hlb:b.length<=10000000) :
  Pur cx.P 129 [va,vb] C fun u C'=>NineC C' u (val9 a+val9 b):=by
 obtain ⟨A0,c0,rfl,_⟩:=id ha
 obtain ⟨B0,d0,rfl,_⟩:=id hb
 simp only [List.length_map] at ha hb ⊢
 have hB:=B9v
 refine Fn.it kr_ Tryz.func129 53 fun w0=>?_
 refine G.z2 1 0 1 ?_
 refine G.z3 5 0 1 13 ?_
 refine G.bH (fun fr C' L' μ=>∃ (la lb:List Nat)(A:Option Addr)(c:Nat)(B:Option Addr)(d:Nat),(Sl C' 1 (.slice A la.length c) (la.map encU)/\Sl C' 1 (.slice B lb.length d) (lb.map encU)/\lb.length<=la.length/\val9 la+val9 lb=val9 a+val9 b/\Dig9 la/\Dig9 lb/\la.length<=10000000)/\fr=[(0,[],.slice A la.length c),(1,[],.slice B lb.length d)]/\L'=[]) ?_ (fun fr C13 L13 μ hle13 hI=>?_)
 ·refine G.cd (fun h13=>?_) fun h13=>?_
  ·have h13':a.length<b.length:=by
    have:(a.length:Int)<b.length:=by simpa using h13
    omega
   refine G.z2 4 0 1 ?_
   refine G.ay 0 (Mem.le.refl _) (h_2 0 1) ⟨b,a,_,_,_,_,⟨hb.mono mup,ha.mono mup,by omega,by omega,hdb,hda,hlb⟩,rfl,rfl⟩
  ·have h13':¬ a.length<b.length:=fun h=>by
    have:(a.length:Int)<b.length:=by omega
    simp [this] at h13
   refine G.ay 0 (Mem.le.refl _) (h_2 0 1) ⟨a,b,_,_,_,_,⟨ha.mono mup,hb.mono mup,by omega,rfl,hda,hdb,hla⟩,rfl,rfl⟩
 ·obtain ⟨la ,lb ,A ,c ,B ,d,⟨hsa,hsb,hll,hvv,hdla,hdlb,hla8⟩,rfl,rfl⟩:=hI
  refine G.rp 2 fun R hR=>?_
  refine D.ax _ ?_
  refine D.a8 rfl rfl rfl rfl rfl rfl rfl rfl rfl (Nat.zero_le _) (by show 8*(la.length+1)<=281474976710656;omega) (by simp only [maxLen];omega) fl_ (fun b19=>?_)
  refine D.q3 1 0 1 5 hR ?_;clear hR R
  refine G.z4 1 0 1 5 6 ?_
  refine G.z6 3 1 5 6 20 21 22 ?_
  refine G.loop (fun fr C' L' μ=>∃ (i:Nat)(out:List Nat)(cy:Nat)(w:Value),(i<=la.length/\out.length=i/\Dig9 out/\cy<=1/\val9 out+B9 ^ i*cy=val9 (la.take i)+val9 (lb.take i))/\fr=[(1,[],.slice B lb.length d),(5,[],w),(6,[],.int .u64 cy),(20,[],.slice A la.length c),(21,[],.int .i64 la.length),(22,[],.int .i64 i)]/\L'=[.arr w 220 1 i (out.map encU).flatten]/\μ=la.length-i) (h_6 1 5 6 20 21 22) ⟨0,[],0,_,⟨Nat.zero_le _,rfl,(fun x hx=>(by cases hx)),by omega,rfl⟩,rfl,rfl,rfl⟩ (fun fr C0' L0' m hle0 hI=>?_)
  obtain ⟨i,out,cy,w,⟨hi,hol,hod,hcy,hval⟩,rfl,rfl,rfl⟩:=hI
  refine G.z7 1 1 5 6 20 21 22 23 ?_
  refine G.cd (fun h23=>?_) fun h23=>?_
  ·have hil:i<la.length:=by simpa using h23
   have hga:=g9_lt hdla i
   have hgb:=g9_lt hdlb i
   refine G.rp 1 fun R hR=>?_
   refine D.ai (hsa.mono mup) rfl rfl rfl rfl rfl rfl rfl rfl rfl rfl om_ (g9_row (i:=i) hil) fl_ (fun p25 hp25=>?_)
   refine D.aa hp25 ?_
   refine D.q8 2 1 5 6 7 8 20 21 22 hR ?_;clear hR R
   refine G.rp 2 fun R hR=>?_
   refine D.int (((cy+g9 la i:Nat):Int)) rfl rfl rfl rfl (by rw [IntKind.wrap_u64];omega) rfl rfl ?_
   refine D.q7 1 1 5 6 7 20 21 22 hR ?_;clear hR R
   refine G.z8 4 1 5 6 7 20 21 22 33 ?_
   refine G.bH (fun fr C' L' μ=>(True)/\fr=[(1,[],.slice B lb.length d),(5,[],w),(6,[],.int .u64 ((cy+g9 la i+g9 lb i:Nat):Int)),(20,[],.slice A la.length c),(21,[],.int .i64 la.length),(22,[],.int .i64 i)]/\L'=[.arr w 220 1 i (out.map encU).flatten]) ?_ (fun fr C33 L33 μ hle33 hI=>?_)
   ·refine G.cd (fun h33=>?_) fun h33=>?_
    ·have hib:i<lb.length:=by simpa using h33
     refine G.rp 3 fun R hR=>?_
     refine D.ai (hsb.mono mup) rfl rfl rfl rfl rfl rfl rfl rfl rfl rfl om_ (g9_row (i:=i) hib) fl_ (fun p37 hp37=>?_)
     refine D.aa hp37 ?_
     refine D.int (((cy+g9 la i+g9 lb i:Nat):Int)) rfl rfl rfl rfl (by rw [IntKind.wrap_u64];omega) rfl rfl ?_
     refine D.q6 1 1 5 6 20 21 22 hR ?_;clear hR R
     refine G.ay 0 (Mem.le.refl _) (h_6 1 5 6 20 21 22) ⟨trivial,rfl,rfl⟩
    ·have hz:g9 lb i=0:=g9_out (by have h:¬ i<lb.length:=(by simpa using h33);omega)
     refine G.ay 0 (Mem.le.refl _) (h_6 1 5 6 20 21 22) ⟨trivial,by rw [hz];rfl,rfl⟩
   ·obtain ⟨htr,rfl,rfl⟩:=hI
    refine G.rp 2 fun R hR=>?_
    refine D.cX (cy+g9 la i+g9 lb i) (B9) rfl rfl rfl rfl rfl rfl om_ rfl rfl ?_
    refine D.ah [encU ((cy+g9 la i+g9 lb i) % B9)] (fun p43 C43 hle43 hs43=>?_)
    refine D.append (j:=0) rfl rfl rfl rfl rfl rfl rfl rfl rfl rfl rfl hs43 rfl (by simp only [List.length_singleton,maxLen];omega) (by show (i+1)*8<=_;omega) fl_ (fun v44=>?_)
    refine D.q6 1 1 5 6 20 21 22 hR ?_;clear hR R
    refine G.rp 1 fun R hR=>?_
    refine D.quoN (cy+g9 la i+g9 lb i) (B9) rfl rfl rfl rfl rfl rfl om_ (.inr ⟨rfl,by omega⟩) rfl rfl ?_
    refine D.q6 1 1 5 6 20 21 22 hR ?_;clear hR R
    refine G.rg fun R hR=>?_
    refine D.ax _ ?_
    refine D.q6 1 1 5 6 20 21 22 hR ?_;clear hR R
    have ecy:cy+g9 la i+g9 lb i=g9 la i+g9 lb i+cy:=by omega
    refine G.bv (L':=[.arr v44 220 1 (i+1) ((out++[(g9 la i+g9 lb i+cy) % B9]).map encU).flatten]) (by rw [ecy];simp [encU]) ?_
    rw [ecy]
    refine G.aB (m':=la.length-(i+1)) om_ mup (h_6 1 5 6 20 21 22) ⟨i+1,out++[(g9 la i+g9 lb i+cy) % B9],(g9 la i+g9 lb i+cy) / B9,v44,⟨by omega,by simp [hol],hod.snoc (Nat.mod_lt _ (by decide)),carry9_le hga hgb hcy,add9_step hol hval⟩,rfl,rfl,rfl⟩
  ·have hil:i=la.length:=by
    have:¬ i<la.length:=by simpa using h23
    omega
   refine G.aS [(4,3)] rfl (fun R hR=>?_)
   refine D.ps 2 ?_
   refine D.ah [encU cy] (fun p50 C50 hle50 hs50=>?_)
   refine D.append (j:=0) rfl rfl rfl rfl rfl rfl rfl rfl rfl rfl rfl hs50 rfl (by simp only [List.length_singleton,maxLen];omega) (by show (i+1)*8<=_;omega) fl_ (fun v51=>?_)
   refine D.call (dS _ _ (out++[cy]) (n:=i+1) (by simp [hol])) rfl (.inr (by decide)) rfl rfl rfl rfl rfl rfl (by rw [List.map_append,List.flatten_append];exact List.Perm.refl _) fl_ (fun v52 C52 L52 hle52 hq52=>?_)
   obtain ⟨rfl,hu⟩:=hq52
   refine D.q1 1 4 hR ?_;clear hR R
   refine G.rf ?_
   refine ⟨rfl,cut9 (out++[cy]),er (hod.snoc (Nat.lt_of_le_of_lt hcy (by decide))), ?_,hu⟩
   rw [ep,val9_snoc,hol,hval,hil,List.take_length,List.take_of_length_le hll,hvv]
theorem minus_fn (C:Mem)(va vb:Value)(a b:List Nat)(ha:Sl C 1 va (a.map encU))(hb:Sl C 1 vb (b.map encU))(hda:Dig9 a)(hdb:Dig9 b)(hla:a.length<=10000000)(hlb:b.length<=a.length)(hle:val9 b<=val9 a) :
  Pur cx.P 131 [va,vb] C fun u C'=>NineC C' u (val9 a-val9 b):=by
 obtain ⟨A0,c0,rfl,_⟩:=id ha
 obtain ⟨B0,d0,rfl,_⟩:=id hb
 simp only [List.length_map] at ha hb ⊢
 have hB:=B9v
 refine Fn.it kr_ Tryz.func131 45 fun w0=>?_
 refine G.z2 1 0 1 ?_
 refine G.rp 2 fun R hR=>?_
 refine D.a8 rfl rfl rfl rfl rfl rfl rfl rfl rfl (Nat.zero_le _) (by show 8*a.length<=281474976710656;omega) (by simp only [maxLen];omega) fl_ (fun b12=>?_)
 refine D.q3 1 0 1 5 hR ?_;clear hR R
 refine G.z4 1 0 1 5 6 ?_
 refine G.z6 3 1 5 6 13 14 15 ?_
 refine G.loop (fun fr C' L' μ=>∃ (i:Nat)(out:List Nat)(cy:Nat)(w:Value),(i<=a.length/\out.length=i/\Dig9 out/\cy<=1/\val9 out+val9 (b.take i)=val9 (a.take i)+B9 ^ i*cy)/\fr=[(1,[],.slice B0 b.length d0),(5,[],w),(6,[],.int .u64 cy),(13,[],.slice A0 a.length c0),(14,[],.int .i64 a.length),(15,[],.int .i64 i)]/\L'=[.arr w 220 1 i (out.map encU).flatten]/\μ=a.length-i) (h_6 1 5 6 13 14 15) ⟨0,[],0,_,⟨Nat.zero_le _,rfl,(fun x hx=>(by cases hx)),by omega,rfl⟩,rfl,rfl,rfl⟩ (fun fr C0' L0' m hle0 hI=>?_)
 obtain ⟨i,out,cy,w,⟨hi,hol,hod,hcy,hval⟩,rfl,rfl,rfl⟩:=hI
 refine G.z7 1 1 5 6 13 14 15 16 ?_
 refine G.cd (fun h16=>?_) fun h16=>?_
 ·have hil:i<a.length:=by simpa using h16
  have hga:=g9_lt hda i
  have hgb:=g9_lt hdb i
  refine G.rp 1 fun R hR=>?_
  refine D.ai (ha.mono mup) rfl rfl rfl rfl rfl rfl rfl rfl rfl rfl om_ (g9_row (i:=i) hil) fl_ (fun p18 hp18=>?_)
  refine D.aa hp18 ?_
  refine D.q8 2 1 5 6 7 8 13 14 15 hR ?_;clear hR R
  refine G.z8 2 1 5 7 8 9 13 14 15 ?_
  refine G.z9 4 1 5 7 8 9 13 14 15 24 ?_
  refine G.bH (fun fr C' L' μ=>(True)/\fr=[(1,[],.slice B0 b.length d0),(5,[],w),(8,[],.int .u64 (g9 a i)),(9,[],.int .u64 ((cy+g9 b i:Nat):Int)),(13,[],.slice A0 a.length c0),(14,[],.int .i64 a.length),(15,[],.int .i64 i)]/\L'=[.arr w 220 1 i (out.map encU).flatten]) ?_ (fun fr C24 L24 μ hle24 hI=>?_)
  ·refine G.cd (fun h24=>?_) fun h24=>?_
   ·have hib:i<b.length:=by simpa using h24
    refine G.rp 3 fun R hR=>?_
    refine D.ai (hb.mono mup) rfl rfl rfl rfl rfl rfl rfl rfl rfl rfl om_ (g9_row (i:=i) hib) fl_ (fun p28 hp28=>?_)
    refine D.aa hp28 ?_
    refine D.int (((cy+g9 b i:Nat):Int)) rfl rfl rfl rfl (by rw [IntKind.wrap_u64];omega) rfl rfl ?_
    refine D.q7 1 1 5 8 9 13 14 15 hR ?_;clear hR R
    refine G.ay 0 (Mem.le.refl _) (h_7 1 5 8 9 13 14 15) ⟨trivial,rfl,rfl⟩
   ·have hz:g9 b i=0:=g9_out (by have h:¬ i<b.length:=(by simpa using h24);omega)
    refine G.ay 0 (Mem.le.refl _) (h_7 1 5 8 9 13 14 15) ⟨trivial,by rw [hz];rfl,rfl⟩
  ·obtain ⟨htr,rfl,rfl⟩:=hI
   refine G.z8 1 1 5 6 8 9 13 14 15 ?_
   refine G.z9 3 1 5 6 8 9 13 14 15 33 ?_
   refine G.bH (fun fr C' L' μ=>(True)/\fr=[(1,[],.slice B0 b.length d0),(5,[],w),(6,[],.int .u64 ((bor9 (g9 a i) (g9 b i) cy:Nat):Int)),(8,[],.int .u64 ((g9 a i+B9*bor9 (g9 a i) (g9 b i) cy:Nat):Int)),(9,[],.int .u64 ((cy+g9 b i:Nat):Int)),(13,[],.slice A0 a.length c0),(14,[],.int .i64 a.length),(15,[],.int .i64 i)]/\L'=[.arr w 220 1 i (out.map encU).flatten]) ?_ (fun fr C33 L33 μ hle33 hI=>?_)
   ·refine G.cd (fun h33=>?_) fun h33=>?_
    ·have hbo:bor9 (g9 a i) (g9 b i) cy=1:=by
      have:(g9 a i:Int)<((cy+g9 b i:Nat):Int):=by simpa using h33
      unfold bor9;rw [if_pos om_]
     refine G.rp 1 fun R hR=>?_
     refine D.int (((g9 a i+B9*1:Nat):Int)) rfl rfl rfl rfl (by rw [IntKind.wrap_u64];omega) rfl rfl ?_
     refine D.q8 2 1 5 6 8 9 13 14 15 hR ?_;clear hR R
     refine G.ay 0 (Mem.le.refl _) (h_8 1 5 6 8 9 13 14 15) ⟨trivial,by rw [hbo];rfl,rfl⟩
    ·have hbo:bor9 (g9 a i) (g9 b i) cy=0:=by
      have:¬ (g9 a i:Int)<((cy+g9 b i:Nat):Int):=by simpa using h33
      unfold bor9;rw [if_neg om_]
     refine G.ay 0 (Mem.le.refl _) (h_8 1 5 6 8 9 13 14 15) ⟨trivial,by rw [hbo];rfl,rfl⟩
   ·obtain ⟨htr2,rfl,rfl⟩:=hI
    refine G.rp 3 fun R hR=>?_
    have hbl:bor9 (g9 a i) (g9 b i) cy<=1:=bor9_le _ _ _
    have hbs:cy+g9 b i<=g9 a i+B9*bor9 (g9 a i) (g9 b i) cy:=by
     unfold bor9;split <;> omega
    refine D.int (((dif9 (g9 a i) (g9 b i) cy:Nat):Int)) rfl rfl rfl rfl (by rw [IntKind.wrap_u64];unfold dif9;rw [hB] at hbs ⊢;omega) rfl rfl ?_
    refine D.ah [encU (dif9 (g9 a i) (g9 b i) cy)] (fun p40 C40 hle40 hs40=>?_)
    refine D.append (j:=0) rfl rfl rfl rfl rfl rfl rfl rfl rfl rfl rfl hs40 rfl (by simp only [List.length_singleton,maxLen];omega) (by show (i+1)*8<=_;omega) fl_ (fun v41=>?_)
    refine D.q6 1 1 5 6 13 14 15 hR ?_;clear hR R
    refine G.rg fun R hR=>?_
    refine D.ax _ ?_
    refine D.q6 1 1 5 6 13 14 15 hR ?_;clear hR R
    refine G.bv (L':=[.arr v41 220 1 (i+1) ((out++[dif9 (g9 a i) (g9 b i) cy]).map encU).flatten]) (by simp [encU]) ?_
    refine G.aB (m':=a.length-(i+1)) om_ mup (h_6 1 5 6 13 14 15) ⟨i+1,out++[dif9 (g9 a i) (g9 b i) cy],bor9 (g9 a i) (g9 b i) cy,v41,⟨by omega,by simp [hol],hod.snoc (dif9_lt hga hgb hcy),bor9_le _ _ _,sub9_step hdb hcy hol hval⟩,rfl,rfl,rfl⟩
 ·have hil:i=a.length:=by
   have:¬ i<a.length:=by simpa using h16
   omega
  refine G.aS [(1,3)] rfl (fun R hR=>?_)
  refine D.ae ?_
  refine D.call (dS _ _ out (n:=i) hol) rfl (.inr (by decide)) rfl rfl rfl rfl rfl rfl (List.Perm.refl _) fl_ (fun v44 C44 L44 hle44 hq44=>?_)
  obtain ⟨rfl,hu⟩:=hq44
  refine D.q1 1 4 hR ?_;clear hR R
  refine G.rf ?_
  refine ⟨rfl,cut9 out,er hod, ?_,hu⟩
  rw [hil,List.take_length,List.take_of_length_le hlb] at hval
  have h0:=val9_lt hod
  rw [hol,hil] at h0
  have hc0:cy=0:=by
   rcases Nat.le_one_iff_eq_zero_or_eq_one.1 hcy with h | h
   ·exact h
   ·rw [h,Nat.mul_one] at hval;omega
  rw [hc0,Nat.mul_zero] at hval
  rw [ep]
  omega

abbrev qU (g c n:Nat):Value:=.slice (some ⟨g,0,none⟩) n c
theorem zrow_U (n:Nat):zrow ([.int .u64 0]:List Value) n=((List.replicate n 0).map encU).flatten:=by
 rw [bX,List.map_replicate];rfl
theorem g9_set_ne {l:List Nat}{i j z:Nat}(h:i≠j):g9 (l.set i z) j=g9 l j:=by
 unfold g9;rw [List.getD_eq_getElem?_getD,List.getD_eq_getElem?_getD,List.getElem?_set_ne h]
theorem g9_zeros (n j:Nat):g9 (List.replicate n 0) j=0:=by
 unfold g9;rw [List.getD_eq_getElem?_getD,List.getElem?_replicate];split <;> rfl
theorem times_fn (C:Mem)(va vb:Value)(a b:List Nat)(ha:Sl C 1 va (a.map encU))(hb:Sl C 1 vb (b.map encU))(hda:Dig9 a)(hdb:Dig9 b)(hla:a.length<=1000000)(hlb:b.length<=1000000) :
  Pur cx.P 125 [va,vb] C fun u C'=>NineC C' u (val9 a*val9 b):=by
 obtain ⟨A0,c0,rfl,_⟩:=id ha
 obtain ⟨B0,d0,rfl,_⟩:=id hb
 simp only [List.length_map] at ha hb ⊢
 have hB:=B9v
 obtain ⟨N,hN⟩:∃ N,a.length+b.length+1=N:=⟨_,rfl⟩
 refine Fn.it kr_ Tryz.func125 79 fun w0=>?_
 refine G.z2 1 0 1 ?_
 refine G.rp 4 fun R hR=>?_
 refine D.i64 (((a.length+b.length:Nat):Int)) rfl rfl rfl rfl om_ om_ om_ rfl rfl ?_
 refine D.i64 (((N:Nat):Int)) rfl rfl rfl rfl om_ om_ om_ rfl rfl ?_
 refine D.a8 rfl rfl rfl rfl rfl rfl rfl rfl rfl (Nat.le_refl _) (by show 8*N<=281474976710656;omega) (by simp only [maxLen];omega) fl_ (fun b18=>?_)
 refine D.q3 1 0 1 5 hR ?_;clear hR R
 refine G.z5 3 1 5 19 20 21 ?_
 refine G.bv (L':=[.arr (qU b18 N N) 220 1 N ((List.replicate N 0).map encU).flatten]) (by rw [<- zrow_U];rfl) ?_
 refine G.loop (fun fr C' L' μ=>∃ (i:Nat)(o:List Nat),(i<=a.length/\o.length=N/\Dig9 o/\val9 o=val9 (a.take i)*val9 b/\∀ j,i+b.length<=j->g9 o j=0)/\fr=[(1,[],.slice B0 b.length d0),(5,[],qU b18 N N),(19,[],.slice A0 a.length c0),(20,[],.int .i64 a.length),(21,[],.int .i64 i)]/\L'=[.arr (qU b18 N N) 220 1 N (o.map encU).flatten]/\μ=a.length-i) (h_5 1 5 19 20 21) ⟨0,List.replicate N 0,⟨Nat.zero_le _,List.length_replicate,(fun x hx=>by rw [List.eq_of_mem_replicate hx];decide),by rw [val9_zeros (fun x hx=>List.eq_of_mem_replicate hx)];simp [val9],fun j _=>g9_zeros _ j⟩,rfl,rfl,rfl⟩ (fun fr C0' L0' m hle0 hI=>?_)
 obtain ⟨i,o,⟨hi,hol,hod,hval,hz⟩,rfl,rfl,rfl⟩:=hI
 refine G.z6 1 1 5 19 20 21 22 ?_
 refine G.cd (fun h22=>?_) fun h22=>?_
 ·have hil:i<a.length:=by simpa using h22
  have hx:=g9_lt hda i
  refine G.rp 1 fun R hR=>?_
  refine D.ai (ha.mono mup) rfl rfl rfl rfl rfl rfl rfl rfl rfl rfl om_ (g9_row (i:=i) hil) fl_ (fun p24 hp24=>?_)
  refine D.aa hp24 ?_
  refine D.q7 2 1 5 6 7 19 20 21 hR ?_;clear hR R
  refine G.z8 1 1 5 6 7 8 19 20 21 ?_
  refine G.z11 3 1 5 6 7 8 19 20 21 26 27 28 ?_
  refine G.loop (fun fr C' L' μ=>∃ (k:Nat)(q:List Nat)(c:Nat),(k<=b.length/\q.length=N/\Dig9 q/\c<B9/\val9 q+B9 ^ (i+k)*c=val9 o+B9 ^ i*(g9 a i*val9 (b.take k))/\∀ j,i+b.length<=j->g9 q j=0)/\fr=[(1,[],.slice B0 b.length d0),(5,[],qU b18 N N),(6,[],.int .i64 i),(7,[],.int .u64 (g9 a i)),(8,[],.int .u64 c),(19,[],.slice A0 a.length c0),(20,[],.int .i64 a.length),(21,[],.int .i64 i),(26,[],.slice B0 b.length d0),(27,[],.int .i64 b.length),(28,[],.int .i64 k)]/\L'=[.arr (qU b18 N N) 220 1 N (q.map encU).flatten]/\μ=b.length-k) (h_11 1 5 6 7 8 19 20 21 26 27 28) ⟨0,o,0,⟨Nat.zero_le _,hol,hod,by decide,by simp [val9],hz⟩,rfl,rfl,rfl⟩ (fun fr C1' L1' m hle1 hI=>?_)
  obtain ⟨k,q,c,⟨hk,hql,hqd,hc,hqv,hqz⟩,rfl,rfl,rfl⟩:=hI
  refine G.z12 1 1 5 6 7 8 19 20 21 26 27 28 29 ?_
  refine G.cd (fun h29=>?_) fun h29=>?_
  ·have hkl:k<b.length:=by simpa using h29
   have hy:=g9_lt hdb k
   have ho:=g9_lt hqd (i+k)
   have hget:q[i+k]?=some (g9 q (i+k)):=g9_get om_
   have hbound:=mul9_bound hc hx hy ho
   rw [show B9*B9=1000000000000000000 from rfl] at hbound
   refine G.rp 1 fun R hR=>?_
   refine D.ai (hb.mono mup) rfl rfl rfl rfl rfl rfl rfl rfl rfl rfl om_ (g9_row (i:=k) hkl) fl_ (fun p31 hp31=>?_)
   refine D.aa hp31 ?_
   refine D.q13 2 1 5 6 7 8 9 10 19 20 21 26 27 28 hR ?_;clear hR R
   refine G.rp 4 fun R hR=>?_
   refine D.i64 (((i+k:Nat):Int)) rfl rfl rfl rfl om_ om_ om_ rfl rfl ?_
   refine D.aO ((i+k)*1) rfl rfl rfl rfl rfl rfl rfl rfl rfl rfl (fun _=>⟨by omega,by omega,rfl⟩) rfl rfl ?_
   refine D.bh (.head _) rfl rfl rfl rfl rfl rfl (fun _=>(by rw [bB ct hget];rfl)) rfl rfl ?_
   refine D.ps 2 ?_
   refine D.int (((g9 a i*g9 b k:Nat):Int)) rfl rfl rfl rfl (by rw [<- Int.natCast_mul,IntKind.wrap_u64];omega) rfl rfl ?_
   refine D.int (((g9 q (i+k)+g9 a i*g9 b k:Nat):Int)) rfl rfl rfl rfl (by rw [IntKind.wrap_u64];omega) rfl rfl ?_
   refine D.int (((c+g9 a i*g9 b k+g9 q (i+k):Nat):Int)) rfl rfl rfl rfl (by rw [IntKind.wrap_u64];omega) rfl rfl ?_
   refine D.q12 1 1 5 6 7 8 9 19 20 21 26 27 28 hR ?_;clear hR R
   refine G.rp 3 fun R hR=>?_
   refine D.i64 (((i+k:Nat):Int)) rfl rfl rfl rfl om_ om_ om_ rfl rfl ?_
   refine D.ae ?_
   refine D.cX (c+g9 a i*g9 b k+g9 q (i+k)) (B9) rfl rfl rfl rfl rfl rfl om_ rfl rfl ?_
   refine D.aO ((i+k)*1) rfl rfl rfl rfl rfl rfl rfl rfl rfl rfl (fun _=>⟨by omega,by omega,rfl⟩) rfl rfl ?_
   refine D.aW (j:=0) rfl rfl rfl rfl rfl rfl rfl rfl rfl rfl rfl (by show (i+k)*1+1<=_;rw [bk ct,hql];omega) ?_
   refine D.e11 1 5 6 7 8 19 20 21 26 27 28 hR ?_;clear hR R
   refine G.rp 1 fun R hR=>?_
   refine D.quoN (c+g9 a i*g9 b k+g9 q (i+k)) (B9) rfl rfl rfl rfl rfl rfl om_ (.inr ⟨rfl,by omega⟩) rfl rfl ?_
   refine D.q11 1 1 5 6 7 8 19 20 21 26 27 28 hR ?_;clear hR R
   refine G.rg fun R hR=>?_
   refine D.ax _ ?_
   refine D.q11 1 1 5 6 7 8 19 20 21 26 27 28 hR ?_;clear hR R
   refine G.bv (L':=[.arr (qU b18 N N) 220 1 N ((q.set (i+k) ((c+g9 a i*g9 b k+g9 q (i+k)) % B9)).map encU).flatten]) (by rw [<- be ct _ (by omega:i+k<q.length)];rfl) ?_
   refine G.aB (m':=b.length-(k+1)) om_ mup (h_11 1 5 6 7 8 19 20 21 26 27 28) ⟨k+1,q.set (i+k) ((c+g9 a i*g9 b k+g9 q (i+k)) % B9),(c+g9 a i*g9 b k+g9 q (i+k)) / B9,⟨by omega,by simp [hql],hqd.set (Nat.mod_lt _ (by decide)),carry9_lt hc hx hy ho,mul9_step hget rfl hqv,fun j hj=>by rw [g9_set_ne om_];exact hqz j hj⟩,rfl,rfl,rfl⟩
  ·have hkl:k=b.length:=by
    have:¬ k<b.length:=by simpa using h29
    omega
   refine G.rp 3 fun R hR=>?_
   refine D.i64 (((i+b.length:Nat):Int)) rfl rfl rfl rfl om_ om_ om_ rfl rfl ?_
   refine D.q7 1 1 5 8 11 19 20 21 hR ?_;clear hR R
   refine G.loop (fun fr C' L' μ=>∃ (m:Nat)(q2:List Nat)(c2:Nat),(i+b.length<=m/\m<=i+b.length+1/\q2.length=N/\Dig9 q2/\c2<B9/\(m=i+b.length+1->c2=0)/\(m=i+b.length->g9 q2 m=0)/\val9 q2+B9 ^ m*c2=val9 o+B9 ^ i*(g9 a i*val9 b)/\∀ j,i+b.length+1<=j->g9 q2 j=0)/\fr=[(1,[],.slice B0 b.length d0),(5,[],qU b18 N N),(8,[],.int .u64 c2),(11,[],.int .i64 m),(19,[],.slice A0 a.length c0),(20,[],.int .i64 a.length),(21,[],.int .i64 i)]/\L'=[.arr (qU b18 N N) 220 1 N (q2.map encU).flatten]/\μ=2-(m-(i+b.length))) (h_7 1 5 8 11 19 20 21) ⟨i+b.length,q,c,⟨Nat.le_refl _,by omega,hql,hqd,hc,fun h=>by omega,fun _=>hqz _ (Nat.le_refl _),by rw [hkl,List.take_length] at hqv;exact hqv,fun j hj=>hqz j om_⟩,rfl,rfl,rfl⟩ (fun fr C2' L2' m hle2 hI=>?_)
   obtain ⟨m,q2,c2,⟨hm1,hm2,hql2,hqd2,hc2,hcz,hqm,hqv2,hqz2⟩,rfl,rfl,rfl⟩:=hI
   refine G.z8 2 1 5 8 11 19 20 21 60 ?_
   refine G.cd (fun h60=>?_) fun h60=>?_
   ·have hc0:0<c2:=by
     have:(0:Int)<(c2:Int):=by simpa using h60
     omega
    have hm3:m=i+b.length:=by
     rcases Nat.lt_or_ge m (i+b.length+1) with h | h
     ·omega
     ·have:=hcz om_;omega
    have hg0:=hqm hm3
    have hget2:q2[m]?=some (g9 q2 m):=g9_get om_
    refine G.rp 3 fun R hR=>?_
    refine D.aO (m*1) rfl rfl rfl rfl rfl rfl rfl rfl rfl rfl (fun _=>⟨by omega,by omega,rfl⟩) rfl rfl ?_
    refine D.bh (.head _) rfl rfl rfl rfl rfl rfl (fun _=>(by rw [bB ct hget2];rfl)) rfl rfl ?_
    refine D.int (((c2+g9 q2 m:Nat):Int)) rfl rfl rfl rfl (by rw [IntKind.wrap_u64];omega) rfl rfl ?_
    refine D.q7 1 1 5 8 11 19 20 21 hR ?_;clear hR R
    refine G.rp 3 fun R hR=>?_
    refine D.cX (c2+g9 q2 m) (B9) rfl rfl rfl rfl rfl rfl om_ rfl rfl ?_
    refine D.aO (m*1) rfl rfl rfl rfl rfl rfl rfl rfl rfl rfl (fun _=>⟨by omega,by omega,rfl⟩) rfl rfl ?_
    refine D.aW (j:=0) rfl rfl rfl rfl rfl rfl rfl rfl rfl rfl rfl (by show m*1+1<=_;rw [bk ct,hql2];omega) ?_
    refine D.e7 1 5 8 11 19 20 21 hR ?_;clear hR R
    refine G.rp 1 fun R hR=>?_
    refine D.quoN (c2+g9 q2 m) (B9) rfl rfl rfl rfl rfl rfl om_ (.inr ⟨rfl,by omega⟩) rfl rfl ?_
    refine D.q7 1 1 5 8 11 19 20 21 hR ?_;clear hR R
    refine G.rp 1 fun R hR=>?_
    refine D.ax _ ?_
    refine D.q7 1 1 5 8 11 19 20 21 hR ?_;clear hR R
    have hcm:(c2+g9 q2 m) % B9=c2:=by rw [hg0,Nat.add_zero];exact Nat.mod_eq_of_lt hc2
    have hcd:(c2+g9 q2 m) / B9=0:=by rw [hg0,Nat.add_zero];exact Nat.div_eq_of_lt hc2
    refine G.bv (L':=[.arr (qU b18 N N) 220 1 N ((q2.set m c2).map encU).flatten]) (by rw [hcm,<- be ct _ (by omega:m<q2.length)];rfl) ?_
    rw [hcd]
    refine G.aB (m':=2-(m+1-(i+b.length))) om_ mup (h_7 1 5 8 11 19 20 21) ⟨m+1,q2.set m c2,0,⟨by omega,by omega,by simp [hql2],hqd2.set hc2,by decide,fun _=>rfl,fun h=>by omega,by
     have h1:=val9_set (z:=c2) hget2
     rw [hg0] at h1
     omega,fun j hj=>by rw [g9_set_ne om_];exact hqz2 j hj⟩,rfl,rfl,rfl⟩
   ·have hc0:c2=0:=by
     have:¬ (0:Int)<(c2:Int):=by simpa using h60
     omega
    refine G.rg fun R hR=>?_
    refine D.ax _ ?_
    refine D.q5 1 1 5 19 20 21 hR ?_;clear hR R
    refine G.aB (m':=a.length-(i+1)) om_ mup (h_5 1 5 19 20 21) ⟨i+1,q2,⟨by omega,hql2,hqd2,by
     rw [hc0,Nat.mul_zero,Nat.add_zero] at hqv2
     rw [val9_tk,Nat.add_mul,<- hval,Nat.mul_assoc]
     exact hqv2,fun j hj=>hqz2 j om_⟩,rfl,rfl,rfl⟩
 ·have hil:i=a.length:=by
   have:¬ i<a.length:=by simpa using h22
   omega
  refine G.aS [(1,3)] rfl (fun R hR=>?_)
  refine D.ae ?_
  refine D.call (dS _ _ o hol) rfl (.inr (by decide)) rfl rfl rfl rfl rfl rfl (List.Perm.refl _) fl_ (fun v78 C78 L78 hle78 hq78=>?_)
  obtain ⟨rfl,hu⟩:=hq78
  refine D.q1 1 4 hR ?_;clear hR R
  refine G.rf ?_
  refine ⟨rfl,cut9 o,er hod, ?_,hu⟩
  rw [ep,hval,hil,List.take_length]

theorem can9_short {l:List Nat}(h:Can9 l){m:Nat}(hv:val9 l<B9 ^ m):l.length<=m:=by
 rcases Nat.lt_or_ge m l.length with h1 | h1
 ·have h2:=can9_low h om_
  have h3:B9 ^ m<=B9 ^ (l.length-1):=Nat.pow_le_pow_right (by decide) om_
  omega
 ·exact h1
theorem NineC.get {C:Mem}{v:Value}{n:Nat}(h:NineC C v n){m:Nat}(hn:n<B9 ^ m):∃ l,Can9 l/\val9 l=n/\l.length<=m/\Sl C 1 v (l.map encU):=by
 obtain ⟨l,h1,h2,h3⟩:=h
 exact ⟨l,h1,h2,can9_short h1 (by rw [h2];exact hn),h3⟩
theorem NineC.zero (C:Mem):NineC C (.slice none 0 0) 0:=⟨[],⟨(fun x hx=>(by cases hx)),by simp⟩,rfl,Sl.nil C 1⟩
theorem NineC.form {C:Mem}{v:Value}{n:Nat}(h:NineC C v n):∃ A m c,v=.slice A m c:=by
 obtain ⟨l,_,_,A,c,h,_⟩:=h
 exact ⟨A,_,c,h⟩
theorem bI {m n k:Nat}(h:m<B9 ^ n)(hk:n<=k):m<B9 ^ k:=Nat.lt_of_lt_of_le h (Nat.pow_le_pow_right (by decide) hk)
theorem order_n (C:Mem){u v:Value}{m n:Nat}(hu:NineC C u m)(hv:NineC C v n):Gives cx.P 130 [u,v] C (.int .i64 (ordZ m n)):=by
 obtain ⟨a,h1,h2,h3⟩:=hu
 obtain ⟨b,h4,h5,h6⟩:=hv
 rw [<- h2,<- h5]
 exact order9_fn C u v a b h3 h6 h1 h4
theorem plus_n (C:Mem){u v:Value}{m n k:Nat}(hu:NineC C u m)(hv:NineC C v n)(hm:m<B9 ^ k)(hn:n<B9 ^ k)(hk:k<=1000000):Pur cx.P 129 [u,v] C fun w D=>NineC D w (m+n):=by
 obtain ⟨a,h1,h2,h3,h4⟩:=hu.get hm
 obtain ⟨b,h5,h6,h7,h8⟩:=hv.get hn
 rw [<- h2,<- h6]
 exact plus_fn C u v a b h4 h8 h1.1 h5.1 om_ om_
theorem minus_n (C:Mem){u v:Value}{m n k:Nat}(hu:NineC C u m)(hv:NineC C v n)(hm:m<B9 ^ k)(hle:n<=m)(hk:k<=1000000):Pur cx.P 131 [u,v] C fun w D=>NineC D w (m-n):=by
 obtain ⟨a,h1,h2,h3,h4⟩:=hu.get hm
 obtain ⟨b,h5,h6,h7⟩:=hv
 rw [<- h2,<- h6]
 refine minus_fn C u v a b h4 h7 h1.1 h5.1 om_ ?_ om_
 rcases Nat.lt_or_ge a.length b.length with h | h
 ·have:=len9_lt h1.1 h5 h;omega
 ·exact h
theorem times_n (C:Mem){u v:Value}{m n k:Nat}(hu:NineC C u m)(hv:NineC C v n)(hm:m<B9 ^ k)(hn:n<B9 ^ k)(hk:k<=1000000):Pur cx.P 125 [u,v] C fun w D=>NineC D w (m*n):=by
 obtain ⟨a,h1,h2,h3,h4⟩:=hu.get hm
 obtain ⟨b,h5,h6,h7,h8⟩:=hv.get hn
 rw [<- h2,<- h6]
 exact times_fn C u v a b h4 h8 h1.1 h5.1 om_ om_
theorem trim_n (C:Mem){u:Value}{l:List Nat}(hd:Dig9 l)(hu:Sl C 1 u (l.map encU)):Pur cx.P 145 [u] C fun w D=>NineC D w (val9 l) :=
 (trim9_fn C u l hu).mono fun _w _D _L' _ ⟨h1,h2⟩=>⟨h1,cut9 l,er hd,ep l,h2⟩
theorem small_n (C:Mem){u:Value}{m d k:Nat}(hu:NineC C u m)(hm:m<B9 ^ k)(hd:d<B9)(hk:k<=999999):Pur cx.P 147 [u,.int .u64 d] C fun w D=>NineC D w (m*d):=by
 obtain ⟨A,n,c,rfl⟩:=hu.form
 refine Fn.it kr_ Tryz.func147 10 fun w0=>?_
 refine G.z2 1 0 1 ?_
 refine G.rp 2 fun R hR=>?_
 refine D.ah [encU d] (fun p7 C7 hle7 hs7=>?_)
 refine D.ap (trim_n _ (l:=[d]) (fun x hx=>by rw [List.mem_singleton.1 hx];exact hd) hs7) rfl rfl rfl rfl rfl rfl rfl fl_ (fun v8 C8 hle8 hq8=>?_)
 refine D.ap (times_n (k:=k+1) _ (hu.mono mup) hq8 (bI hm om_) (by show d+B9*0<_;rw [Nat.pow_succ];have:0<B9 ^ k:=Nat.pow_pos (by decide);have h2:=Nat.mul_le_mul_right B9 this;omega) om_) rfl rfl rfl rfl rfl rfl rfl fl_ (fun v9 C9 hle9 hq9=>?_)
 refine D.q1 1 4 hR ?_
 refine G.rf ?_
 refine ⟨rfl, ?_⟩
 have e:val9 [d]=d:=by show d+B9*0=d;omega
 rw [e] at hq9
 exact hq9
end Go.Proofs.YtjhmlnebikbdbaaGreatDoor
