/- Laws that the proofs of this seat share, part 7. -/
import Derived.Test.YtifolnapeolhcaaGreatDoorG6
import Derived.Test.YtifolnapeolhcaaGreatDoorShelf
set_option maxHeartbeats 4000000
namespace Go.Jog
open Go Go.MapKept

section
variable {cx:Cx} {n:Nat} {ds:List (Option Nat)} {R:Rg n ds} {its:List It} {fr:Fr} {C:Mem} {L:List Ent} {i k d:Nat} {o:Oper} {g:GL} {v:Value}
variable {κ:Type} (enc:κ->Value)

end
end Go.Jog
namespace Go.Jog
open Go Go.MapKept

section
variable {cx:Cx} {n:Nat} {ds:List (Option Nat)} {R:Rg n ds} {its:List It} {fr:Fr} {C:Mem} {L:List Ent} {i k d:Nat} {o:Oper} {g:GL} {v:Value}
variable {κ:Type} (enc:κ->Value)

end
end Go.Jog
namespace Go.Jog
open Go Go.MapKept

section
variable {cx:Cx} {n:Nat} {ds:List (Option Nat)} {R:Rg n ds} {its:List It} {fr:Fr} {C:Mem} {L:List Ent} {i k d:Nat} {o:Oper} {g:GL} {v:Value} {κ:Type} [DecidableEq κ]
end
end Go.Jog
namespace Go.Jog
open Go Go.MapKept

section
variable {κ β:Type} [DecidableEq κ]
end
theorem PtrTo.blockT {C:Mem}{b:Nat}{cs:List Value}{t:TypeId}{fz:Nat × Nat}(h:C b=some (.cells ⟨cs⟩ t fz))(off n:Nat):PtrTo C (.pointer (some ⟨b,off,none⟩)) ((cs.drop off).take n) :=
 let ⟨a,h1,h2,h3⟩:=PtrTo.block h off
 ⟨a,h1,h2,fun j v hj=>h3 j v (by
  rw [List.getElem?_take] at hj
  split at hj
  ·exact hj
  ·cases hj)⟩
theorem bkT {C D:Mem}{b:Nat}{cs:List Value}{t:TypeId}{fz:Nat × Nat}(h:C b=some (.cells ⟨cs⟩ t fz))(n:Nat){off:Nat}(hl:C.le D:=by (repeat (first | exact Mem.le.refl _ | assumption | (apply Mem.le.trans;rotate_left;assumption)))):PtrTo D (.pointer (some ⟨b,off,none⟩)) ((cs.drop off).take n):=PtrTo.blockT (Mem.get h hl) off n
section
variable {F:Fx} {k:List KI} {fr:Fr} {C:Mem} {L:List Ent}
theorem G.formS {e:Exit}{v:Value}{t size len:Nat}{xs:List Value}(hm:Ent.arr v t size len xs∈L)(h:∀ A c,v=.slice A len c->xs.length=len*size->len<=c->c<=maxLen->G F k e fr C L):G F k e fr C L :=
 G.form hm fun hf hx=>by
  rcases hf with ⟨h1,h2⟩ | ⟨g,c,h1,h2,h3⟩
  ·exact h none 0 (by rw [h1,h2]) hx om_ (Nat.zero_le _)
  ·exact h _ c h1 hx h2 h3
end
end Go.Jog
namespace Go.Proofs.YtifolnapeolhcaaGreatDoor
open Go Go.Jog
set_option maxRecDepth 100000

def RowsT (C:Mem)(v:Value)(rows:List (List Str × Str)):Prop:=∃ vs:List Value,vs.length=rows.length/\(∀ (i:Nat)(w:Value)(r:List Str × Str),vs[i]?=some w->rows[i]?=some r->Sl C 1 w (r.1.map dY))/\Sl C 2 v (List.zipWith (fun w (r:List Str × Str)=>[w,strV r.2]) vs rows)
theorem RowsT.mono {C D:Mem}{v:Value}{rows:List (List Str × Str)}(h:RowsT C v rows)(hl:C.le D):RowsT D v rows:=by
 obtain ⟨vs,h1,h2,h3⟩:=h
 exact ⟨vs,h1,fun i w r hw hr=>(h2 i w r hw hr).mono hl,h3.mono hl⟩
theorem zipT_at {vs:List Value}{rows:List (List Str × Str)}{i:Nat}{w:Value}{r:List Str × Str}(h1:vs[i]?=some w)(h2:rows[i]?=some r):(List.zipWith (fun w (r:List Str × Str)=>[w,strV r.2]) vs rows)[i]?=some [w,strV r.2]:=by
 rw [List.getElem?_zipWith,h1,h2]
theorem eA {vs:List Value}{rows:List (List Str × Str)}(h:vs.length=rows.length):(List.zipWith (fun w (r:List Str × Str)=>[w,strV r.2]) vs rows).length=rows.length:=by simp [h]
def rowZ (n:Int)(r:List Str × Str):Int:=if bk n r.1≠0 then bk n r.1 else chkZ (aY r.2)
def eF (n:Int):List (List Str × Str)->Int
 | []=>0
 | r::l=>if rowZ n r≠0 then rowZ n r else eF n l
def chkP (n:Int)(rows:List (List Str × Str))(obj:List Str):Int:=if n<0∨60<n then 3 else if 300<rows.length then 4 else if bk n obj≠0 then bk n obj else eF n rows
def RowsL (rows:List (List Str × Str)):Prop:=∀ r∈rows,(∀ s∈r.1,s.length<=999998)/\r.2.length<=999998
theorem pcheck_fn (C:Mem)(hT:Tabs C)(n:Int)(rv ov:Value)(rows:List (List Str × Str))(obj:List Str)(hr:RowsT C rv rows)(ho:Sl C 1 ov (obj.map dY))(hrl:RowsL rows)(hol:∀ s∈obj,s.length<=999998) :
  Gives cx.P 20 [.agg ⟨[.int .i64 n,rv,ov]⟩] C (.int .i64 (chkP n rows obj)):=by
 obtain ⟨vs,hvl,hvr,hvs⟩:=hr
 obtain ⟨A0,c0,rfl,hc1,hc2,_⟩:=id hvs
 obtain ⟨A1,c1,rfl,hc3,hc4,_⟩:=id ho
 have hmx:maxLen<=9223372036854775807:=by simp [maxLen]
 simp only [eA hvl,List.length_map] at hvs ho hc1 hc3 ⊢
 refine Fn.it kr_ Tryz.func20 48 fun w0=>?_
 refine G.rg fun R hR=>?_
 refine D.aX (fun b1=>?_)
 refine D.q1 1 1 hR ?_
 refine G.freeze 0 rfl (fun C1 hle1 hb1=>?_)
 refine G.rp 1 fun R hR=>?_
 refine D.ac (bkT hb1 1) ?_
 refine D.ps 3 ?_
 refine D.aK rfl rfl rfl rfl rfl rfl (fun _=>PtrTo.blockT (Mem.get hb1 mup) _ 1) rfl rfl rfl ?_
 refine D.ae ?_
 refine D.aG rfl rfl rfl rfl rfl rfl rfl rfl ?_
 refine D.q2 1 1 7 hR ?_
 refine G.cd (fun h7=>?_) fun h7=>?_
 ·have hn:n<0∨60<n:=by
   simp only [Bool.or_eq_true,decide_eq_true_eq] at h7
   omega
  refine G.z1 1 2 ?_
  refine G.rf ?_
  exact ⟨by unfold chkP;rw [if_pos hn],rfl⟩
 ·have hn:¬ (n<0∨60<n):=by
   simp only [Bool.or_eq_false_iff,decide_eq_false_iff_not] at h7
   omega
  refine G.rp 1 fun R hR=>?_
  refine D.ac (bkT hb1 1) ?_
  refine D.q2 3 1 16 hR ?_
  refine G.cd (fun h16=>?_) fun h16=>?_
  ·have hr3:300<rows.length:=by
    have:=of_decide_eq_true h16
    omega
   refine G.z1 1 2 ?_
   refine G.rf ?_
   exact ⟨by unfold chkP;rw [if_neg hn,if_pos hr3],rfl⟩
  ·have hr3:¬ 300<rows.length:=by
    have:=of_decide_eq_false h16
    omega
   refine G.rp 1 fun R hR=>?_
   refine D.ac (bkT hb1 1) ?_
   refine D.ae ?_
   refine D.ac (bkT hb1 1) ?_
   refine D.aj (plist_fn _ (hT.mono mup) _ n obj (ho.mono mup) hol) ?_
   refine D.q2 1 1 3 hR ?_
   refine G.z3 2 1 3 27 ?_
   refine G.cd (fun h27=>?_) fun h27=>?_
   ·have hz:bk n obj≠0:=by simpa using h27
    refine G.z1 2 2 ?_
    refine G.rf ?_
    exact ⟨by unfold chkP;rw [if_neg hn,if_neg hr3,if_pos hz],rfl⟩
   ·have hz:¬ bk n obj≠0:=by simpa using h27
    have hP:chkP n rows obj=eF n rows:=by unfold chkP;rw [if_neg hn,if_neg hr3,if_neg hz]
    refine G.rp 1 fun R hR=>?_
    refine D.ac (bkT hb1 1) ?_
    refine D.q4 2 1 30 31 32 hR ?_
    refine G.loop (fun fr C' L' μ=>∃ (i:Nat),(i<=rows.length/\eF n rows=eF n (rows.drop i))/\fr=[(1,[],.pointer (some ⟨b1,0,none⟩)),(30,[],.slice A0 rows.length c0),(31,[],.int .i64 rows.length),(32,[],.int .i64 i)]/\L'=[]/\μ=rows.length-i) (h_4 1 30 31 32) ⟨0,⟨Nat.zero_le _,rfl⟩,rfl,rfl,rfl⟩ (fun fr C0' L0' m hle0 hI=>?_)
    obtain ⟨i,⟨hi,hrz⟩,rfl,rfl,rfl⟩:=hI
    refine G.z5 1 1 30 31 32 33 ?_
    refine G.cd (fun h33=>?_) fun h33=>?_
    ·have hil:i<rows.length:=by
      have:=of_decide_eq_true h33
      omega
     obtain ⟨r,hri⟩:∃ r,rows[i]?=some r:=⟨rows[i],List.getElem?_eq_getElem hil⟩
     obtain ⟨w,hw⟩:∃ w,vs[i]?=some w:=⟨vs[i]'om_,List.getElem?_eq_getElem _⟩
     have hrm:=List.mem_of_getElem? hri
     have hsw:=hvr i w r hw hri
     obtain ⟨Aw,cw,rfl,_⟩:=id hsw
     have hdr:rows.drop i=r::rows.drop (i+1):=List.drop_eq_getElem_cons hil |>.trans (by rw [(List.getElem?_eq_some_iff.1 hri).2])
     rw [hdr] at hrz
     simp only [eF] at hrz
     refine G.rg fun R hR=>?_
     refine D.ak (hvs.mono mup) rfl rfl rfl rfl rfl rfl rfl rfl rfl rfl om_ (zipT_at hw hri) fl_ (fun p34 hp34=>?_)
     refine D.ac hp34 ?_
     refine D.aC (fun b5=>?_)
     refine D.ag (j:=0) ?_
     refine D.e5 1 5 30 31 32 hR ?_
     refine G.freeze 0 rfl (fun C5 hle5 hb5=>?_)
     refine G.rp 1 fun R hR=>?_
     refine D.ac (bkT hb5 1) ?_
     refine D.ae ?_
     refine D.ac (bkT hb1 1) ?_
     refine D.aj (plist_fn _ (hT.mono mup) _ n r.1 (hsw.mono mup) (hrl r hrm).1) ?_
     refine D.q6 1 1 5 6 30 31 32 hR ?_
     refine G.z7 2 1 5 6 30 31 32 42 ?_
     refine G.cd (fun h42=>?_) fun h42=>?_
     ·have hz1:bk n r.1≠0:=by simpa using h42
      have hrw:rowZ n r=bk n r.1:=by unfold rowZ;rw [if_pos hz1]
      refine G.z1 2 2 ?_
      refine G.rf ?_
      exact ⟨by rw [hP,hrz,hrw,if_pos hz1],rfl⟩
     ·have hz1:¬ bk n r.1≠0:=by simpa using h42
      have hrw:rowZ n r=chkZ (aY r.2):=by unfold rowZ;rw [if_neg hz1]
      refine G.rp 1 fun R hR=>?_
      refine D.ac (bkT hb5 1) ?_
      refine D.aj (pwrong_fn _ (hT.mono mup) r.2 (hrl r hrm).2) ?_
      refine D.e5 1 30 31 32 46 hR ?_
      refine G.cd (fun h46=>?_) fun h46=>?_
      ·have hno:aY r.2=false:=by simpa using h46
       refine G.z1 1 2 ?_
       refine G.rf ?_
       exact ⟨by rw [hP,hrz,hrw,hno];rfl,rfl⟩
      ·have hyes:aY r.2=true:=by simpa using h46
       refine G.rg fun R hR=>?_
       refine D.aq _ ?_
       refine D.q4 1 1 30 31 32 hR ?_
       refine G.ap (m':=rows.length-(i+1)) om_ mup (h_4 1 30 31 32) ⟨i+1,⟨by omega,by rw [hrz,hrw,hyes];rfl⟩,rfl,rfl,rfl⟩
    ·have hil:i=rows.length:=by
      have:=of_decide_eq_false h33
      omega
     refine G.z1 1 2 ?_
     refine G.rf ?_
     exact ⟨by rw [hP,hrz,hil,List.drop_length];rfl,rfl⟩
end Go.Proofs.YtifolnapeolhcaaGreatDoor
namespace Go.Jog.Lp

def sumN (g:Nat->Rat):Nat->Rat
 | 0=>0
 | n+1=>sumN g n+g n
theorem sumN_congr {g h:Nat->Rat}:∀ {n:Nat},(∀ j,j<n->g j=h j)->sumN g n=sumN h n
 | 0,_=>rfl
 | n+1,e=>by rw [sumN,sumN,sumN_congr fun j hj=>e j om_,e n om_]
theorem cM (g h:Nat->Rat):∀ n:Nat,sumN (fun j=>g j+h j) n=sumN g n+sumN h n
 | 0=>by simp only [sumN];grind
 | n+1=>by simp only [sumN];rw [cM g h n];grind
theorem ci (k:Rat)(g:Nat->Rat):∀ n:Nat,sumN (fun j=>k*g j) n=k*sumN g n
 | 0=>by simp only [sumN];grind
 | n+1=>by simp only [sumN];rw [ci k g n];grind
theorem bH:∀ {g:Nat->Rat}{n:Nat},(∀ j,j<n->g j=0)->sumN g n=0
 | _,0,_=>rfl
 | g,n+1,e=>by rw [sumN,bH fun j hj=>e j om_,e n om_];grind
theorem eD {g:Nat->Rat}{a:Nat}:∀ {n:Nat},a<n->sumN g n=g a+sumN (fun j=>if j=a then 0 else g j) n
 | n+1,h=>by
  rcases Nat.lt_or_ge a n with h1 | h1
  ·rw [sumN,eD h1,sumN,if_neg om_];grind
  ·have e:a=n:=by omega
   subst e
   rw [sumN,sumN,if_pos rfl,sumN_congr (h:=g) fun j hj=>if_neg om_];grind
theorem sumN_le:∀ {g:Nat->Rat}{n:Nat},(∀ j,j<n->g j<=0)->sumN g n<=0
 | _,0,_=>by simp only [sumN];grind
 | g,n+1,e=>by
  have h1:=sumN_le (g:=g) (n:=n) fun j hj=>e j om_
  have h2:=e n om_
  rw [sumN];grind
theorem sumN_ge:∀ {g:Nat->Rat}{n:Nat},(∀ j,j<n->0<=g j)->0<=sumN g n
 | _,0,_=>by simp only [sumN];grind
 | g,n+1,e=>by
  have h1:=sumN_ge (g:=g) (n:=n) fun j hj=>e j om_
  have h2:=e n om_
  rw [sumN];grind

structure Line where
 c:Rat
 f:List Rat
def Line.g (l:Line)(j:Nat):Rat:=l.f.getD j 0
structure Tab where
 basic:List Nat
 lines:List Line
 others:List Nat
 worth:Line
def Tab.line (t:Tab)(i:Nat):Line:=t.lines.getD i ⟨0,[]⟩
def Tab.bas (t:Tab)(i:Nat):Nat:=t.basic.getD i 0
def Tab.oth (t:Tab)(j:Nat):Nat:=t.others.getD j 0
def lv (l:Line)(os:List Nat)(x:Nat->Rat):Rat:=l.c+sumN (fun j=>l.g j*x (os.getD j 0)) os.length
structure Tab.Ok (t:Tab)(N:Nat):Prop where
 ll:t.lines.length=t.basic.length
 fl:∀ l∈t.lines,l.f.length=t.others.length
 wl:t.worth.f.length=t.others.length
 nd:(t.basic++t.others).Nodup
 lt:∀ v∈t.basic++t.others,v<N
def Tab.Sol (t:Tab)(x:Nat->Rat):Prop:=∀ i,i<t.basic.length->x (t.bas i)=lv (t.line i) t.others x
def Tab.W (t:Tab)(x:Nat->Rat):Rat:=lv t.worth t.others x

def putL (l:Line)(s:Nat)(b:Line):Line:=⟨l.c+l.g s*b.c,(List.range l.f.length).map fun j=>(if j=s then 0 else l.g j)+l.g s*b.g j⟩
def byL (l:Line)(s:Nat):Line:=⟨-l.c / l.g s,(List.range l.f.length).map fun j=>if j=s then 1 / l.g s else -l.g j / l.g s⟩
def Tab.pivot (t:Tab)(r s:Nat):Tab :=
 { basic:=t.basic.set r (t.oth s),others:=t.others.set s (t.bas r),lines:=(List.range t.lines.length).map fun i=>if i=r then byL (t.line r) s else putL (t.line i) s (byL (t.line r) s),worth:=putL t.worth s (byL (t.line r) s) }
theorem map_range_getD {f:Nat->Rat}{n j:Nat}(h:j<n):((List.range n).map f).getD j 0=f j:=by
 rw [List.getD_eq_getElem?_getD,List.getElem?_map,List.getElem?_range h];rfl
theorem putL_g {l b:Line}{s j:Nat}(h:j<l.f.length):(putL l s b).g j=(if j=s then 0 else l.g j)+l.g s*b.g j:=map_range_getD h
theorem byL_g {l:Line}{s j:Nat}(h:j<l.f.length):(byL l s).g j=if j=s then 1 / l.g s else -l.g j / l.g s:=map_range_getD h
theorem set_at {l:List Nat}{s v j:Nat}(h:s<l.length):(l.set s v).getD j 0=if j=s then v else l.getD j 0:=by
 rw [List.getD_eq_getElem?_getD,List.getD_eq_getElem?_getD,List.getElem?_set]
 by_cases e:s=j
 ·subst e
  rw [if_pos rfl,if_pos h,if_pos rfl];rfl
 ·rw [if_neg e,if_neg (Ne.symm e)]
theorem lv_at {l:Line}{os:List Nat}{s:Nat}{x:Nat->Rat}(hs:s<os.length):lv l os x=l.c+(l.g s*x (os.getD s 0)+sumN (fun j=>if j=s then 0 else l.g j*x (os.getD j 0)) os.length):=by
 unfold lv
 rw [eD hs]
theorem lv_put {l b:Line}{os:List Nat}{s v:Nat}{x:Nat->Rat}(hs:s<os.length)(hl:l.f.length=os.length) :
  lv (putL l s b) (os.set s v) x=l.c+(l.g s*lv b (os.set s v) x+sumN (fun j=>if j=s then 0 else l.g j*x (os.getD j 0)) os.length):=by
 unfold lv
 rw [List.length_set]
 have e:sumN (fun j=>(putL l s b).g j*x ((os.set s v).getD j 0)) os.length=sumN (fun j=>l.g s*(b.g j*x ((os.set s v).getD j 0))+(if j=s then 0 else l.g j*x (os.getD j 0))) os.length:=sumN_congr fun j hj=>by
  rw [putL_g om_,set_at hs]
  by_cases h:j=s
  ·rw [if_pos h,if_pos h,if_pos h];grind
  ·rw [if_neg h,if_neg h,if_neg h];grind
 rw [e,cM,ci]
 show l.c+l.g s*b.c+_=_
 grind
theorem lv_by {l:Line}{os:List Nat}{s v:Nat}{x:Nat->Rat}(hs:s<os.length)(hl:l.f.length=os.length)(hk:l.g s≠0) :
  (x v=lv l os x ↔ x (os.getD s 0)=lv (byL l s) (os.set s v) x):=by
 have h2:lv (byL l s) (os.set s v) x=-l.c / l.g s+(1 / l.g s*x v + -1 / l.g s*sumN (fun j=>if j=s then 0 else l.g j*x (os.getD j 0)) os.length):=by
  rw [lv_at (by rw [List.length_set];exact hs),List.length_set,byL_g om_,if_pos rfl,set_at hs,if_pos rfl,<- ci]
  have e:sumN (fun j=>if j=s then 0 else (byL l s).g j*x ((os.set s v).getD j 0)) os.length=sumN (fun j=>-1 / l.g s*if j=s then 0 else l.g j*x (os.getD j 0)) os.length:=sumN_congr fun j hj=>by
   by_cases h:j=s
   ·rw [if_pos h,if_pos h];grind
   ·rw [if_neg h,if_neg h,byL_g om_,if_neg h,set_at hs,if_neg h];grind
  rw [e]
  rfl
 rw [h2,lv_at hs]
 generalize sumN (fun j=>if j=s then 0 else l.g j*x (os.getD j 0)) os.length=S
 generalize l.g s=k at hk
 constructor <;> intro h <;> grind
theorem line_mem {t:Tab}{N i:Nat}(h:t.Ok N)(hi:i<t.basic.length):t.line i∈t.lines:=by
 unfold Tab.line
 rw [List.getD_eq_getElem?_getD,List.getElem?_eq_getElem (by rw [h.ll];exact hi)]
 exact List.getElem_mem _
theorem pivot_line {t:Tab}{r s i:Nat}(hi:i<t.lines.length):(t.pivot r s).line i=if i=r then byL (t.line r) s else putL (t.line i) s (byL (t.line r) s):=by
 unfold Tab.line Tab.pivot
 rw [List.getD_eq_getElem?_getD,List.getElem?_map,List.getElem?_range hi];rfl
theorem pivot_sol {t:Tab}{N r s:Nat}{x:Nat->Rat}(h:t.Ok N)(hr:r<t.basic.length)(hs:s<t.others.length)(hk:(t.line r).g s≠0):(t.pivot r s).Sol x ↔ t.Sol x:=by
 have hlr:=h.fl _ (line_mem h hr)
 have hby:=lv_by (x:=x) (v:=t.bas r) hs hlr hk
 have hb:∀ i,(t.pivot r s).bas i=if i=r then t.oth s else t.bas i:=fun i=>set_at hr
 have ho:(t.pivot r s).others=t.others.set s (t.bas r):=rfl
 have hl:(t.pivot r s).basic.length=t.basic.length:=List.length_set
 constructor
 ·intro hS i hi
  have h0:=hS r (by rw [hl];exact hr)
  rw [hb,if_pos rfl,pivot_line (by rw [h.ll];exact hr),if_pos rfl,ho] at h0
  by_cases e:i=r
  ·subst e;exact hby.2 h0
  ·have h1:=hS i (by rw [hl];exact hi)
   rw [hb,if_neg e,pivot_line (by rw [h.ll];exact hi),if_neg e,ho,lv_put hs (h.fl _ (line_mem h hi)),<- h0] at h1
   rw [h1,lv_at hs];rfl
 ·intro hS i hi
  rw [hl] at hi
  have h0:=hby.1 (hS r hr)
  rw [hb,pivot_line (by rw [h.ll];exact hi),ho]
  by_cases e:i=r
  ·rw [if_pos e,if_pos e];exact h0
  ·rw [if_neg e,if_neg e,lv_put hs (h.fl _ (line_mem h hi)),<- h0,hS i hi,lv_at hs]
theorem pivot_W {t:Tab}{N r s:Nat}{x:Nat->Rat}(h:t.Ok N)(hr:r<t.basic.length)(hs:s<t.others.length)(hk:(t.line r).g s≠0)(hx:t.Sol x):(t.pivot r s).W x=t.W x:=by
 have hlr:=h.fl _ (line_mem h hr)
 have h0:=(lv_by (x:=x) (v:=t.bas r) hs hlr hk).1 (hx r hr)
 show lv (putL t.worth s (byL (t.line r) s)) (t.others.set s (t.bas r)) x=_
 rw [lv_put hs h.wl,<- h0]
 unfold Tab.W
 rw [lv_at hs]
theorem set_perm {a b:List Nat}{r s:Nat}(hr:r<a.length)(hs:s<b.length):(a.set r (b.getD s 0)++b.set s (a.getD r 0)).Perm (a++b):=by
 have e:∀ {l:List Nat}{i:Nat}(_:i<l.length)(v:Nat),(v::l).Perm (l.getD i 0::l.set i v):=by
  intro l
  induction l with
  | nil=>intro i h;exact absurd h (Nat.not_lt_zero _)
  | cons y l ih =>
   intro i h v
   cases i with
   | zero=>exact List.Perm.swap _ _ _
   | succ i =>
    have h1:=ih (i:=i) (by simpa using h) v
    show (v::y::l).Perm (l.getD i 0::y::l.set i v)
    exact (List.Perm.swap _ _ _).trans ((h1.cons y).trans (List.Perm.swap _ _ _))
 have h1:=e hr (b.getD s 0)
 have h2:=e hs (a.getD r 0)
 have h3:(b.getD s 0::a.getD r 0::(a++b)).Perm (a.getD r 0::b.getD s 0::(a.set r (b.getD s 0)++b.set s (a.getD r 0))):=by
  have p1:(b.getD s 0::a.getD r 0::(a++b)).Perm ((b.getD s 0::a)++(a.getD r 0::b)):=by
   refine List.Perm.cons _ ?_
   exact List.perm_middle.symm
  have p2:=h1.append h2
  have p3:((a.getD r 0::a.set r (b.getD s 0))++(b.getD s 0::b.set s (a.getD r 0))).Perm (a.getD r 0::b.getD s 0::(a.set r (b.getD s 0)++b.set s (a.getD r 0))):=by
   refine List.Perm.cons _ ?_
   exact List.perm_middle
  exact p1.trans (p2.trans p3)
 exact ((h3.trans (List.Perm.swap _ _ _)).cons_inv.cons_inv).symm
theorem pivot_ok {t:Tab}{N r s:Nat}(h:t.Ok N)(hr:r<t.basic.length)(hs:s<t.others.length):(t.pivot r s).Ok N:=by
 have hp:((t.pivot r s).basic++(t.pivot r s).others).Perm (t.basic++t.others):=set_perm hr hs
 refine ⟨?_, ?_, ?_,(List.Perm.nodup_iff hp).2 h.nd,fun v hv=>h.lt v (hp.mem_iff.1 hv)⟩
 ·show ((List.range t.lines.length).map _).length=(t.basic.set _ _).length
  rw [List.length_map,List.length_range,List.length_set,h.ll]
 ·intro l hl
  obtain ⟨i,hi,rfl⟩:=List.mem_map.1 hl
  rw [List.mem_range] at hi
  show _=(t.others.set _ _).length
  rw [List.length_set]
  split
  ·show ((List.range _).map _).length=_
   rw [List.length_map,List.length_range]
   exact h.fl _ (line_mem h hr)
  ·show ((List.range _).map _).length=_
   rw [List.length_map,List.length_range]
   exact h.fl _ (line_mem h (by rw [<- h.ll];exact hi))
 ·show ((List.range _).map _).length=(t.others.set _ _).length
  rw [List.length_map,List.length_range,List.length_set,h.wl]
end Go.Jog.Lp
namespace Go.Proofs.YtifolnapeolhcaaGreatDoor
open Go Go.Jog
set_option maxRecDepth 100000

theorem dV {a b:Rat}{k m:Nat}(ha:QB k a)(hb:QB m b):QB (k+m) (a*b):=by
 rw [rat_mul_mk]
 refine mk_bound (Nat.mul_ne_zero a.den_nz b.den_nz) ?_ ?_
 ·rw [Int.natAbs_mul,Nat.pow_add];exact Nat.mul_lt_mul'' ha.1 hb.1
 ·rw [Nat.pow_add];exact Nat.mul_lt_mul'' ha.2 hb.2
theorem pQB_add {a b:Rat}{k m:Nat}(ha:QB k a)(hb:QB m b):QB (k+m+1) (a+b):=by
 rw [rat_add_mk]
 have e:B9 ^ (k+m+1)=B9 ^ k*B9 ^ m*B9:=by rw [Nat.pow_succ,Nat.pow_add]
 have p1:(a.num*b.den).natAbs<B9 ^ k*B9 ^ m:=by rw [Int.natAbs_mul,Int.natAbs_natCast];exact Nat.mul_lt_mul'' ha.1 hb.2
 have p2:(b.num*a.den).natAbs<B9 ^ k*B9 ^ m:=by rw [Int.natAbs_mul,Int.natAbs_natCast,Nat.mul_comm];exact Nat.mul_lt_mul'' ha.2 hb.1
 have p3:a.den*b.den<B9 ^ k*B9 ^ m:=Nat.mul_lt_mul'' ha.2 hb.2
 have hB:2*(B9 ^ k*B9 ^ m)<=B9 ^ k*B9 ^ m*B9:=by
  rw [Nat.mul_comm]
  exact Nat.mul_le_mul_left _ (by decide)
 refine mk_bound (Nat.mul_ne_zero a.den_nz b.den_nz) ?_ ?_
 ·rw [e];have:=Int.natAbs_add_le (a.num*b.den) (b.num*a.den);omega
 ·rw [e];omega

def facS (rs:List (List Rat × Rat))(ds:List Rat)(j n:Nat):Rat:=Lp.sumN (fun k=>ds.getD k 0*(rs.getD k ([],0)).1.getD j 0) n
def bndS (rs:List (List Rat × Rat))(ds:List Rat)(n:Nat):Rat:=Lp.sumN (fun k=>ds.getD k 0*(rs.getD k ([],0)).2) n
def bd (r:List Rat × Rat):List Str × Str:=(r.1.map qtx,qtx r.2)
structure RowsQ (n:Nat)(rs:List (List Rat × Rat)):Prop where
 l:∀ r∈rs,r.1.length=n
 q:∀ r∈rs,(∀ x∈r.1,QB 23 x)/\QB 23 r.2
 m:rs.length<=150
theorem getD_q {l:List Rat}{j:Nat}(h:∀ x∈l,QB 23 x):QB 23 (l.getD j 0):=by
 rw [List.getD_eq_getElem?_getD]
 cases e:l[j]? with
 | none=>exact ⟨by decide,by decide⟩
 | some x=>exact h x (List.mem_of_getElem? e)
theorem facS_qb {n:Nat}{rs:List (List Rat × Rat)}{ds:List Rat}(hr:RowsQ n rs)(hd:∀ x∈ds,QB 23 x)(j:Nat):∀ i,QB (48*(i+1)) (facS rs ds j i)
 | 0=>(show QB 1 (0:Rat) from ⟨by decide,by decide⟩).le om_
 | i+1=>by
  have h1:=facS_qb hr hd j i
  have h2:QB 23 ((rs.getD i ([],0)).1.getD j 0):=by
   refine getD_q fun x hx=>?_
   rw [List.getD_eq_getElem?_getD] at hx
   cases e:rs[i]? with
   | none=>rw [e] at hx;simp at hx
   | some r=>rw [e] at hx;exact (hr.q r (List.mem_of_getElem? e)).1 x hx
  exact (pQB_add h1 (dV (getD_q (j:=i) hd) h2)).le om_
theorem bndS_qb {n:Nat}{rs:List (List Rat × Rat)}{ds:List Rat}(hr:RowsQ n rs)(hd:∀ x∈ds,QB 23 x):∀ i,QB (48*(i+1)) (bndS rs ds i)
 | 0=>(show QB 1 (0:Rat) from ⟨by decide,by decide⟩).le om_
 | i+1=>by
  have h1:=bndS_qb hr hd i
  have h2:QB 23 (rs.getD i ([],0)).2:=by
   rw [List.getD_eq_getElem?_getD]
   cases e:rs[i]? with
   | none=>exact ⟨by decide,by decide⟩
   | some r=>exact (hr.q r (List.mem_of_getElem? e)).2
  exact (pQB_add h1 (dV (getD_q (j:=i) hd) h2)).le om_
def sumE (m:Nat)(d:List Str)(ds:List Rat):Int:=if bk m d≠0 then bk m d else if ds.any (fun q=>decide (q<0)) then 3 else 0
theorem psgn_neg (q:Rat):decide (sgnZ q.num<0)=decide (q<0):=by
 have h:q.num<0 ↔ q<0:=by rw [Rat.lt_iff];simp
 rw [decide_eq_decide]
 unfold sgnZ
 by_cases h1:q.num<0
 ·rw [if_pos h1];exact ⟨fun _=>h.1 h1,fun _=>by decide⟩
 ·rw [if_neg h1]
  exact ⟨fun h2=>by split at h2 <;> exact absurd h2 (by decide),fun h2=>absurd (h.2 h2) h1⟩
theorem pneg_fn (C:Mem)(q:Rat)(hl:(qtx q).length<=1000000):Gives cx.P 72 [strV (qtx q)] C (.bool (decide (q<0))):=by
 refine Fn.it kr_ Tryz.func72 6 fun w0=>?_
 refine G.z1 1 0 ?_
 refine G.rp 1 fun R hR=>?_
 refine D.aj (eE _ q hl) ?_
 refine D.q1 2 2 hR ?_
 refine G.rf ?_
 exact ⟨by rw [<- psgn_neg],rfl⟩
theorem qtx23 {q:Rat}(h:QB 23 q):(qtx q).length<=1000000:=Nat.le_trans (aZ h (by decide)) (by decide)
open Classical in
theorem anyNeg_fn (C:Mem)(v:Value)(ds:List Rat)(hv:Sl C 1 v (ds.map encR))(hd:∀ x∈ds,QB 23 x) :
  Gives cx.P 40 [v,.func (.func 72) #[] #[]] C (.bool (ds.any fun q=>decide (q<0))):=by
 have h:=pany_fn C v (ds.map qtx) 72 [] (fun s=>decide (∃ q:Rat,s=qtx q/\q<0)) (by rw [<- bS];exact hv) rfl (fun s hs D hD=>by
  obtain ⟨q,hq,rfl⟩:=List.mem_map.1 hs
  have e:decide (∃ p:Rat,qtx q=qtx p/\p<0)=decide (q<0):=by
   rw [decide_eq_decide]
   exact ⟨fun ⟨p,h1,h2⟩=>by rw [qtx_eq h1];exact h2,fun h2=>⟨q,rfl,h2⟩⟩
  rw [e]
  exact pneg_fn D q (qtx23 (hd q hq)))
 have e:(ds.map qtx).any (fun s=>decide (∃ q:Rat,s=qtx q/\q<0))=ds.any fun q=>decide (q<0):=by
  rw [List.any_map]
  congr 1
  funext q
  show decide (∃ p:Rat,qtx q=qtx p/\p<0)=decide (q<0)
  rw [decide_eq_decide]
  exact ⟨fun ⟨p,h1,h2⟩=>by rw [qtx_eq h1];exact h2,fun h2=>⟨q,rfl,h2⟩⟩
 rw [e] at h
 exact h
def midF (n:Nat)(rs:List (List Rat × Rat))(ds:List Rat)(i j:Nat):List Rat:=(List.range n).map fun j2=>if j2<j then facS rs ds j2 (i+1) else facS rs ds j2 i
theorem ey (b:Bool):chkZ b=0/\b=true∨chkZ b=2/\b=false:=by cases b <;> simp [chkZ]
theorem cW (n:Nat)(rs:List (List Rat × Rat))(ds:List Rat)(i j:Nat):(midF n rs ds i j).length=n:=by simp [midF]
theorem midF_at {n i j j2:Nat}{rs:List (List Rat × Rat)}{ds:List Rat}(h:j2<n):(midF n rs ds i j)[j2]?=some (if j2<j then facS rs ds j2 (i+1) else facS rs ds j2 i):=by
 unfold midF
 rw [List.getElem?_map,List.getElem?_range h];rfl
theorem midF_set {n i j:Nat}{rs:List (List Rat × Rat)}{ds:List Rat}(h:j<n):(midF n rs ds i j).set j (facS rs ds j (i+1))=midF n rs ds i (j+1):=by
 refine List.ext_getElem? fun k=>?_
 rw [List.getElem?_set,cW]
 by_cases hk:k<n
 ·rw [midF_at hk,midF_at hk]
  by_cases e:j=k
  ·subst e
   rw [if_pos rfl,if_pos hk,if_pos om_]
  ·rw [if_neg e]
   by_cases h1:k<j
   ·rw [if_pos h1,if_pos om_]
   ·rw [if_neg h1,if_neg om_]
 ·rw [List.getElem?_eq_none (by rw [cW];omega),List.getElem?_eq_none (by rw [cW];omega)]
  split
  ·exact absurd om_ hk
  ·rfl
theorem midF_full (n:Nat)(rs:List (List Rat × Rat))(ds:List Rat)(i:Nat):midF n rs ds i n=midF n rs ds (i+1) 0:=by
 refine List.ext_getElem? fun k=>?_
 by_cases hk:k<n
 ·rw [midF_at hk,midF_at hk,if_pos hk,if_neg om_]
 ·rw [List.getElem?_eq_none (by rw [cW];omega),List.getElem?_eq_none (by rw [cW];omega)]
theorem midF_nil (n:Nat)(rs:List (List Rat × Rat))(ds:List Rat):List.replicate n (strV [48])=((midF n rs ds 0 0).map encR).flatten:=by
 have e:midF n rs ds 0 0=List.replicate n 0:=by
  refine List.ext_getElem? fun k=>?_
  by_cases hk:k<n
  ·rw [midF_at hk,List.getElem?_replicate,if_pos hk,if_neg om_];rfl
  ·rw [List.getElem?_eq_none (by rw [cW];omega),List.getElem?_replicate,if_neg hk]
 rw [e,List.map_replicate,show encR 0=[strV [48]] by unfold encR;rw [qtx_zero]]
 clear e
 induction n with
 | zero=>rfl
 | succ n ih=>rw [List.replicate_succ,List.replicate_succ,List.flatten_cons,<- ih];rfl
theorem aU:∀ q:Rat,(encR q).length=1:=fun _=>rfl
theorem psums_fn (C:Mem)(hT:Tabs C)(n:Nat)(rv ov dv:Value)(rs:List (List Rat × Rat))(d:List Str)(ds:List Rat)(hr:RowsT C rv (rs.map bd))(hq:RowsQ n rs)(hn:n<=1000)(hd:Sl C 1 dv (d.map dY))(hdl:∀ s∈d,s.length<=999998)
  (hds:d.all aY=true->d=ds.map qtx/\∀ x∈ds,QB 23 x) :
  Pur cx.P 32 [.agg ⟨[.int .i64 n,rv,ov]⟩,.agg ⟨[dv]⟩] C fun u D=>∃ fv bs,u=.tuple #[fv,strV bs,.int .i64 (sumE rs.length d ds)]/\(sumE rs.length d ds=0->Sl D 1 fv ((midF n rs ds rs.length 0).map encR)/\bs=qtx (bndS rs ds rs.length)):=by
 obtain ⟨vs,hvl,hvr,hvs⟩:=hr
 obtain ⟨A0,c0,rfl,hc1,hc2,_⟩:=id hvs
 obtain ⟨A1,c1,rfl,hc3,hc4,_⟩:=id hd
 have hmx:maxLen<=9223372036854775807:=by simp [maxLen]
 have hqm:=hq.m
 simp only [eA hvl,List.length_map] at hvs hd hc1 hc3 hvl ⊢
 refine Fn.it kr_ Tryz.func32 72 fun w0=>?_
 refine G.rg fun R hR=>?_
 refine D.aX (fun b2=>?_)
 refine D.aX (fun b3=>?_)
 refine D.q2 3 2 3 hR ?_
 refine G.freeze 1 rfl (fun C1 hle1 hb1=>?_)
 refine G.freeze 0 rfl (fun C2 hle2 hb2=>?_)
 refine G.rp 1 fun R hR=>?_
 refine D.ac (bkT hb2 1) ?_
 refine D.ae ?_
 refine D.ac (bkT hb1 1) ?_
 refine D.ae ?_
 refine D.aj (plist_fn _ (hT.mono mup) _ (rs.length:Nat) d (hd.mono mup) hdl) ?_
 refine D.q3 1 2 3 7 hR ?_
 refine G.z4 2 2 3 7 19 ?_
 refine G.cd (fun h19=>?_) fun h19=>?_
 ·have hz:bk (rs.length:Nat) d≠0:=by simpa using h19
  have hE:sumE rs.length d ds=bk (rs.length:Nat) d:=by unfold sumE;rw [if_pos hz]
  refine G.z3 4 4 5 6 ?_
  refine G.ay (G.dropAll (G.eZ rfl rfl rfl rfl ?_))
  exact ⟨rfl,.slice none 0 0,[],by rw [hE];rfl,fun h=>absurd (hE.symm.trans h) hz⟩
 ·have hz:¬ bk (rs.length:Nat) d≠0:=by simpa using h19
  have hz0:bk (rs.length:Nat) d=0:=by simpa using hz
  have hdl2:d.length=rs.length:=by
   unfold bk at hz0
   split at hz0
   ·omega
   ·cases hz0
  have hall:d.all aY=true:=by
   unfold bk at hz0
   rw [if_pos om_] at hz0
   rcases ey (d.all aY) with ⟨h1,h2⟩ | ⟨h1,h2⟩
   ·exact h2
   ·rw [h1] at hz0;cases hz0
  obtain ⟨hdd,hdq⟩:=hds hall
  have hsl:ds.length=rs.length:=by rw [<- hdl2,hdd,List.length_map]
  have hd2:Sl C 1 (.slice A1 rs.length c1) (ds.map encR):=by rw [bS,<- hdd,<- hdl2];exact hd
  rw [hdl2] at hb2
  refine G.rp 1 fun R hR=>?_
  refine D.ac (bkT hb2 1) ?_
  refine D.aj (anyNeg_fn _ _ ds (hd2.mono mup) hdq) ?_
  refine D.e3 2 3 23 hR ?_
  refine G.cd (fun h23=>?_) fun h23=>?_
  ·have hE:sumE rs.length d ds=3:=by unfold sumE;rw [if_neg hz,if_pos h23]
   refine G.z3 3 4 5 6 ?_
   refine G.ay (G.dropAll (G.eZ rfl rfl rfl rfl ?_))
   exact ⟨rfl,.slice none 0 0,[],by rw [hE];rfl,fun h=>absurd (hE.symm.trans h) (by decide)⟩
  ·have hE:sumE rs.length d ds=0:=by unfold sumE;rw [if_neg hz,if_neg (by rw [h23];decide)]
   refine G.aA [(2,3)] rfl (fun R hR=>?_)
   refine D.ae ?_
   refine D.ac (bkT hb1 1) ?_
   refine D.call (pzeros_fn _ n om_) rfl (.inr (by decide)) rfl rfl rfl rfl rfl rfl (List.Perm.refl _) fl_ (fun v26 C26 L26 hle26 hq26=>?_)
   obtain ⟨bz,rfl,rfl⟩:=hq26
   refine D.q4 2 2 3 4 5 hR ?_
   refine G.rp 1 fun R hR=>?_
   refine D.ac (bkT hb2 1) ?_
   refine D.q6 2 2 4 5 28 29 30 hR ?_
   refine G.aM (L':=[.arr (.slice (some ⟨bz,0,none⟩) n n) 27 1 n ((midF n rs ds 0 0).map encR).flatten]) (by rw [midF_nil n rs ds];rfl) ?_
   refine G.loop (fun fr C' L' μ=>∃ (i:Nat)(bt:Str),(i<=rs.length/\bt=qtx (bndS rs ds i))/\fr=[(2,[],.pointer (some ⟨b2,0,none⟩)),(4,[],.slice (some ⟨bz,0,none⟩) n n),(5,[],strV bt),(28,[],.slice A1 rs.length c1),(29,[],.int .i64 rs.length),(30,[],.int .i64 i)]/\L'=[.arr (.slice (some ⟨bz,0,none⟩) n n) 27 1 n ((midF n rs ds i 0).map encR).flatten]/\μ=rs.length-i) (h_6 2 4 5 28 29 30) ⟨0,[48],⟨Nat.zero_le _,qtx_zero.symm⟩,rfl,rfl,rfl⟩ (fun fr C0' L0' m hle0 hI=>?_)
   obtain ⟨i,bt,⟨hi,hbt⟩,rfl,rfl,rfl⟩:=hI
   refine G.z7 1 2 4 5 28 29 30 31 ?_
   refine G.cd (fun h31=>?_) fun h31=>?_
   ·subst hbt
    have hil:i<rs.length:=by
     have:=of_decide_eq_true h31
     omega
    obtain ⟨r,hri⟩:∃ r,rs[i]?=some r:=⟨rs[i],List.getElem?_eq_getElem hil⟩
    have hrt:(rs.map bd)[i]?=some (bd r):=by rw [List.getElem?_map,hri];rfl
    obtain ⟨w,hw⟩:∃ w,vs[i]?=some w:=⟨vs[i]'om_,List.getElem?_eq_getElem _⟩
    obtain ⟨k,hk⟩:∃ k,ds[i]?=some k:=⟨ds[i]'om_,List.getElem?_eq_getElem om_⟩
    have hrm:=List.mem_of_getElem? hri
    have hsw:=hvr i w _ hw hrt
    have hsw2:Sl C 1 w (r.1.map encR):=by rw [bS];exact hsw
    obtain ⟨Aw,cw,rfl,_⟩:=id hsw2
    have hrl:=hq.l r hrm
    rw [List.length_map,hrl] at hsw2 hw
    have hkb:QB 23 k:=hdq k (List.mem_of_getElem? hk)
    have hgk:ds.getD i 0=k:=by rw [List.getD_eq_getElem?_getD,hk];rfl
    have hgr:rs.getD i ([],0)=r:=by rw [List.getD_eq_getElem?_getD,hri];rfl
    have hbq:=bndS_qb hq hdq i
    have hbs:bndS rs ds (i+1)=bndS rs ds i+k*r.2:=by
     unfold bndS
     simp only [Lp.sumN]
     rw [hgk,hgr]
    refine G.rp 1 fun R hR=>?_
    refine D.ak (hd2.mono mup) rfl rfl rfl rfl rfl rfl rfl rfl rfl rfl om_ (cQ hk) fl_ (fun p33 hp33=>?_)
    refine D.ac hp33 ?_
    refine D.q8 2 2 4 5 8 9 28 29 30 hR ?_
    refine G.rp 3 fun R hR=>?_
    refine D.ac (bkT hb1 1) ?_
    refine D.ae ?_
    refine D.ak (hvs.mono mup) rfl rfl rfl rfl rfl rfl rfl rfl rfl rfl om_ (zipT_at hw hrt) fl_ (fun p40 hp40=>?_)
    refine D.d5 hp40 rfl rfl rfl rfl rfl rfl rfl rfl rfl rfl fl_ (fun p41 hp41=>?_)
    refine D.ac hp41 ?_
    refine D.al (eG _ (hT.mono mup) k r.2 23 (by decide) (by decide) hkb (hq.q r hrm).2) rfl rfl rfl rfl rfl rfl rfl fl_ ?_
    refine D.al (radd_fn _ (hT.mono mup) (bndS rs ds i) (k*r.2) (48*(i+1)) om_ om_ hbq ((dV hkb (hq.q r hrm).2).le om_)) rfl rfl rfl rfl rfl rfl rfl fl_ ?_
    refine D.q8 1 2 4 5 8 9 28 29 30 hR ?_
    rw [<- hbs]
    refine G.rp 1 fun R hR=>?_
    refine D.ac (bkT hb1 1) ?_
    refine D.ae ?_
    refine D.ak (hvs.mono mup) rfl rfl rfl rfl rfl rfl rfl rfl rfl rfl om_ (zipT_at hw hrt) fl_ (fun p48 hp48=>?_)
    refine D.d5 hp48 rfl rfl rfl rfl rfl rfl rfl rfl rfl rfl fl_ (fun p49 hp49=>?_)
    refine D.ac hp49 ?_
    refine D.q10 2 2 4 5 9 28 29 30 50 51 52 hR ?_
    refine G.loop (fun fr C' L' μ=>∃ (j:Nat),(j<=n)/\fr=[(2,[],.pointer (some ⟨b2,0,none⟩)),(4,[],.slice (some ⟨bz,0,none⟩) n n),(5,[],strV (qtx (bndS rs ds (i+1)))),(9,[],strV (qtx k)),(28,[],.slice A1 rs.length c1),(29,[],.int .i64 rs.length),(30,[],.int .i64 i),(50,[],.slice Aw n cw),(51,[],.int .i64 n),(52,[],.int .i64 j)]/\L'=[.arr (.slice (some ⟨bz,0,none⟩) n n) 27 1 n ((midF n rs ds i j).map encR).flatten]/\μ=n-j) (h_10 2 4 5 9 28 29 30 50 51 52) ⟨0,Nat.zero_le _,rfl,rfl,rfl⟩ (fun fr C1' L1' m hle1 hI=>?_)
    obtain ⟨j,hj,rfl,rfl,rfl⟩:=hI
    refine G.z11 1 2 4 5 9 28 29 30 50 51 52 53 ?_
    refine G.cd (fun h53=>?_) fun h53=>?_
    ·have hjl:j<n:=by
      have:=of_decide_eq_true h53
      omega
     obtain ⟨x,hx⟩:∃ x,r.1[j]?=some x:=⟨r.1[j]'om_,List.getElem?_eq_getElem om_⟩
     have hxb:QB 23 x:=(hq.q r hrm).1 x (List.mem_of_getElem? hx)
     have hgx:r.1.getD j 0=x:=by rw [List.getD_eq_getElem?_getD,hx];rfl
     have hfb:=facS_qb hq hdq j i
     have hfs:facS rs ds j (i+1)=facS rs ds j i+k*x:=by
      unfold facS
      simp only [Lp.sumN]
      rw [hgk,hgr,hgx]
     have hget:(midF n rs ds i j)[j]?=some (facS rs ds j i):=by rw [midF_at hjl,if_neg om_]
     refine G.rp 1 fun R hR=>?_
     refine D.ak (hsw2.mono mup) rfl rfl rfl rfl rfl rfl rfl rfl rfl rfl om_ (cQ hx) fl_ (fun p55 hp55=>?_)
     refine D.ac hp55 ?_
     refine D.q12 2 2 4 5 9 10 11 28 29 30 50 51 52 hR ?_
     refine G.aH [0,1,2,3,4,5,6,7,8,9,10,11] [(8,1),(9,1)] rfl kr_ (fun R hB hR=>?_)
     refine D.ps 4 ?_
     refine D.aD (j*1) rfl rfl rfl rfl rfl rfl rfl rfl rfl rfl (fun _=>⟨by omega,by omega,rfl⟩) rfl rfl ?_
     refine D.aT (.head _) rfl rfl rfl rfl rfl rfl (fun _=>(by rw [bU aU hget];rfl)) rfl rfl ?_
     refine D.ps 2 ?_
     refine D.a6 (fun _=>(eG _ (hT.mono mup) k x 23 (by decide) (by decide) hkb hxb)) rfl rfl rfl rfl rfl rfl rfl rfl rfl ?_
     refine D.a6 (fun _=>(radd_fn _ (hT.mono mup) (facS rs ds j i) (k*x) (48*(i+1)) om_ om_ hfb ((dV hkb hxb).le om_))) rfl rfl rfl rfl rfl rfl rfl rfl rfl ?_
     refine D.aD (j*1) rfl rfl rfl rfl rfl rfl rfl rfl rfl rfl (fun _=>⟨by omega,by omega,rfl⟩) rfl rfl ?_
     refine D.aE (j:=0) rfl rfl rfl rfl rfl rfl rfl rfl rfl rfl rfl (by show j*1+1<=_;rw [aW aU,cW];omega) ?_
     refine D.e10 2 4 5 9 28 29 30 50 51 52 hR ?_
     refine G.rg fun R hR=>?_
     refine D.aq _ ?_
     refine D.q10 1 2 4 5 9 28 29 30 50 51 52 hR ?_
     refine G.aM (L':=[.arr (.slice (some ⟨bz,0,none⟩) n n) 27 1 n ((midF n rs ds i (j+1)).map encR).flatten]) (by rw [<- midF_set hjl,hfs,<- aL aU _ (by rw [cW];exact hjl)];rfl) ?_
     refine G.ap (m':=n-(j+1)) om_ mup (h_10 2 4 5 9 28 29 30 50 51 52) ⟨j+1,om_,rfl,rfl,rfl⟩
    ·have hjl:j=n:=by
      have:=of_decide_eq_false h53
      omega
     refine G.rg fun R hR=>?_
     refine D.aq _ ?_
     refine D.q6 1 2 4 5 28 29 30 hR ?_
     rw [hjl,midF_full]
     refine G.ap (m':=rs.length-(i+1)) om_ mup (h_6 2 4 5 28 29 30) ⟨i+1,_,⟨by omega,rfl⟩,rfl,rfl,rfl⟩
   ·subst hbt
    have hil:i=rs.length:=by
     have:=of_decide_eq_false h31
     omega
    subst hil
    refine G.z3 5 4 5 6 ?_
    refine G.freezeArr 0 ((midF n rs ds rs.length 0).map encR) rfl rfl (by intro r hr;obtain ⟨y,_,rfl⟩:=List.mem_map.1 hr;rfl) (by rw [List.length_map,cW]) (fun Cg hg hsl3=>?_)
    refine G.ay (G.dropAll (G.eZ rfl rfl rfl rfl ?_))
    exact ⟨rfl,_,_,by rw [hE],fun _=>⟨hsl3,rfl⟩⟩

theorem pnz_fn (C:Mem)(q:Rat):Gives cx.P 41 [strV (qtx q)] C (.bool (!decide (q=0))):=by
 refine Fn.it kr_ Tryz.func41 5 fun w0=>?_
 refine G.z1 1 0 ?_
 refine G.z1 3 2 ?_
 refine G.rf ?_
 exact ⟨by rw [<- dU],rfl⟩
open Classical in
theorem anyNz_fn (C:Mem)(v:Value)(ds:List Rat)(hv:Sl C 1 v (ds.map encR)) :
  Gives cx.P 40 [v,.func (.func 41) #[] #[]] C (.bool (ds.any fun q=>!decide (q=0))):=by
 have e1:∀ q:Rat,decide (∃ p:Rat,qtx q=qtx p/\¬ p=0)=!decide (q=0):=fun q=>by
  rw [<- decide_not,decide_eq_decide]
  exact ⟨fun ⟨p,h1,h2⟩=>by rw [qtx_eq h1];exact h2,fun h2=>⟨q,rfl,h2⟩⟩
 have h:=pany_fn C v (ds.map qtx) 41 [] (fun s=>decide (∃ q:Rat,s=qtx q/\¬ q=0)) (by rw [<- bS];exact hv) rfl (fun s hs D hD=>by
  obtain ⟨q,hq,rfl⟩:=List.mem_map.1 hs
  rw [e1]
  exact pnz_fn D q)
 have e:(ds.map qtx).any (fun s=>decide (∃ q:Rat,s=qtx q/\¬ q=0))=ds.any fun q=>!decide (q=0):=by
  rw [List.any_map]
  congr 1
  funext q
  exact e1 q
 rw [e] at h
 exact h
theorem psgn_ge (q:Rat):decide (sgnZ q.num ≥ 0)=decide (0<=q):=by
 have h:=psgn_neg q
 have h2:decide (0<=q)=!decide (q<0):=by
  rw [<- decide_not,decide_eq_decide]
  grind
 rw [h2,<- h,<- decide_not,decide_eq_decide]
 omega
def refP (n:Nat)(rows:List (List Str × Str))(obj d:List Str)(rs:List (List Rat × Rat))(ds:List Rat):Int :=
 if chkP n rows obj≠0 then chkP n rows obj else if sumE rs.length d ds≠0 then sumE rs.length d ds else if 0<=bndS rs ds rs.length∨(midF n rs ds rs.length 0).any (fun q=>!decide (q=0))=true then 23 else 0
theorem prefutes_fn (C:Mem)(hT:Tabs C)(n:Nat)(rv ov dv:Value)(rows:List (List Str × Str))(obj d:List Str)(rs:List (List Rat × Rat))(ds:List Rat)(hr:RowsT C rv rows)(ho:Sl C 1 ov (obj.map dY))(hrl:RowsL rows)(hol:∀ s∈obj,s.length<=999998)
  (hd:Sl C 1 dv (d.map dY)) (hdl:∀ s∈d,s.length<=999998) (hrs:chkP n rows obj=0->rows=rs.map bd/\RowsQ n rs) (hds:d.all aY=true->d=ds.map qtx/\∀ x∈ds,QB 23 x) :
  Gives cx.P 13 [.agg ⟨[.int .i64 n,rv,ov]⟩,.agg ⟨[dv]⟩] C (.int .i64 (refP n rows obj d rs ds)):=by
 have hr0:=hr
 have ho0:=ho
 have hd0:=hd
 obtain ⟨vs,hvl,hvr,hvs⟩:=hr
 obtain ⟨A0,c0,rfl,hc1,hc2,_⟩:=id hvs
 obtain ⟨A1,c1,rfl,hc3,hc4,_⟩:=id ho
 obtain ⟨A2,c2,rfl,hc5,hc6,_⟩:=id hd
 refine Fn.it kr_ Tryz.func13 33 fun w0=>?_
 refine G.rg fun R hR=>?_
 refine D.aX (fun b2=>?_)
 refine D.aX (fun b3=>?_)
 refine D.q2 1 2 3 hR ?_
 refine G.freeze 1 rfl (fun C1 hle1 hb1=>?_)
 refine G.freeze 0 rfl (fun C2 hle2 hb2=>?_)
 refine G.rg fun R hR=>?_
 refine D.ac (bkT hb1 3) ?_
 refine D.aj (pcheck_fn _ (hT.mono mup) (n:Nat) _ _ rows obj (hr0.mono mup) (ho0.mono mup) hrl hol) ?_
 refine D.q3 1 2 3 5 hR ?_
 refine G.z4 2 2 3 5 12 ?_
 refine G.cd (fun h12=>?_) fun h12=>?_
 ·have hz:chkP n rows obj≠0:=by simpa using h12
  refine G.z1 2 4 ?_
  refine G.rf ?_
  exact ⟨by unfold refP;rw [if_pos hz],rfl⟩
 ·have hz:¬ chkP n rows obj≠0:=by simpa using h12
  have hz0:chkP n rows obj=0:=by simpa using hz
  obtain ⟨hre,hq⟩:=hrs hz0
  have hn60:n<=60:=by
   unfold chkP at hz0
   split at hz0
   ·cases hz0
   ·omega
  refine G.rg fun R hR=>?_
  refine D.ac (bkT hb1 3) ?_
  refine D.ac (bkT hb2 1) ?_
  refine D.ax (psums_fn _ (hT.mono mup) n _ _ _ rs d ds (by rw [<- hre];exact hr0.mono mup) hq om_ (hd0.mono mup) hdl hds) rfl rfl rfl rfl rfl rfl rfl fl_ (fun v17 C17 hle17 hq17=>?_)
  obtain ⟨fv,bt,rfl,hfb⟩:=hq17
  refine D.q3 7 6 7 8 hR ?_
  refine G.z4 3 6 7 8 21 ?_
  refine G.cd (fun h21=>?_) fun h21=>?_
  ·have hs:sumE rs.length d ds≠0:=by simpa using h21
   refine G.z1 2 4 ?_
   refine G.rf ?_
   exact ⟨by unfold refP;rw [if_neg hz,if_pos hs],rfl⟩
  ·have hs:¬ sumE rs.length d ds≠0:=by simpa using h21
   have hs0:sumE rs.length d ds=0:=by simpa using hs
   obtain ⟨hfv,hbt⟩:=hfb hs0
   subst hbt
   have hall:d.all aY=true:=by
    unfold sumE at hs0
    split at hs0
    ·rename_i h1
     exact absurd hs0 h1
    ·rename_i h1
     have h2:bk (rs.length:Nat) d=0:=by simpa using h1
     unfold bk at h2
     split at h2
     ·rcases ey (d.all aY) with ⟨_,h4⟩ | ⟨h3,_⟩
      ·exact h4
      ·rw [h3] at h2;cases h2
     ·cases h2
   have hbq:=bndS_qb hq (hds hall).2 rs.length
   have hqm:=hq.m
   refine G.rp 1 fun R hR=>?_
   refine D.al (eE _ (bndS rs ds rs.length) (Nat.le_trans (aZ hbq om_) om_)) rfl rfl rfl rfl rfl rfl rfl fl_ ?_
   refine D.ps 3 ?_
   refine D.bn (fun _=>(anyNz_fn _ _ _ (hfv.mono mup))) ?_
   refine D.aG rfl rfl rfl rfl rfl rfl rfl rfl ?_
   refine D.q1 1 25 hR ?_
   refine G.cd (fun h25=>?_) fun h25=>?_
   ·have hc:0<=bndS rs ds rs.length∨(midF n rs ds rs.length 0).any (fun q=>!decide (q=0))=true:=by
     rw [Bool.or_eq_true,psgn_ge,decide_eq_true_eq] at h25
     exact h25
    refine G.z1 1 4 ?_
    refine G.rf ?_
    exact ⟨by unfold refP;rw [if_neg hz,if_neg hs,if_pos hc],rfl⟩
   ·have hc:¬ (0<=bndS rs ds rs.length∨(midF n rs ds rs.length 0).any (fun q=>!decide (q=0))=true):=by
     rw [Bool.or_eq_false_iff,psgn_ge,decide_eq_false_iff_not] at h25
     rintro (h1 | h1)
     ·exact h25.1 h1
     ·rw [h25.2] at h1;cases h1
    refine G.z1 1 4 ?_
    refine G.rf ?_
    exact ⟨by unfold refP;rw [if_neg hz,if_neg hs,if_neg hc],rfl⟩
end Go.Proofs.YtifolnapeolhcaaGreatDoor
namespace Go.Jog.Lp

theorem bJ:∀ {l:List Nat}{i:Nat},l.Nodup->i<l.length->l.idxOf (l.getD i 0)=i
 | x::l,0,_,_=>by simp []
 | x::l,i+1,hn,hi=>by
  have hn':=List.nodup_cons.1 hn
  have hi':i<l.length:=by simpa using hi
  have hm:l.getD i 0∈l:=by
   rw [List.getD_eq_getElem?_getD,List.getElem?_eq_getElem hi'];exact List.getElem_mem _
  show (x::l).idxOf (l.getD i 0)=i+1
  rw [List.idxOf_cons]
  have hne:(x == l.getD i 0)=false:=by
   rw [beq_eq_false_iff_ne]
   rintro rfl
   exact hn'.1 hm
  rw [hne,bJ hn'.2 hi']
  rfl
theorem eP {l:List Nat}{i:Nat}(h:i<l.length):l.getD i 0∈l:=by
 rw [List.getD_eq_getElem?_getD,List.getElem?_eq_getElem h];exact List.getElem_mem _
theorem cj {l:List Nat}{v:Nat}(h:v∈l):∃ i,i<l.length/\l.getD i 0=v:=by
 obtain ⟨i,hi,e⟩:=List.getElem_of_mem h
 exact ⟨i,hi,by rw [List.getD_eq_getElem?_getD,List.getElem?_eq_getElem hi,e];rfl⟩
section
variable {t:Tab} {N:Nat}
theorem Tab.Ok.nb (h:t.Ok N):t.basic.Nodup:=(List.nodup_append.1 h.nd).1
theorem Tab.Ok.no (h:t.Ok N):t.others.Nodup:=(List.nodup_append.1 h.nd).2.1
theorem Tab.Ok.dj (h:t.Ok N){v:Nat}(hb:v∈t.basic)(ho:v∈t.others):False:=(List.nodup_append.1 h.nd).2.2 v hb v ho rfl
theorem bas_mem {i:Nat}(h:i<t.basic.length):t.bas i∈t.basic:=eP h
theorem oth_mem {j:Nat}(h:j<t.others.length):t.oth j∈t.others:=eP h
def Tab.ext (t:Tab)(y:Nat->Rat)(v:Nat):Rat:=if v∈t.basic then lv (t.line (t.basic.idxOf v)) t.others y else y v
theorem ext_oth (_h:t.Ok N){y:Nat->Rat}{v:Nat}(hv:v ∉ t.basic):t.ext y v=y v:=if_neg hv
theorem ext_bas (h:t.Ok N){y:Nat->Rat}{i:Nat}(hi:i<t.basic.length):t.ext y (t.bas i)=lv (t.line i) t.others y:=by
 unfold Tab.ext
 rw [if_pos (bas_mem hi)]
 unfold Tab.bas
 rw [bJ h.nb hi]
theorem lv_ext (h:t.Ok N){y:Nat->Rat}(l:Line):lv l t.others (t.ext y)=lv l t.others y:=by
 unfold lv
 congr 1
 exact sumN_congr fun j hj=>by rw [show t.ext y (t.others.getD j 0)=y (t.others.getD j 0) from ext_oth h (fun hb=>h.dj hb (oth_mem hj))]
theorem ext_sol (h:t.Ok N)(y:Nat->Rat):t.Sol (t.ext y):=fun i hi=>by rw [ext_bas h hi,lv_ext h]
theorem lv_zero (l:Line)(os:List Nat):lv l os (fun _=>0)=l.c:=by
 unfold lv
 rw [bH fun j _=>by grind]
 grind
def Tab.sol (t:Tab):Nat->Rat:=t.ext fun _=>0
theorem sol_bas (h:t.Ok N){i:Nat}(hi:i<t.basic.length):t.sol (t.bas i)=(t.line i).c:=by
 unfold Tab.sol
 rw [ext_bas h hi,lv_zero]
theorem sol_oth (h:t.Ok N){v:Nat}(hv:v ∉ t.basic):t.sol v=0:=by unfold Tab.sol;rw [ext_oth h hv]
theorem db (h:t.Ok N):t.Sol t.sol:=ext_sol h _
theorem sol_W (h:t.Ok N):t.W t.sol=t.worth.c:=by
 unfold Tab.W Tab.sol
 rw [lv_ext h,lv_zero]
theorem mem_pivot {r s v:Nat}(h:t.Ok N)(hr:r<t.basic.length)(_hs:s<t.others.length):v∈(t.pivot r s).basic ↔ v=t.oth s∨v∈t.basic/\v≠t.bas r:=by
 have hb:∀ i,(t.pivot r s).bas i=if i=r then t.oth s else t.bas i:=fun i=>set_at hr
 have hl:(t.pivot r s).basic.length=t.basic.length:=List.length_set
 constructor
 ·intro hv
  obtain ⟨i,hi,e⟩:=cj hv
  rw [hl] at hi
  have e2:(t.pivot r s).bas i=v:=e
  rw [hb] at e2
  by_cases hir:i=r
  ·rw [if_pos hir] at e2;exact .inl e2.symm
  ·rw [if_neg hir] at e2
   refine .inr ⟨by rw [<- e2];exact bas_mem hi,fun e3=>hir ?_⟩
   have h1:=bJ h.nb hi
   have h2:=bJ h.nb hr
   have e4:t.basic.getD i 0=t.basic.getD r 0:=by rw [show t.basic.getD i 0=v from e2];exact e3
   rw [e4,h2] at h1
   exact h1.symm
 ·rintro (rfl | ⟨hv,hne⟩)
  ·have:=bas_mem (t:=t.pivot r s) (i:=r) (by rw [hl];exact hr)
   rw [hb,if_pos rfl] at this
   exact this
  ·obtain ⟨i,hi,e⟩:=cj hv
   have hir:i≠r:=by rintro rfl;exact hne e.symm
   have:=bas_mem (t:=t.pivot r s) (i:=i) (by rw [hl];exact hi)
   rw [hb,if_neg hir] at this
   rw [<- e]
   exact this
end
structure Way (F N:Nat)(T:Nat->Tab)(R S:Nat->Nat)(K:Nat):Prop where
 ok:(T 0).Ok N
 st:∀ k,k<K->T (k+1)=(T k).pivot (R k) (S k)
 r:∀ k,k<K->R k<(T k).basic.length
 s:∀ k,k<K->S k<(T k).others.length
 ne:∀ k,k<K->((T k).line (R k)).g (S k)≠0
 rs:∀ k,k<K->F<=(T k).bas (R k)
 ss:∀ k,k<K->F<=(T k).oth (S k)
section
variable {F N K:Nat} {T:Nat->Tab} {R S:Nat->Nat}
theorem Way.oks (h:Way F N T R S K):∀ k,k<=K->(T k).Ok N
 | 0,_=>h.ok
 | k+1,hk=>by
  rw [h.st k hk]
  exact pivot_ok (h.oks k om_) (h.r k hk) (h.s k hk)
theorem Way.sol1 (h:Way F N T R S K){x:Nat->Rat}:∀ k,k<=K->((T k).Sol x ↔ (T 0).Sol x)
 | 0,_=>Iff.rfl
 | k+1,hk=>by
  rw [h.st k hk,pivot_sol (h.oks k om_) (h.r k hk) (h.s k hk) (h.ne k hk)]
  exact h.sol1 k om_
theorem Way.sols (h:Way F N T R S K){x:Nat->Rat}{k l:Nat}(hk:k<=K)(hl:l<=K):(T k).Sol x ↔ (T l).Sol x:=(h.sol1 k hk).trans (h.sol1 l hl).symm
theorem Way.w1 (h:Way F N T R S K){x:Nat->Rat}(hx:(T 0).Sol x):∀ k,k<=K->(T k).W x=(T 0).W x
 | 0,_=>rfl
 | k+1,hk=>by
  rw [h.st k hk,pivot_W (h.oks k om_) (h.r k hk) (h.s k hk) (h.ne k hk) ((h.sol1 k om_).2 hx)]
  exact h.w1 hx k om_
theorem Way.ws (h:Way F N T R S K){x:Nat->Rat}{k l:Nat}(hk:k<=K)(hl:l<=K)(hx:(T k).Sol x):(T k).W x=(T l).W x :=
 have h0:=(h.sol1 k hk).1 hx
 (h.w1 h0 k hk).trans (h.w1 h0 l hl).symm
def Fick (T:Nat->Tab)(R S:Nat->Nat)(a b v:Nat):Prop:=∃ k,a<=k/\k<b/\((T k).bas (R k)=v∨(T k).oth (S k)=v)
theorem Way.step (h:Way F N T R S K){k v:Nat}(hk:k<K):v∈(T (k+1)).basic ↔ v=(T k).oth (S k)∨v∈(T k).basic/\v≠(T k).bas (R k):=by
 rw [h.st k hk]
 exact mem_pivot (h.oks k om_) (h.r k hk) (h.s k hk)
theorem Way.still (h:Way F N T R S K){a b v:Nat}(hb:b<=K)(hv:¬ Fick T R S a b v):∀ k,a<=k->k<=b->(v∈(T k).basic ↔ v∈(T a).basic):=by
 intro k hak
 induction k with
 | zero=>intro _;rw [show a=0 by omega]
 | succ k ih =>
  intro hkb
  rcases Nat.lt_or_ge k a with h1 | h1
  ·rw [show a=k+1 by omega]
  ·rw [h.step om_,<- ih h1 om_]
   constructor
   ·rintro (rfl | ⟨h2,_⟩)
    ·exact absurd ⟨k,h1,by omega,.inr rfl⟩ hv
    ·exact h2
   ·intro h2
    exact .inr ⟨h2,fun e=>hv ⟨k,h1,by omega,.inl e.symm⟩⟩
theorem Way.leaves (h:Way F N T R S K){a b v:Nat}(hb:b<=K)(hs:v∈(T a).basic ↔ v∈(T b).basic)(hv:Fick T R S a b v):∃ k,a<=k/\k<b/\(T k).bas (R k)=v:=by
 apply Classical.byContradiction
 intro hno
 obtain ⟨k,h1,h2,h3 | h3⟩:=hv
 ·exact hno ⟨k,h1,h2,h3⟩
 ·have up:∀ l,k+1<=l->l<=b->v∈(T l).basic:=by
   intro l
   induction l with
   | zero=>intro h4;omega
   | succ l ih =>
    intro h4 h5
    rw [h.step om_]
    rcases Nat.lt_or_ge l (k+1) with h6 | h6
    ·rw [show l=k by omega];exact .inl h3.symm
    ·exact .inr ⟨ih h6 om_,fun e=>hno ⟨l,by omega,by omega,e.symm⟩⟩
  have ha:=hs.2 (up b om_ (Nat.le_refl _))
  have dn:∀ l,a<=l->l<=k->v∈(T l).basic:=by
   intro l
   induction l with
   | zero=>intro h4 _;rw [show a=0 by omega] at ha;exact ha
   | succ l ih =>
    intro h4 h5
    rcases Nat.lt_or_ge l a with h6 | h6
    ·rw [show a=l+1 by omega] at ha;exact ha
    ·rw [h.step om_]
     exact .inr ⟨ih h6 om_,fun e=>hno ⟨l,by omega,by omega,e.symm⟩⟩
  have hk:=dn k h1 (Nat.le_refl _)
  rw [<- h3] at hk
  exact (h.oks k om_).dj hk (oth_mem (h.s k om_))
theorem Way.enters (h:Way F N T R S K){a b v:Nat}(hb:b<=K)(hs:v∈(T a).basic ↔ v∈(T b).basic)(hv:Fick T R S a b v):∃ k,a<=k/\k<b/\(T k).oth (S k)=v:=by
 apply Classical.byContradiction
 intro hno
 obtain ⟨k,h1,h2,h3 | h3⟩:=hv
 ·have up:∀ l,k+1<=l->l<=b->v ∉ (T l).basic:=by
   intro l
   induction l with
   | zero=>intro h4;omega
   | succ l ih =>
    intro h4 h5 hm
    rcases (h.step om_).1 hm with e | ⟨e,e2⟩
    ·exact hno ⟨l,by omega,by omega,e.symm⟩
    ·rcases Nat.lt_or_ge l (k+1) with h6 | h6
     ·have:l=k:=by omega
      subst this
      exact e2 h3.symm
     ·exact ih h6 om_ e
  have ha:v ∉ (T a).basic:=fun hm=>up b om_ (Nat.le_refl _) (hs.1 hm)
  have dn:∀ l,a<=l->l<=k->v ∉ (T l).basic:=by
   intro l
   induction l with
   | zero=>intro h4 _;rw [show a=0 by omega] at ha;exact ha
   | succ l ih =>
    intro h4 h5 hm
    rcases Nat.lt_or_ge l a with h6 | h6
    ·rw [show a=l+1 by omega] at ha;exact ha hm
    ·rcases (h.step om_).1 hm with e | ⟨e,_⟩
     ·exact hno ⟨l,by omega,by omega,e.symm⟩
     ·exact ih h6 om_ e
  have hk:=dn k h1 (Nat.le_refl _)
  rw [<- h3] at hk
  exact hk (bas_mem (h.r k om_))
 ·exact hno ⟨k,h1,h2,h3⟩
theorem Way.fick_slack (h:Way F N T R S K){a b v:Nat}(hb:b<=K)(hv:Fick T R S a b v):F<=v/\v<N:=by
 obtain ⟨k,h1,h2,h3 | h3⟩:=hv
 ·rw [<- h3]
  exact ⟨h.rs k om_,(h.oks k om_).lt _ (List.mem_append_left _ (bas_mem (h.r k om_)))⟩
 ·rw [<- h3]
  exact ⟨h.ss k om_,(h.oks k om_).lt _ (List.mem_append_right _ (oth_mem (h.s k om_)))⟩
theorem max_of {p:Nat->Prop}:∀ N:Nat,(∀ v,p v->v<N)->(∃ v,p v)->∃ t,p t/\∀ u,p u->u<=t
 | 0,hb,⟨v,hv⟩=>absurd (hb v hv) (Nat.not_lt_zero _)
 | N+1,hb,he=>by
  by_cases hN:p N
  ·exact ⟨N,hN,fun u hu=>by have:=hb u hu;omega⟩
  ·exact max_of N (fun v hv=>by
    have:=hb v hv
    rcases Nat.lt_or_ge v N with h1 | h1
    ·exact h1
    ·exact absurd (show p N by rwa [show N=v by omega]) hN) he
theorem Way.moved (h:Way F N T R S K){a b k l v:Nat}(hb:b<=K)(h1:a<=k)(h2:k<=b)(h3:a<=l)(h4:l<=b)(hk:v∈(T k).basic)(hl:v ∉ (T l).basic):Fick T R S a b v:=by
 apply Classical.byContradiction
 intro hv
 exact hl (((h.still hb hv k h1 h2).trans (h.still hb hv l h3 h4).symm).1 hk)
theorem Way.feas (h:Way F N T R S K)
  (h1:∀ k,k<K->((T k).line (R k)).c<0/\∀ i,i<(T k).basic.length->F<=(T k).bas i->((T k).line i).c<0->(T k).bas (R k)<=(T k).bas i)
  (h2:∀ k,k<K->0<((T k).line (R k)).g (S k)/\∀ j,j<(T k).others.length->F<=(T k).oth j->0<((T k).line (R k)).g j->(T k).oth (S k)<=(T k).oth j)
  {a b:Nat} (hab:a<b) (hb:b<=K):¬ ∀ v,v∈(T a).basic ↔ v∈(T b).basic:=by
 intro hs
 obtain ⟨t,ht,hmax⟩:=max_of (p:=Fick T R S a b) N (fun v hv=>(h.fick_slack hb hv).2) ⟨_,a,Nat.le_refl _,hab,.inl rfl⟩
 obtain ⟨k,k1,k2,hk⟩:=h.leaves hb (hs t) ht
 obtain ⟨l,l1,l2,hl⟩:=h.enters hb (hs t) ht
 have okk:=h.oks k om_
 have okl:=h.oks l om_
 have hRl:=h.r l om_
 have hSl:=h.s l om_
 -- basic fickle slacks of the first one are not below 0,but t
 have pos:∀ u,Fick T R S a b u->u≠t->0<=(T k).sol u:=by
  intro u hu hne
  by_cases hub:u∈(T k).basic
  ·obtain ⟨i,hi,e⟩:=cj hub
   have e':(T k).bas i=u:=e
   rw [<- e',sol_bas okk hi]
   apply Classical.byContradiction
   intro hneg
   have:=(h1 k om_).2 i hi (by rw [e'];exact (h.fick_slack hb hu).1) (by grind)
   rw [hk,e'] at this
   exact hne (Nat.le_antisymm (hmax u hu) this)
  ·rw [sol_oth okk hub];exact Rat.le_refl
 have hneg:(T k).sol t<0:=by
  rw [<- hk,sol_bas okk (h.r k om_)]
  exact (h1 k om_).1
 have hrow:=(h.sols (x:=(T k).sol) om_ om_).1 (db okk) (R l) hRl
 have hro:(T l).bas (R l)≠t:=by
  intro e
  have:=bas_mem hRl
  rw [e,<- hl] at this
  exact okl.dj this (oth_mem hSl)
 have hr0:=pos _ ⟨l,l1,l2,.inl rfl⟩ hro
 rw [hrow] at hr0
 have hc:=(h1 l om_).1
 have hsum:sumN (fun j=>((T l).line (R l)).g j*(T k).sol ((T l).others.getD j 0)) (T l).others.length<=0:=by
  refine sumN_le fun j hj=>?_
  show ((T l).line (R l)).g j*(T k).sol ((T l).oth j)<=0
  by_cases hut:(T l).oth j=t
  ·have hpos:0<((T l).line (R l)).g j:=by
    have e:j=S l:=by
     have e1:=bJ okl.no hj
     have e2:=bJ okl.no hSl
     have e3:(T l).others.getD j 0=(T l).others.getD (S l) 0:=hut.trans hl.symm
     rw [e3,e2] at e1
     exact e1.symm
    rw [e];exact (h2 l om_).1
   rw [hut]
   have:=Rat.mul_lt_mul_of_pos_left hneg hpos
   grind
  ·by_cases hub:(T l).oth j∈(T k).basic
   ·have hf:=h.moved hb k1 om_ l1 om_ hub (fun hm=>okl.dj hm (oth_mem hj))
    have hx:=pos _ hf hut
    have hg:((T l).line (R l)).g j<=0:=by
     apply Classical.byContradiction
     intro hng
     have:=(h2 l om_).2 j hj (h.fick_slack hb hf).1 (by grind)
     rw [hl] at this
     exact hut (Nat.le_antisymm (hmax _ hf) this)
    have:=Rat.mul_nonneg (show 0<=-((T l).line (R l)).g j by grind) hx
    grind
   ·rw [sol_oth okk hub];grind
 unfold lv at hr0
 grind
end
end Go.Jog.Lp
namespace Go.Jog.Lp

section
variable {t:Tab} {N:Nat}
theorem lv_none {l:Line}{os:List Nat}{x:Nat->Rat}(h:∀ j,j<os.length->x (os.getD j 0)=0):lv l os x=l.c:=by
 unfold lv
 rw [bH fun j hj=>by rw [h j hj];grind]
 grind
theorem sol_only (h:t.Ok N){x:Nat->Rat}(hx:t.Sol x)(h0:∀ v,v ∉ t.basic->x v=0):∀ v,x v=t.sol v:=by
 intro v
 by_cases hv:v∈t.basic
 ·obtain ⟨i,hi,e⟩:=cj hv
  have e':t.bas i=v:=e
  rw [<- e',sol_bas h hi,hx i hi,lv_none fun j hj=>h0 _ (fun hb=>h.dj hb (oth_mem hj))]
 ·rw [h0 v hv,sol_oth h hv]
theorem W_none (h:t.Ok N){x:Nat->Rat}(h0:∀ v,v ∉ t.basic->x v=0):t.W x=t.worth.c:=lv_none fun _j hj=>h0 _ (fun hb=>h.dj hb (oth_mem hj))
def cl (s:Nat)(v:Nat):Rat:=if v=s then 1 else 0
theorem lv_unit (h:t.Ok N){l:Line}{s:Nat}(hs:s<t.others.length):lv l t.others (cl (t.oth s))=l.c+l.g s:=by
 rw [lv_at hs,bH fun j hj=>?_]
 ·show l.c+(l.g s*cl (t.oth s) (t.oth s)+0)=_
  unfold cl
  rw [if_pos rfl];grind
 ·by_cases e:j=s
  ·rw [if_pos e]
  ·rw [if_neg e]
   unfold cl
   rw [if_neg,Rat.mul_zero]
   intro e2
   have h1:=bJ h.no hj
   rw [show t.others.getD j 0=t.others.getD s 0 from e2,bJ h.no hs] at h1
   exact e h1.symm
end
section
variable {F N K:Nat} {T:Nat->Tab} {R S:Nat->Nat}
theorem Way.mini (h:Way F N T R S K)
  (h1:∀ k,k<K->(T k).worth.g (S k)<0/\∀ j,j<(T k).others.length->F<=(T k).oth j->(T k).worth.g j<0->(T k).oth (S k)<=(T k).oth j)
  (h2:∀ k,k<K->((T k).line (R k)).g (S k)<0/\∀ i,i<(T k).basic.length->F<=(T k).bas i->((T k).line i).g (S k)<0->((T k).line (R k)).c=0->((T k).line i).c=0->(T k).bas (R k)<=(T k).bas i)
  (h3:∀ k,k<K->∀ i,i<(T k).basic.length->F<=(T k).bas i->0<=((T k).line i).c)
  {a b:Nat} (hab:a<b) (hb:b<=K):¬ ∀ v,v∈(T a).basic ↔ v∈(T b).basic:=by
 intro hs
 -- the worth of the basic solutions
 have hby:∀ k,k<K->(T (k+1)).worth.c=(T k).worth.c+(T k).worth.g (S k)*(-((T k).line (R k)).c / ((T k).line (R k)).g (S k)):=fun k hk=>by
  rw [h.st k hk];rfl
 have hth:∀ k,k<K->0<=-((T k).line (R k)).c / ((T k).line (R k)).g (S k)/\(-((T k).line (R k)).c / ((T k).line (R k)).g (S k)=0->((T k).line (R k)).c=0):=fun k hk=>by
  have hc:=h3 k hk (R k) (h.r k hk) (h.rs k hk)
  have hg:=(h2 k hk).1
  generalize ((T k).line (R k)).c=c at hc
  generalize ((T k).line (R k)).g (S k)=g at hg
  have e:-c / g=c*(-g)⁻¹:=by grind
  have hp:0<(-g)⁻¹:=Rat.inv_pos.2 (by grind)
  refine ⟨by rw [e];exact Rat.mul_nonneg hc (by grind),fun h0=>?_⟩
  grind
 have hdn:∀ k,k<K->(T (k+1)).worth.c<=(T k).worth.c:=fun k hk=>by
  rw [hby k hk]
  have:=Rat.mul_nonneg (show 0<=-(T k).worth.g (S k) by have:=(h1 k hk).1;grind) (hth k hk).1
  grind
 have hmono:∀ d k,k+d<=K->(T (k+d)).worth.c<=(T k).worth.c:=by
  intro d
  induction d with
  | zero=>intro k _;exact Rat.le_refl
  | succ d ih =>
   intro k hk
   exact Rat.le_trans (hdn (k+d) om_) (ih k om_)
 have oka:=h.oks a om_
 have okb:=h.oks b hb
 have hend:(T a).worth.c=(T b).worth.c:=by
  rw [<- sol_W oka,h.ws om_ hb (db oka)]
  exact W_none okb fun v hv=>sol_oth oka (fun hm=>hv ((hs v).1 hm))
 have hsame:∀ k,a<=k->k<b->((T k).line (R k)).c=0:=by
  intro k k1 k2
  have e1:=hmono (k-a) a om_
  rw [show a+(k-a)=k by omega] at e1
  have e2:=hmono (b-(k+1)) (k+1) om_
  rw [show k+1+(b-(k+1))=b by omega] at e2
  have e3:=hby k om_
  have e4:=hdn k om_
  have e5:(T k).worth.g (S k)*(-((T k).line (R k)).c / ((T k).line (R k)).g (S k))=0:=by grind
  refine (hth k om_).2 ?_
  rcases Rat.mul_eq_zero.1 e5 with e6 | e6
  ·have:=(h1 k om_).1
   rw [e6] at this
   exact absurd this (by decide)
  ·exact e6
 have hsol:∀ k,a<=k->k<=b->∀ v,(T k).sol v=(T a).sol v:=by
  intro k
  induction k with
  | zero=>intro k1 _ v;rw [show a=0 by omega]
  | succ k ih =>
   intro k1 k2 v
   rcases Nat.lt_or_ge k a with h5 | h5
   ·rw [show a=k+1 by omega]
   ·rw [<- ih h5 om_ v]
    symm
    refine sol_only (h.oks (k+1) om_) ((h.sols om_ om_).1 (db (h.oks k om_))) (fun w hw=>?_) v
    by_cases hwk:w∈(T k).basic
    ·have e:w=(T k).bas (R k):=by
      apply Classical.byContradiction
      intro hne
      exact hw ((h.step om_).2 (.inr ⟨hwk,hne⟩))
     rw [e,sol_bas (h.oks k om_) (h.r k om_),hsame k h5 om_]
    ·exact sol_oth (h.oks k om_) hwk
 have hzero:∀ v,Fick T R S a b v->∀ k,a<=k->k<=b->(T k).sol v=0:=by
  intro v hv k k1 k2
  obtain ⟨l,l1,l2,e⟩:=h.enters hb (hs v) hv
  rw [hsol k k1 k2 v,<- hsol l l1 om_ v]
  exact sol_oth (h.oks l om_) (fun hm=>(h.oks l om_).dj hm (by rw [<- e];exact oth_mem (h.s l om_)))
 obtain ⟨t,ht,hmax⟩:=max_of (p:=Fick T R S a b) N (fun v hv=>(h.fick_slack hb hv).2) ⟨_,a,Nat.le_refl _,hab,.inl rfl⟩
 obtain ⟨k,k1,k2,hk⟩:=h.leaves hb (hs t) ht
 obtain ⟨l,l1,l2,hl⟩:=h.enters hb (hs t) ht
 have okk:=h.oks k om_
 have okl:=h.oks l om_
 have hRk:=h.r k om_
 have hSk:=h.s k om_
 have hSl:=h.s l om_
 have hx1:=ext_sol okk (cl ((T k).oth (S k)))
 have w1:=h.ws (k:=k) (l:=l) om_ om_ hx1
 have w0:=h.ws (k:=k) (l:=l) om_ om_ (db okk)
 rw [sol_W okk] at w0
 have w1':(T k).W ((T k).ext (cl ((T k).oth (S k))))=(T k).worth.c+(T k).worth.g (S k):=by
  unfold Tab.W
  rw [lv_ext okk,lv_unit okk hSk]
 rw [w1'] at w1
 have hneg:=(h1 k om_).1
 have hsig:Fick T R S a b ((T k).oth (S k)):=⟨k,k1,k2,.inr rfl⟩
 have hst:(T k).oth (S k)≠t:=by
  intro e
  have h4:=bas_mem hRk
  rw [hk,<- e] at h4
  exact okk.dj h4 (oth_mem hSk)
 -- a fickle one but t does not lower the worth at the second place
 have wpos:∀ j,j<(T l).others.length->Fick T R S a b ((T l).oth j)->(T l).oth j≠t->0<=(T l).worth.g j:=by
  intro j hj hf hne
  apply Classical.byContradiction
  intro hng
  have:=(h1 l om_).2 j hj (h.fick_slack hb hf).1 (by grind)
  rw [hl] at this
  exact hne (Nat.le_antisymm (hmax _ hf) this)
 have hsum:0<=sumN (fun j=>(T l).worth.g j*((T k).ext (cl ((T k).oth (S k))) ((T l).oth j)-(T k).sol ((T l).oth j))) (T l).others.length:=by
  refine sumN_ge fun j hj=>?_
  by_cases hub:(T l).oth j∈(T k).basic
  ·have hf:=h.moved hb k1 om_ l1 om_ hub (fun hm=>okl.dj hm (oth_mem hj))
   obtain ⟨i,hi,e⟩:=cj hub
   have e':(T k).bas i=(T l).oth j:=e
   have hci:((T k).line i).c=0:=by rw [<- sol_bas okk hi,e'];exact hzero _ hf k k1 om_
   rw [<- e',ext_bas okk hi,sol_bas okk hi,lv_unit okk hSk]
   have ez:((T k).line i).c+((T k).line i).g (S k)-((T k).line i).c=((T k).line i).g (S k):=by grind
   rw [ez]
   by_cases hut:(T l).oth j=t
   ·have hjl:j=S l:=by
     have e1:=bJ okl.no hj
     rw [show (T l).others.getD j 0=(T l).others.getD (S l) 0 from hut.trans hl.symm,bJ okl.no hSl] at e1
     exact e1.symm
    have hir:i=R k:=by
     have e1:=bJ okk.nb hi
     rw [show (T k).basic.getD i 0=(T k).basic.getD (R k) 0 from (e'.trans hut).trans hk.symm,bJ okk.nb hRk] at e1
     exact e1.symm
    have g1:=(h1 l om_).1
    have g2:=(h2 k om_).1
    rw [<- hjl] at g1
    rw [<- hir] at g2
    have:=Rat.mul_nonneg (show 0<=-(T l).worth.g j by grind) (show 0<=-((T k).line i).g (S k) by grind)
    grind
   ·have hw:=wpos j hj hf hut
    refine Rat.mul_nonneg hw ?_
    apply Classical.byContradiction
    intro hng
    have:=(h2 k om_).2 i hi (by rw [e'];exact (h.fick_slack hb hf).1) (by grind) (hsame k k1 k2) hci
    rw [hk,e'] at this
    exact hut (Nat.le_antisymm (hmax _ hf) this)
  ·rw [ext_oth okk hub,sol_oth okk hub]
   unfold cl
   split
   ·rename_i e
    have hw:=wpos j hj (by rw [e];exact hsig) (by rw [e];exact hst)
    have e2:(1:Rat)-0=1:=by grind
    rw [e2,Rat.mul_one]
    exact hw
   ·have e2:(0:Rat)-0=0:=by grind
    rw [e2,Rat.mul_zero]
    exact Rat.le_refl
 have hdiff:(T l).W ((T k).ext (cl ((T k).oth (S k))))-(T l).W (T k).sol=sumN (fun j=>(T l).worth.g j*((T k).ext (cl ((T k).oth (S k))) ((T l).oth j)-(T k).sol ((T l).oth j))) (T l).others.length:=by
  have e:=cM (fun j=>(T l).worth.g j*((T k).ext (cl ((T k).oth (S k))) ((T l).oth j)-(T k).sol ((T l).oth j))) (fun j=>(T l).worth.g j*(T k).sol ((T l).oth j)) (T l).others.length
  have e2:sumN (fun j=>(T l).worth.g j*((T k).ext (cl ((T k).oth (S k))) ((T l).oth j)-(T k).sol ((T l).oth j))+(T l).worth.g j*(T k).sol ((T l).oth j)) (T l).others.length=sumN (fun j=>(T l).worth.g j*(T k).ext (cl ((T k).oth (S k))) ((T l).others.getD j 0)) (T l).others.length:=sumN_congr fun j _=>by
   show _=(T l).worth.g j*(T k).ext (cl ((T k).oth (S k))) ((T l).oth j)
   grind
  rw [e2] at e
  unfold Tab.W lv
  rw [e]
  show _-((T l).worth.c+sumN (fun j=>(T l).worth.g j*(T k).sol ((T l).oth j)) (T l).others.length)=_
  grind
 rw [<- hdiff,<- w1,<- w0] at hsum
 grind
end
end Go.Jog.Lp
namespace Go.Jog.Lp

def cdN (p:Nat->Bool):Nat->Nat
 | 0=>0
 | n+1=>cdN p n+(if p n then 2 ^ n else 0)
theorem cdN_lt (p:Nat->Bool):∀ n,cdN p n<2 ^ n
 | 0=>Nat.one_pos
 | n+1=>by
  have:=cdN_lt p n
  have e:2 ^ (n+1)=2 ^ n+2 ^ n:=by rw [Nat.pow_succ];omega
  simp only [cdN]
  split <;> omega
theorem cdN_inj {p q:Nat->Bool}:∀ {n:Nat},cdN p n=cdN q n->∀ v,v<n->p v=q v
 | n+1,h,v,hv=>by
  have h1:=cdN_lt p n
  have h2:=cdN_lt q n
  simp only [cdN] at h
  have hn:p n=q n:=by
   cases hp:p n <;> cases hq:q n <;> simp [hp,hq] at h ⊢ <;> omega
  rw [hn] at h
  rcases Nat.lt_or_ge v n with h3 | h3
  ·exact cdN_inj om_ v h3
  ·rw [show v=n by omega];exact hn
theorem Way.len {F N K:Nat}{T:Nat->Tab}{R S:Nat->Nat}(h:Way F N T R S K)(hd:∀ a b,a<b->b<=K->¬ ∀ v,v∈(T a).basic ↔ v∈(T b).basic):K+1<=2 ^ N:=by
 have hn:((List.range (K+1)).map fun k=>cdN (fun v=>decide (v∈(T k).basic)) N).Nodup:=by
  unfold List.Nodup
  rw [List.pairwise_map]
  refine List.Pairwise.imp_of_mem ?_ List.pairwise_lt_range
  intro a b _ hb hab e
  refine hd a b hab (by rw [List.mem_range] at hb;omega) fun v=>?_
  have hlt:∀ k,k<=K->v∈(T k).basic->v<N:=fun k hk hv=>(h.oks k hk).lt v (List.mem_append_left _ hv)
  rw [List.mem_range] at hb
  constructor
  ·intro hv
   have:=cdN_inj e v (hlt a om_ hv)
   rw [decide_eq_true hv] at this
   exact of_decide_eq_true this.symm
  ·intro hv
   have:=cdN_inj e v (hlt b om_ hv)
   rw [decide_eq_true hv] at this
   exact of_decide_eq_true this
 have:=List.Nodup.length_le_of_subset (l₂:=List.range (2 ^ N)) hn (fun x hx=>by
  obtain ⟨k,_,rfl⟩:=List.mem_map.1 hx
  exact List.mem_range.2 (cdN_lt _ N))
 simpa using this
def Reach (P:Tab->Nat->Nat->Prop)(t:Tab)(K:Nat):Prop:=∃ (T:Nat->Tab)(R S:Nat->Nat),T 0=t/\∀ k,k<K->P (T k) (R k) (S k)/\T (k+1)=(T k).pivot (R k) (S k)
theorem Reach.cons {P:Tab->Nat->Nat->Prop}{t:Tab}{r s K:Nat}(h:P t r s)(hk:Reach P (t.pivot r s) K):Reach P t (K+1):=by
 obtain ⟨T,R,S,h0,h1⟩:=hk
 refine ⟨fun k=>match k with | 0=>t | k+1=>T k,fun k=>match k with | 0=>r | k+1=>R k,fun k=>match k with | 0=>s | k+1=>S k,rfl,fun k hk=>?_⟩
 cases k with
 | zero=>exact ⟨h,h0⟩
 | succ k=>exact h1 k om_
theorem Reach.one {P:Tab->Nat->Nat->Prop}{t:Tab}{r s:Nat}(h:P t r s):Reach P t 1:=Reach.cons h ⟨fun _=>t.pivot r s,fun _=>0,fun _=>0,rfl,fun _k hk=>absurd hk (Nat.not_lt_zero _)⟩
theorem Reach.fall {P:Tab->Nat->Nat->Prop}{t:Tab}{r s m:Nat}(h:P t r s)(hm:∀ K,Reach P t K->K<=m):0<m/\∀ K,Reach P (t.pivot r s) K->K<=m-1:=by
 have h1:=hm 1 (Reach.one h)
 exact ⟨by omega,fun K hK=>by have:=hm _ (Reach.cons h hK);omega⟩
structure FeasP (F:Nat)(t:Tab)(r s:Nat):Prop where
 hr:r<t.basic.length
 hs:s<t.others.length
 rs:F<=t.bas r
 ss:F<=t.oth s
 c:(t.line r).c<0
 rl:∀ i,i<t.basic.length->F<=t.bas i->(t.line i).c<0->t.bas r<=t.bas i
 g:0<(t.line r).g s
 sl:∀ j,j<t.others.length->F<=t.oth j->0<(t.line r).g j->t.oth s<=t.oth j
def Tab.Feas (F:Nat)(t:Tab):Prop:=∀ i,i<t.basic.length->F<=t.bas i->0<=(t.line i).c
structure MinP (F:Nat)(t:Tab)(r s:Nat):Prop where
 hr:r<t.basic.length
 hs:s<t.others.length
 rs:F<=t.bas r
 ss:F<=t.oth s
 w:t.worth.g s<0
 sl:∀ j,j<t.others.length->F<=t.oth j->t.worth.g j<0->t.oth s<=t.oth j
 g:(t.line r).g s<0
 rl:∀ i,i<t.basic.length->F<=t.bas i->(t.line i).g s<0->(t.line r).c / -(t.line r).g s<(t.line i).c / -(t.line i).g s∨(t.line r).c / -(t.line r).g s=(t.line i).c / -(t.line i).g s/\t.bas r<=t.bas i
 feas:t.Feas F
theorem feas_len {F N K:Nat}{t:Tab}(h:t.Ok N)(hr:Reach (FeasP F) t K):K<=2 ^ N:=by
 obtain ⟨T,R,S,h0,h1⟩:=hr
 have hw:Way F N T R S K:=⟨by rw [h0];exact h,fun k hk=>(h1 k hk).2,fun k hk=>(h1 k hk).1.hr,fun k hk=>(h1 k hk).1.hs,fun k hk=>by have:=(h1 k hk).1.g;grind,fun k hk=>(h1 k hk).1.rs,fun k hk=>(h1 k hk).1.ss⟩
 have:=hw.len fun a b hab hb=>hw.feas (fun k hk=>⟨(h1 k hk).1.c,(h1 k hk).1.rl⟩) (fun k hk=>⟨(h1 k hk).1.g,(h1 k hk).1.sl⟩) hab hb
 omega
theorem min_len {F N K:Nat}{t:Tab}(h:t.Ok N)(hr:Reach (MinP F) t K):K<=2 ^ N:=by
 obtain ⟨T,R,S,h0,h1⟩:=hr
 have hw:Way F N T R S K:=⟨by rw [h0];exact h,fun k hk=>(h1 k hk).2,fun k hk=>(h1 k hk).1.hr,fun k hk=>(h1 k hk).1.hs,fun k hk=>by have:=(h1 k hk).1.g;grind,fun k hk=>(h1 k hk).1.rs,fun k hk=>(h1 k hk).1.ss⟩
 have:=hw.len fun a b hab hb=>hw.mini (fun k hk=>⟨(h1 k hk).1.w,(h1 k hk).1.sl⟩) (fun k hk=>⟨(h1 k hk).1.g,fun i hi hF hg e1 e2=>by
  rcases (h1 k hk).1.rl i hi hF hg with h3 | h3
  ·rw [e1,e2] at h3
   have e3:∀ x:Rat,0 / x=0:=fun x=>by grind
   rw [e3,e3] at h3
   exact absurd h3 (by decide)
  ·exact h3.2⟩) (fun k hk=>(h1 k hk).1.feas) hab hb
 omega
theorem pivot_bas {t:Tab}{r s:Nat}(hr:r<t.basic.length)(i:Nat):(t.pivot r s).bas i=if i=r then t.oth s else t.bas i:=set_at hr
theorem pivot_oth {t:Tab}{r s:Nat}(hs:s<t.others.length)(j:Nat):(t.pivot r s).oth j=if j=s then t.bas r else t.oth j:=set_at hs
theorem min_feas {F N r s:Nat}{t:Tab}(h:t.Ok N)(hp:MinP F t r s):(t.pivot r s).Feas F:=by
 intro i hi hF
 have hl:(t.pivot r s).basic.length=t.basic.length:=List.length_set
 rw [hl] at hi
 rw [pivot_bas hp.hr] at hF
 rw [pivot_line (by rw [h.ll];exact hi)]
 have hcr:=hp.feas r hp.hr hp.rs
 have hgr:=hp.g
 have hth:0<=(t.line r).c / -(t.line r).g s:=by
  have hp:0<(-(t.line r).g s)⁻¹:=Rat.inv_pos.2 (by grind)
  have e:(t.line r).c / -(t.line r).g s=(t.line r).c*(-(t.line r).g s)⁻¹:=by grind
  rw [e];exact Rat.mul_nonneg hcr (by grind)
 have eth:-(t.line r).c / (t.line r).g s=(t.line r).c / -(t.line r).g s:=by grind
 by_cases e:i=r
 ·rw [if_pos e]
  show 0<=-(t.line r).c / (t.line r).g s
  rw [eth];exact hth
 ·rw [if_neg e] at hF ⊢
  show 0<=(t.line i).c+(t.line i).g s*(-(t.line r).c / (t.line r).g s)
  rw [eth]
  have hci:=hp.feas i hi hF
  by_cases hg:(t.line i).g s<0
  ·have hle:(t.line r).c / -(t.line r).g s<=(t.line i).c / -(t.line i).g s:=by
    rcases hp.rl i hi hF hg with h3 | h3
    ·exact Rat.le_of_lt h3
    ·rw [h3.1];exact Rat.le_refl
   generalize (t.line r).c / -(t.line r).g s=th at hle hth
   have e3:(t.line i).c=-(t.line i).g s*((t.line i).c / -(t.line i).g s):=by grind
   have:=Rat.mul_le_mul_of_nonneg_left hle (show 0<=-(t.line i).g s by grind)
   rw [<- e3] at this
   grind
  ·have:=Rat.mul_nonneg (show 0<=(t.line i).g s by grind) hth
   grind
end Go.Jog.Lp
namespace Go.Jog.Lp

abbrev Col:=Nat->Rat
def detN:Nat->Nat->List Col->Rat
 | 0,_,_=>1
 | n+1,r,l=>sumN (fun i=>(-1) ^ i*((l.getD i fun _=>0) r*detN n (r+1) (l.eraseIdx i))) (n+1)
def det (r:Nat)(l:List Col):Rat:=detN l.length r l
theorem eS {r:Nat}{l:List Col}{n:Nat}(h:l.length=n+1):det r l=sumN (fun i=>(-1) ^ i*((l.getD i fun _=>0) r*det (r+1) (l.eraseIdx i))) (n+1):=by
 unfold det
 rw [h]
 show sumN _ (n+1)=_
 refine sumN_congr fun i hi=>?_
 rw [List.length_eraseIdx,if_pos om_,h]
 rfl
theorem pow_neg_succ (i:Nat):(-1:Rat) ^ (i+1)=-(-1) ^ i:=by rw [Rat.pow_succ];grind
theorem getD_mid {a:Col}{l1 l2:List Col}{d:Col}:(l1++a::l2).getD l1.length d=a:=by
 rw [List.getD_eq_getElem?_getD,List.getElem?_append_right (Nat.le_refl _),Nat.sub_self];rfl
theorem getD_mid2 {a b:Col}{l1 l2:List Col}{d:Col}:(l1++a::b::l2).getD (l1.length+1) d=b:=by
 rw [List.getD_eq_getElem?_getD,List.getElem?_append_right om_,Nat.add_sub_cancel_left];rfl
theorem getD_out {a b:Col}{l1 l2:List Col}{d:Col}{i:Nat}(h:i≠l1.length):(l1++a::l2).getD i d=(l1++b::l2).getD i d:=by
 rw [List.getD_eq_getElem?_getD,List.getD_eq_getElem?_getD]
 rcases Nat.lt_or_ge i l1.length with h1 | h1
 ·rw [List.getElem?_append_left h1,List.getElem?_append_left h1]
 ·rw [List.getElem?_append_right h1,List.getElem?_append_right h1]
  cases e:i-l1.length with
  | zero=>omega
  | succ k=>rfl
theorem ep {a:Col}{l1 l2:List Col}:(l1++a::l2).eraseIdx l1.length=l1++l2:=by
 rw [List.eraseIdx_append_of_length_le (Nat.le_refl _),Nat.sub_self];rfl
theorem erase_mid2 {a b:Col}{l1 l2:List Col}:(l1++a::b::l2).eraseIdx (l1.length+1)=l1++a::l2:=by
 rw [List.eraseIdx_append_of_length_le om_,Nat.add_sub_cancel_left];rfl
theorem erase_out {l1 l2:List Col}{i:Nat}(h:i≠l1.length)(h2:i<l1.length+1+l2.length):∃ m1 m2:List Col,m1.length+1+m2.length+1=l1.length+1+l2.length/\∀ a:Col,(l1++a::l2).eraseIdx i=m1++a::m2:=by
 rcases Nat.lt_or_ge i l1.length with h1 | h1
 ·refine ⟨l1.eraseIdx i,l2, ?_,fun a=>List.eraseIdx_append_of_lt_length h1 _⟩
  rw [List.length_eraseIdx,if_pos h1];omega
 ·obtain ⟨k,hk⟩:∃ k,i-l1.length=k+1:=⟨i-l1.length-1,by omega⟩
  refine ⟨l1,l2.eraseIdx k, ?_,fun a=>?_⟩
  ·rw [List.length_eraseIdx,if_pos om_];omega
  ·rw [List.eraseIdx_append_of_length_le h1,hk];rfl
theorem det_lin {p q:Rat}{a b:Col}:∀ (n r:Nat)(l1 l2:List Col),l1.length+1+l2.length=n->det r (l1++(fun k=>p*a k+q*b k)::l2)=p*det r (l1++a::l2)+q*det r (l1++b::l2)
 | 0,r,l1,l2,h=>by omega
 | n+1,r,l1,l2,h=>by
  rw [eS (n:=n) (by simp;omega),eS (l:=l1++a::l2) (n:=n) (by simp;omega),eS (l:=l1++b::l2) (n:=n) (by simp;omega),<- ci,<- ci,<- cM]
  refine sumN_congr fun i hi=>?_
  by_cases e:i=l1.length
  ·subst e
   rw [getD_mid,getD_mid,getD_mid,ep,ep,ep]
   grind
  ·rw [getD_out (b:=a) e,getD_out (a:=b) (b:=a) e]
   obtain ⟨m1,m2,hm,hE⟩:=erase_out (l1:=l1) (l2:=l2) e om_
   rw [hE,hE,hE,det_lin n (r+1) m1 m2 om_]
   grind
theorem getD_swap {a b:Col}{l1 l2:List Col}{d:Col}{i:Nat}(h:i≠l1.length)(h2:i≠l1.length+1):(l1++a::b::l2).getD i d=(l1++b::a::l2).getD i d:=by
 rw [List.getD_eq_getElem?_getD,List.getD_eq_getElem?_getD]
 rcases Nat.lt_or_ge i l1.length with h1 | h1
 ·rw [List.getElem?_append_left h1,List.getElem?_append_left h1]
 ·rw [List.getElem?_append_right h1,List.getElem?_append_right h1]
  obtain ⟨k,hk⟩:∃ k,i-l1.length=k+2:=⟨i-l1.length-2,by omega⟩
  rw [hk];rfl
theorem erase_out2 {l1 l2:List Col}{i:Nat}(h:i≠l1.length)(h0:i≠l1.length+1)(h2:i<l1.length+2+l2.length):∃ m1 m2:List Col,m1.length+2+m2.length+1=l1.length+2+l2.length/\∀ a b:Col,(l1++a::b::l2).eraseIdx i=m1++a::b::m2:=by
 rcases Nat.lt_or_ge i l1.length with h1 | h1
 ·refine ⟨l1.eraseIdx i,l2, ?_,fun a b=>List.eraseIdx_append_of_lt_length h1 _⟩
  rw [List.length_eraseIdx,if_pos h1];omega
 ·obtain ⟨k,hk⟩:∃ k,i-l1.length=k+2:=⟨i-l1.length-2,by omega⟩
  refine ⟨l1,l2.eraseIdx k, ?_,fun a b=>?_⟩
  ·rw [List.length_eraseIdx,if_pos om_];omega
  ·rw [List.eraseIdx_append_of_length_le h1,hk];rfl
theorem sumN_neg (g:Nat->Rat):∀ n,sumN (fun j=>-g j) n=-sumN g n
 | 0=>by simp only [sumN];grind
 | n+1=>by simp only [sumN];rw [sumN_neg g n];grind
theorem sumN_two {g:Nat->Rat}{a n:Nat}(h:a+1<n):sumN g n=g a+g (a+1)+sumN (fun j=>if j=a∨j=a+1 then 0 else g j) n:=by
 rw [eD (a:=a) om_,eD (g:=fun j=>if j=a then 0 else g j) (a:=a+1) h,if_neg om_]
 have e:sumN (fun j=>if j=a+1 then 0 else if j=a then 0 else g j) n=sumN (fun j=>if j=a∨j=a+1 then 0 else g j) n:=sumN_congr fun j _=>by
  by_cases h1:j=a
  ·rw [if_pos (show j=a∨j=a+1 from .inl h1),if_neg om_,if_pos h1]
  ·by_cases h2:j=a+1
   ·rw [if_pos h2,if_pos (show j=a∨j=a+1 from .inr h2)]
   ·rw [if_neg h2,if_neg h1,if_neg om_]
 rw [e];grind
theorem det_swap {a b:Col}:∀ (n r:Nat)(l1 l2:List Col),l1.length+2+l2.length=n->det r (l1++a::b::l2)=-det r (l1++b::a::l2)
 | 0,r,l1,l2,h=>by omega
 | n+1,r,l1,l2,h=>by
  rw [eS (n:=n) (by simp;omega),eS (l:=l1++b::a::l2) (n:=n) (by simp;omega),sumN_two (g:=fun i=>(-1) ^ i*((l1++a::b::l2).getD i (fun _=>0) r*det (r+1) ((l1++a::b::l2).eraseIdx i))) (a:=l1.length) om_,
   sumN_two (g:=fun i=>(-1) ^ i*((l1++b::a::l2).getD i (fun _=>0) r*det (r+1) ((l1++b::a::l2).eraseIdx i))) (a:=l1.length) om_]
  rw [getD_mid,getD_mid2,getD_mid,getD_mid2,ep,erase_mid2,ep,erase_mid2,pow_neg_succ]
  have e:sumN (fun j=>if j=l1.length∨j=l1.length+1 then 0 else (-1) ^ j*((l1++a::b::l2).getD j (fun _=>0) r*det (r+1) ((l1++a::b::l2).eraseIdx j))) (n+1) =
    -sumN (fun j=>if j=l1.length∨j=l1.length+1 then 0 else (-1) ^ j*((l1++b::a::l2).getD j (fun _=>0) r*det (r+1) ((l1++b::a::l2).eraseIdx j))) (n+1):=by
   rw [<- sumN_neg]
   refine sumN_congr fun j hj=>?_
   by_cases h1:j=l1.length∨j=l1.length+1
   ·rw [if_pos h1,if_pos h1];grind
   ·rw [if_neg h1,if_neg h1,getD_swap om_ om_]
    obtain ⟨m1,m2,hm,hE⟩:=erase_out2 (l1:=l1) (l2:=l2) (i:=j) om_ om_ om_
    rw [hE,hE,det_swap n (r+1) m1 m2 om_]
    grind
  rw [e]
  grind
theorem det_same {a:Col}:∀ (l2:List Col)(r:Nat)(l1 l3:List Col),det r (l1++a::(l2++a::l3))=0
 | [],r,l1,l3=>by
  have h:=det_swap (a:=a) (b:=a) _ r l1 l3 rfl
  show det r (l1++a::a::l3)=0
  grind
 | b::l2,r,l1,l3=>by
  have h:=det_swap (a:=a) (b:=b) _ r l1 (l2++a::l3) rfl
  have ih:=det_same (a:=a) l2 r (l1++[b]) l3
  rw [List.append_assoc] at ih
  show det r (l1++a::b::(l2++a::l3))=0
  rw [h,show l1++b::a::(l2++a::l3)=l1++([b]++a::(l2++a::l3)) from rfl,ih]
  grind
theorem det_put {l:List Col}{i j:Nat}(hi:i<l.length)(hj:j<l.length)(hij:i≠j)(r:Nat):det r (l.set i (l.getD j fun _=>0))=0:=by
 have ej:l[j]?=some (l.getD j fun _=>0):=by rw [List.getD_eq_getElem?_getD,List.getElem?_eq_getElem hj];rfl
 have hlt:∀ {a b:Nat}{m:List Col}{x:Col},a<b->b<m.length->m[a]?=some x->m[b]?=some x->∃ m1 m2 m3,m=m1++x::(m2++x::m3):=by
  intro a b m x hab hb ha hb2
  refine ⟨m.take a,(m.drop (a+1)).take (b-a-1),m.drop (b+1), ?_⟩
  have h1:m=m.take a++x::m.drop (a+1):=by
   have:=List.take_append_drop a m
   rw [List.drop_eq_getElem_cons om_] at this
   rw [List.getElem?_eq_getElem om_] at ha
   rw [Option.some.inj ha] at this
   exact this.symm
  have h2:m.drop (a+1)=(m.drop (a+1)).take (b-a-1)++x::m.drop (b+1):=by
   have:=List.take_append_drop (b-a-1) (m.drop (a+1))
   rw [List.drop_drop,show a+1+(b-a-1)=b by omega,List.drop_eq_getElem_cons hb] at this
   rw [List.getElem?_eq_getElem hb] at hb2
   rw [Option.some.inj hb2] at this
   exact this.symm
  rw [<- h2];exact h1
 have h1:(l.set i (l.getD j fun _=>0))[i]?=some (l.getD j fun _=>0):=by rw [List.getElem?_set_self hi]
 have h2:(l.set i (l.getD j fun _=>0))[j]?=some (l.getD j fun _=>0):=by rw [List.getElem?_set_ne hij];exact ej
 rcases Nat.lt_or_gt_of_ne hij with h | h
 ·obtain ⟨m1,m2,m3,e⟩:=hlt h (by rw [List.length_set];exact hj) h1 h2
  rw [e];exact det_same m2 r m1 m3
 ·obtain ⟨m1,m2,m3,e⟩:=hlt h (by rw [List.length_set];exact hi) h2 h1
  rw [e];exact det_same m2 r m1 m3
theorem set_split {l:List Col}{i:Nat}{x:Col}(h:i<l.length):l.set i x=l.take i++x::l.drop (i+1):=List.set_eq_take_append_cons_drop.trans (if_pos h)
def comb (l:List Col)(x:Nat->Rat)(n:Nat):Col:=fun k=>sumN (fun j=>x j*(l.getD j fun _=>0) k) n
theorem det_comb {l:List Col}{i:Nat}(hi:i<l.length)(x:Nat->Rat)(r:Nat):∀ n,n<=l.length->det r (l.set i (comb l x n))=sumN (fun j=>x j*det r (l.set i (l.getD j fun _=>0))) n
 | 0,_=>by
  have h:=det_lin (p:=0) (q:=0) (a:=fun _=>0) (b:=fun _=>0) _ r (l.take i) (l.drop (i+1)) rfl
  rw [set_split hi]
  have e:comb l x 0=fun k=>(0:Rat)*(fun _=>0:Col) k+0*(fun _=>0:Col) k:=by
   funext k
   show (0:Rat)=_
   grind
  rw [e,h]
  simp only [sumN]
  grind
 | n+1,h=>by
  have ih:=det_comb hi x r n om_
  have e:comb l x (n+1)=fun k=>1*comb l x n k+x n*(l.getD n fun _=>0) k:=by
   funext k
   show sumN _ n+_=1*sumN _ n+_
   grind
  rw [set_split hi,e,det_lin _ r _ _ rfl,<- set_split hi,<- set_split hi,ih]
  simp only [sumN]
  grind
theorem cramer {l:List Col}{i:Nat}(hi:i<l.length)(x:Nat->Rat)(r:Nat):det r (l.set i (comb l x l.length))=x i*det r l:=by
 rw [det_comb hi x r _ (Nat.le_refl _),eD hi]
 have e:l.set i (l.getD i fun _=>0)=l:=by
  rw [List.getD_eq_getElem?_getD,List.getElem?_eq_getElem hi]
  exact List.set_getElem_self hi
 rw [e,bH fun j hj=>?_]
 ·grind
 ·by_cases h:j=i
  ·rw [if_pos h]
  ·rw [if_neg h,det_put hi hj (Ne.symm h)];grind
end Go.Jog.Lp
namespace Go.Jog.Lp

def lsum:List Rat->List Col->Col
 | y::ys,c::l,k=>y*c k+lsum ys l k
 | _,_,_=>0
theorem lsum_app {y1 y2:List Rat}{l1 l2:List Col}(h:y1.length=l1.length)(k:Nat):lsum (y1++y2) (l1++l2) k=lsum y1 l1 k+lsum y2 l2 k:=by
 induction l1 generalizing y1 with
 | nil =>
  have:y1=[]:=List.eq_nil_of_length_eq_zero h
  subst this
  show lsum y2 l2 k=0+_
  grind
 | cons c l1 ih =>
  cases y1 with
  | nil=>cases h
  | cons y y1 =>
   have:=ih (y1:=y1) (by simpa using h)
   show y*c k+lsum (y1++y2) (l1++l2) k=y*c k+lsum y1 l1 k+_
   rw [this];grind
theorem lsum_map {f:Col->Rat}{a:Col}{ys:List Rat}{l:List Col}(h:ys.length=l.length)(k:Nat):lsum ys (l.map fun c=>fun k=>c k-f c*a k) k=lsum ys l k-(lsum ys (l.map fun c=>fun _=>f c) k)*a k:=by
 induction l generalizing ys with
 | nil =>
  have:ys=[]:=List.eq_nil_of_length_eq_zero h
  subst this
  show (0:Rat)=0-0*a k
  grind
 | cons c l ih =>
  cases ys with
  | nil=>cases h
  | cons y ys =>
   have:=ih (ys:=ys) (by simpa using h)
   show y*(c k-f c*a k)+lsum ys _ k=y*c k+lsum ys l k-(y*f c+lsum ys _ k)*a k
   rw [this];grind
theorem lsum_const {f:Col->Rat}{ys:List Rat}{l:List Col}(k k2:Nat):lsum ys (l.map fun c=>fun _=>f c) k=lsum ys (l.map fun c=>fun _=>f c) k2:=by
 induction l generalizing ys with
 | nil=>cases ys <;> rfl
 | cons c l ih =>
  cases ys with
  | nil=>rfl
  | cons y ys =>
   show y*f c+lsum ys _ k=y*f c+lsum ys _ k2
   rw [ih]
theorem lsum_zero {ys:List Rat}{l:List Col}{k:Nat}(h:∀ c∈l,c k=0):lsum ys l k=0:=by
 induction l generalizing ys with
 | nil=>cases ys <;> rfl
 | cons c l ih =>
  cases ys with
  | nil=>rfl
  | cons y ys =>
   show y*c k+lsum ys l k=0
   rw [h c List.mem_cons_self,ih fun d hd=>h d (List.mem_cons_of_mem _ hd)]
   grind
def Rel0 (r m:Nat)(l:List Col):Prop:=∃ ys:List Rat,ys.length=l.length/\(∃ y∈ys,y≠0)/\∀ k,r<=k->k<r+m->lsum ys l k=0
theorem rel_back {r m:Nat}{a:Col}{l1 l2:List Col}(ha:a r≠0)(h:Rel0 (r+1) m ((l1++l2).map fun c=>fun k=>c k-c r / a r*a k)):Rel0 r (m+1) (l1++a::l2):=by
 obtain ⟨ys,hl,⟨y,hy,hy0⟩,hz⟩:=h
 rw [List.length_map,List.length_append] at hl
 have e1:ys=ys.take l1.length++ys.drop l1.length:=(List.take_append_drop _ _).symm
 have hl1:(ys.take l1.length).length=l1.length:=by rw [List.length_take];omega
 have hl2:(ys.drop l1.length).length=l2.length:=by rw [List.length_drop];omega
 have hys:ys.length=(l1++l2).length:=by rw [List.length_append];omega
 obtain ⟨t,ht⟩:∃ t:Rat,∀ k,lsum ys ((l1++l2).map fun c=>fun _=>c r / a r) k=t:=⟨_,fun k=>lsum_const (f:=fun c=>c r / a r) k 0⟩
 have hall:∀ k,lsum ys ((l1++l2).map fun c=>fun k=>c k-c r / a r*a k) k=lsum ys (l1++l2) k-t*a k:=fun k=>by
  rw [lsum_map (f:=fun c=>c r / a r) hys k,ht]
 have hsum:∀ k,lsum (ys.take l1.length++-t::ys.drop l1.length) (l1++a::l2) k=lsum ys (l1++l2) k-t*a k:=fun k=>by
  rw [lsum_app hl1]
  show _+(-t*a k+lsum (ys.drop l1.length) l2 k)=_
  have:=lsum_app (y2:=ys.drop l1.length) (l2:=l2) hl1 k
  rw [<- e1] at this
  rw [this];grind
 refine ⟨ys.take l1.length++-t::ys.drop l1.length,by simp;omega,⟨y, ?_,hy0⟩,fun k h1 h2=>?_⟩
 ·rw [e1] at hy
  rcases List.mem_append.1 hy with h | h
  ·exact List.mem_append_left _ h
  ·exact List.mem_append_right _ (List.mem_cons_of_mem _ h)
 ·rw [hsum k,<- hall k]
  rcases Nat.lt_or_ge r k with h3 | h3
  ·exact hz k om_ om_
  ·have:k=r:=by omega
   subst this
   refine lsum_zero fun c hc=>?_
   obtain ⟨d,_,rfl⟩:=List.mem_map.1 hc
   show d k-d k / a k*a k=0
   grind
theorem split_at {l:List Col}{p:Col->Prop}(h:∃ c∈l,p c):∃ l1 a l2,l=l1++a::l2/\p a:=by
 obtain ⟨c,hc,hp⟩:=h
 obtain ⟨l1,l2,e⟩:=List.append_of_mem hc
 exact ⟨l1,c,l2,e,hp⟩
theorem rel_more:∀ (m r:Nat)(l:List Col),m<l.length->Rel0 r m l
 | 0,r,l,h=>⟨List.replicate l.length 1,List.length_replicate,⟨1,by rw [List.mem_replicate];exact ⟨by omega,rfl⟩,by decide⟩,fun k h1 h2=>by omega⟩
 | m+1,r,l,h=>by
  by_cases hz:∃ c∈l,c r≠0
  ·obtain ⟨l1,a,l2,e,ha⟩:=split_at hz
   subst e
   exact rel_back ha (rel_more m (r+1) _ (by simp at h ⊢;omega))
  ·obtain ⟨ys,h1,h2,h3⟩:=rel_more m (r+1) l om_
   refine ⟨ys,h1,h2,fun k h4 h5=>?_⟩
   rcases Nat.lt_or_ge r k with h6 | h6
   ·exact h3 k om_ om_
   ·have:k=r:=by omega
    subst this
    exact lsum_zero fun c hc=>Classical.byContradiction fun hn=>hz ⟨c,hc,hn⟩
theorem det_sub {r:Nat}{t:Rat}{c a:Col}{m1 m2:List Col}(h:a∈m1∨a∈m2):det r (m1++(fun k=>c k-t*a k)::m2)=det r (m1++c::m2):=by
 have e:(fun k=>c k-t*a k)=fun k=>1*c k + -t*a k:=by funext k;grind
 have h0:det r (m1++a::m2)=0:=by
  rcases h with h | h
  ·obtain ⟨p1,p2,e⟩:=List.append_of_mem h
   rw [e,List.append_assoc]
   exact det_same p2 r p1 m2
  ·obtain ⟨p1,p2,e⟩:=List.append_of_mem h
   rw [e]
   exact det_same p1 r m1 p2
 rw [e,det_lin _ r m1 m2 rfl,h0];grind
theorem det_clear1 {r:Nat}{f:Col->Rat}{a:Col}{q:List Col}:∀ (l p:List Col),a∈q->det r (p++(l++q))=det r (p++(l.map (fun c=>fun k=>c k-f c*a k)++q))
 | [],p,h=>rfl
 | c::l,p,h=>by
  have h1:=det_clear1 (r:=r) (f:=f) l (p++[c]) h
  rw [List.append_assoc,List.append_assoc] at h1
  have h2:=det_sub (r:=r) (t:=f c) (c:=c) (a:=a) (m1:=p) (m2:=l.map (fun c=>fun k=>c k-f c*a k)++q) (.inr (List.mem_append_right _ h))
  show det r (p++c::(l++q))=det r (p++(fun k=>c k-f c*a k)::(l.map (fun c=>fun k=>c k-f c*a k)++q))
  rw [h2];exact h1
theorem det_clear2 {r:Nat}{f:Col->Rat}{a:Col}:∀ (l p:List Col),a∈p->det r (p++l)=det r (p++l.map (fun c=>fun k=>c k-f c*a k))
 | [],p,h=>rfl
 | c::l,p,h=>by
  have h1:=det_clear2 (r:=r) (f:=f) l (p++[c]) (List.mem_append_left _ h)
  rw [List.append_assoc,List.append_assoc] at h1
  have h2:=det_sub (r:=r) (t:=f c) (c:=c) (a:=a) (m1:=p) (m2:=l.map (fun c=>fun k=>c k-f c*a k)) (.inl h)
  show det r (p++c::l)=det r (p++(fun k=>c k-f c*a k)::l.map (fun c=>fun k=>c k-f c*a k))
  rw [h2];exact h1
theorem det_clear {r:Nat}{a:Col}{l1 l2:List Col}(ha:a r≠0):det r (l1++a::l2)=(-1) ^ l1.length*(a r*det (r+1) ((l1++l2).map fun c=>fun k=>c k-c r / a r*a k)):=by
 have h1:=det_clear1 (r:=r) (f:=fun c=>c r / a r) (a:=a) (q:=a::l2) l1 [] List.mem_cons_self
 have h2:=det_clear2 (r:=r) (f:=fun c=>c r / a r) (a:=a) l2 (l1.map (fun c=>fun k=>c k-c r / a r*a k)++[a]) (List.mem_append_right _ List.mem_cons_self)
 rw [List.append_assoc,List.append_assoc] at h2
 rw [List.nil_append,List.nil_append] at h1
 rw [h1]
 show det r (_++([a]++l2))=_
 rw [h2]
 show det r (l1.map (fun c=>fun k=>c k-c r / a r*a k)++a::l2.map (fun c=>fun k=>c k-c r / a r*a k))=_
 have hl:(l1.map (fun c=>fun k=>c k-c r / a r*a k)).length=l1.length:=List.length_map _
 generalize hL1:l1.map (fun c=>fun k=>c k-c r / a r*a k)=L1 at hl
 generalize hL2:l2.map (fun c=>fun k=>c k-c r / a r*a k)=L2
 have hz:∀ c,c∈L1∨c∈L2->c r=0:=fun c hc=>by
  rcases hc with hc | hc
  ·rw [<- hL1] at hc
   obtain ⟨d,_,rfl⟩:=List.mem_map.1 hc
   show d r-d r / a r*a r=0
   grind
  ·rw [<- hL2] at hc
   obtain ⟨d,_,rfl⟩:=List.mem_map.1 hc
   show d r-d r / a r*a r=0
   grind
 rw [eS (n:=L1.length+L2.length) (by simp;omega),eD (a:=L1.length) om_,getD_mid,ep,hl,List.map_append,hL1,hL2,bH fun j hj=>?_]
 ·grind
 ·by_cases e:j=l1.length
  ·rw [if_pos e]
  ·rw [if_neg e]
   have h0:(L1++a::L2).getD j (fun _=>0) r=0:=by
    rw [List.getD_eq_getElem?_getD]
    rcases Nat.lt_or_ge j L1.length with h3 | h3
    ·rw [List.getElem?_append_left h3,List.getElem?_eq_getElem h3]
     exact hz _ (.inl (List.getElem_mem _))
    ·rw [List.getElem?_append_right h3]
     obtain ⟨k,hk⟩:∃ k,j-L1.length=k+1:=⟨j-L1.length-1,by omega⟩
     rw [hk,List.getElem?_cons_succ]
     cases e2:L2[k]? with
     | none=>rfl
     | some c=>exact hz c (.inr (List.mem_of_getElem? e2))
   rw [h0];grind
theorem rel_of_det:∀ (n r:Nat)(l:List Col),l.length=n->det r l=0->Rel0 r n l
 | 0,r,l,hl,h=>by
  have:l=[]:=List.eq_nil_of_length_eq_zero hl
  subst this
  exact absurd (show (1:Rat)=0 from h) (by decide)
 | n+1,r,l,hl,h=>by
  by_cases hz:∃ c∈l,c r≠0
  ·obtain ⟨l1,a,l2,e,ha⟩:=split_at hz
   subst e
   rw [det_clear ha] at h
   have h1:det (r+1) ((l1++l2).map fun c=>fun k=>c k-c r / a r*a k)=0:=by
    rcases Rat.mul_eq_zero.1 h with h2 | h2
    ·have hp:∀ i:Nat,(-1:Rat) ^ i≠0:=fun i=>by
      induction i with
      | zero=>decide
      | succ i ih=>rw [pow_neg_succ];grind
     exact absurd h2 (hp _)
    ·rcases Rat.mul_eq_zero.1 h2 with h3 | h3
     ·exact absurd h3 ha
     ·exact h3
   exact rel_back ha (rel_of_det n (r+1) _ (by simp at hl ⊢;omega) h1)
  ·obtain ⟨ys,h1,h2,h3⟩:=rel_more n (r+1) l om_
   refine ⟨ys,h1,h2,fun k h4 h5=>?_⟩
   rcases Nat.lt_or_ge r k with h6 | h6
   ·exact h3 k om_ om_
   ·have:k=r:=by omega
    subst this
    exact lsum_zero fun c hc=>Classical.byContradiction fun hn=>hz ⟨c,hc,hn⟩
def fctM (M:Nat):Nat->Nat
 | 0=>1
 | n+1=>(n+1)*(M*fctM M n)
theorem det_int {M:Nat}:∀ (n r:Nat)(l:List Col),l.length=n->(∀ c∈l,∀ k,r<=k->k<r+n->∃ z:Int,c k=z/\z.natAbs<=M)->∃ z:Int,det r l=z/\z.natAbs<=fctM M n
 | 0,r,l,hl,_=>by
  have:l=[]:=List.eq_nil_of_length_eq_zero hl
  subst this
  exact ⟨1,rfl,Nat.le_refl 1⟩
 | n+1,r,l,hl,h=>by
  rw [eS hl]
  have key:∀ m,m<=n+1->∃ z:Int,sumN (fun i=>(-1) ^ i*((l.getD i fun _=>0) r*det (r+1) (l.eraseIdx i))) m=z/\z.natAbs<=m*(M*fctM M n):=by
   intro m
   induction m with
   | zero=>intro _;exact ⟨0,rfl,by simp⟩
   | succ m ih =>
    intro hm
    obtain ⟨z,e,hz⟩:=ih om_
    have hml:m<l.length:=by omega
    have hg:l.getD m (fun _=>0)∈l:=by rw [List.getD_eq_getElem?_getD,List.getElem?_eq_getElem hml];exact List.getElem_mem _
    obtain ⟨u,eu,hu⟩:=h _ hg r (Nat.le_refl _) om_
    obtain ⟨w,ew,hw⟩:=det_int (M:=M) n (r+1) (l.eraseIdx m) (by rw [List.length_eraseIdx,if_pos hml];omega) (fun c hc k h1 h2=>h c (List.mem_of_mem_eraseIdx hc) k om_ om_)
    have hs:∃ s:Int,((-1:Rat) ^ m=s)/\s.natAbs=1:=by
     clear ih e hz hm hml hg eu hu ew hw
     induction m with
     | zero=>exact ⟨1,rfl,rfl⟩
     | succ m ih =>
      obtain ⟨s,h1,h2⟩:=ih
      exact ⟨-s,by rw [pow_neg_succ,h1,Rat.intCast_neg],by omega⟩
    obtain ⟨s,es,hs⟩:=hs
    refine ⟨z+s*(u*w), ?_, ?_⟩
    ·simp only [sumN]
     rw [e,eu,ew,es,Rat.intCast_add,Rat.intCast_mul,Rat.intCast_mul]
    ·have h1:=Int.natAbs_add_le z (s*(u*w))
     have h2:(s*(u*w)).natAbs=u.natAbs*w.natAbs:=by rw [Int.natAbs_mul,Int.natAbs_mul,hs,Nat.one_mul]
     have h3:u.natAbs*w.natAbs<=M*fctM M n:=Nat.mul_le_mul hu hw
     rw [Nat.succ_mul]
     omega
  obtain ⟨z,e,hz⟩:=key (n+1) (Nat.le_refl _)
  exact ⟨z,e,hz⟩
end Go.Jog.Lp
namespace Go.Jog.Lp

theorem sumN_cons (h:Nat->Rat):∀ n,sumN h (n+1)=h 0+sumN (fun p=>h (p+1)) n
 | 0=>by simp only [sumN];grind
 | n+1=>by
  have ih:=sumN_cons h n
  have e:sumN h (n+1+1)=sumN h (n+1)+h (n+1):=rfl
  rw [e,ih]
  simp only [sumN];grind
theorem sumN_in {g:Nat->Rat}{n:Nat}:∀ {l:List Nat},l.Nodup->(∀ v∈l,v<n)->sumN (fun j=>if j∈l then g j else 0) n=sumN (fun p=>g (l.getD p 0)) l.length
 | [],_,_=>bH fun j _=>if_neg List.not_mem_nil
 | v::l,hn,hl=>by
  have hn':=List.nodup_cons.1 hn
  rw [List.length_cons,sumN_cons,eD (hl v List.mem_cons_self),if_pos List.mem_cons_self]
  have ih:=sumN_in (g:=g) (n:=n) hn'.2 fun u hu=>hl u (List.mem_cons_of_mem _ hu)
  show g v+_=g v+sumN (fun p=>g (l.getD p 0)) l.length
  rw [<- ih]
  congr 1
  refine sumN_congr fun j _=>?_
  by_cases h1:j=v
  ·subst h1
   rw [if_pos rfl,if_neg hn'.1]
  ·rw [if_neg h1]
   by_cases h2:j∈l
   ·rw [if_pos (List.mem_cons_of_mem _ h2),if_pos h2]
   ·rw [if_neg h2,if_neg (fun h=>(List.mem_cons.1 h).elim h1 h2)]
theorem lsum_sum:∀ {ys:List Rat}{l:List Col}(k:Nat),ys.length=l.length->lsum ys l k=sumN (fun j=>ys.getD j 0*(l.getD j fun _=>0) k) l.length
 | [],[],k,_=>rfl
 | y::ys,c::l,k,h=>by
  have ih:=lsum_sum (ys:=ys) (l:=l) k (by simpa using h)
  rw [List.length_cons,sumN_cons]
  show y*c k+lsum ys l k=y*c k+sumN (fun p=>ys.getD p 0*(l.getD p fun _=>0) k) l.length
  rw [ih]
 | [],_::_,_,h=>by cases h
 | _::_,[],_,h=>by cases h
structure Sys where
 n:Nat
 m:Nat
 a:Nat->Nat->Rat
 b:Nat->Rat
def Sys.Sol (p:Sys)(x:Nat->Rat):Prop:=∀ r,r<p.m->x (p.n+r)=p.b r-sumN (fun j=>p.a r j*x j) p.n
structure Sys.Wh (p:Sys)(D:Nat->Int)(M:Nat):Prop where
 d:∀ r,r<p.m->D r≠0/\(D r).natAbs<=M
 a:∀ r j,r<p.m->j<p.n->∃ z:Int,D r*p.a r j=z/\z.natAbs<=M
 b:∀ r,r<p.m->∃ z:Int,D r*p.b r=z/\z.natAbs<=M
structure TabOf (p:Sys)(t:Tab):Prop where
 ok:t.Ok (p.n+p.m)
 lb:t.basic.length=p.m
 lo:t.others.length=p.n
 sol:∀ x,t.Sol x ↔ p.Sol x
def Quo (K:Nat)(q:Rat):Prop:=∃ z w:Int,w≠0/\q*w=z/\z.natAbs<=K/\w.natAbs<=K
section
variable {p:Sys} {t:Tab}
theorem TabOf.all (h:TabOf p t){v:Nat}(hv:v<p.n+p.m):v∈t.basic∨v∈t.others:=by
 apply Classical.byContradiction
 intro hno
 have hn:(v::(t.basic++t.others)).Nodup:=List.nodup_cons.2 ⟨fun hm=>by rcases List.mem_append.1 hm with h1 | h1;exact hno (.inl h1);exact hno (.inr h1),h.ok.nd⟩
 have:=List.Nodup.length_le_of_subset (l₂:=List.range (p.n+p.m)) hn (fun u hu=>by
  rcases List.mem_cons.1 hu with rfl | hu
  ·exact List.mem_range.2 hv
  ·exact List.mem_range.2 (h.ok.lt u hu))
 simp only [List.length_cons,List.length_append,List.length_range,h.lb,h.lo] at this
 omega
def FB (p:Sys)(t:Tab):List Nat:=t.basic.filter fun v=>decide (v<p.n)
def SO (p:Sys)(t:Tab):List Nat:=t.others.filter fun v=>decide (p.n<=v)
theorem filter_len {q:Nat->Bool}:∀ l:List Nat,(l.filter q).length+(l.filter fun v=>!q v).length=l.length
 | []=>rfl
 | x::l=>by
  have:=filter_len (q:=q) l
  cases h:q x <;> simp [h] <;> omega
theorem TabOf.len (h:TabOf p t):(FB p t).length=(SO p t).length:=by
 have hp:(t.basic++t.others).Perm (List.range (p.n+p.m)):=by
  refine (List.perm_ext_iff_of_nodup h.ok.nd List.nodup_range).2 fun v=>?_
  rw [List.mem_range,List.mem_append]
  exact ⟨fun hv=>h.ok.lt v (List.mem_append.2 hv),h.all⟩
 have h1:=(hp.filter fun v=>decide (v<p.n)).length_eq
 rw [List.filter_append,List.length_append] at h1
 have h2:((List.range (p.n+p.m)).filter fun v=>decide (v<p.n)).length=p.n:=by
  have e:∀ k,((List.range (p.n+k)).filter fun v=>decide (v<p.n))=List.range p.n:=fun k=>by
   induction k with
   | zero=>exact List.filter_eq_self.2 fun v hv=>by rw [List.mem_range] at hv;exact decide_eq_true hv
   | succ k ih=>rw [<- Nat.add_assoc,List.range_succ,List.filter_append,ih,List.filter_cons,if_neg (by simp)];simp
  rw [e,List.length_range]
 have h3:=filter_len (q:=fun v=>decide (v<p.n)) t.others
 have h4:(t.others.filter fun v=>!decide (v<p.n))=SO p t:=by
  unfold SO
  congr 1
  funext v
  by_cases hv:v<p.n
  ·rw [decide_eq_true hv,decide_eq_false om_];rfl
  ·rw [decide_eq_false hv,decide_eq_true om_];rfl
 rw [h4,h.lo] at h3
 unfold FB
 omega

theorem fb_mem {v:Nat}:v∈FB p t ↔ v∈t.basic/\v<p.n:=by unfold FB;rw [List.mem_filter,decide_eq_true_eq]
theorem so_mem {v:Nat}:v∈SO p t ↔ v∈t.others/\p.n<=v:=by unfold SO;rw [List.mem_filter,decide_eq_true_eq]
theorem fb_nd (h:TabOf p t):(FB p t).Nodup:=h.ok.nb.filter _
def eW (p:Sys)(t:Tab)(D:Nat->Int):List Col:=(FB p t).map fun v=>fun k=>(D ((SO p t).getD k 0-p.n):Rat)*p.a ((SO p t).getD k 0-p.n) v
theorem colsT_at {D:Nat->Int}{i:Nat}(hi:i<(FB p t).length)(k:Nat):((eW p t D).getD i fun _=>0) k=(D ((SO p t).getD k 0-p.n):Rat)*p.a ((SO p t).getD k 0-p.n) ((FB p t).getD i 0):=by
 unfold eW
 have e:(FB p t)[i]?=some ((FB p t).getD i 0):=by rw [List.getD_eq_getElem?_getD,List.getElem?_eq_getElem hi];rfl
 rw [List.getD_eq_getElem?_getD,List.getElem?_map,e];rfl
theorem so_at (h:TabOf p t){k:Nat}(hk:k<(FB p t).length):(SO p t).getD k 0∈t.others/\p.n<=(SO p t).getD k 0/\(SO p t).getD k 0-p.n<p.m:=by
 have h1:=eP (l:=SO p t) (i:=k) (by rw [<- h.len];exact hk)
 obtain ⟨h2,h3⟩:=so_mem.1 h1
 have h4:=h.ok.lt _ (List.mem_append_right _ h2)
 exact ⟨h2,h3,by omega⟩
theorem fb_sum (h:TabOf p t)(g:Nat->Rat):sumN (fun j=>if j∈FB p t then g j else 0) p.n=sumN (fun i=>g ((FB p t).getD i 0)) (FB p t).length:=sumN_in (fb_nd h) fun _ hv=>(fb_mem.1 hv).2
theorem detT_ne (h:TabOf p t){D:Nat->Int}{M:Nat}(hw:p.Wh D M):det 0 (eW p t D)≠0:=by
 intro h0
 have hcl:(eW p t D).length=(FB p t).length:=List.length_map _
 obtain ⟨ys,hyl,⟨y,hy,hy0⟩,hz⟩:=rel_of_det _ 0 _ rfl h0
 -- a second assignment over the same values of the others
 let w:Nat->Rat:=fun v=>if v∈FB p t then ys.getD ((FB p t).idxOf v) 0 else 0
 let u:Nat->Rat:=fun v=>if v<p.n then w v else if v<p.n+p.m then -sumN (fun j=>p.a (v-p.n) j*w j) p.n else 0
 have hwu:∀ j,j<p.n->u j=w j:=fun j hj=>if_pos hj
 have hx:p.Sol fun v=>t.sol v+u v:=by
  intro r hr
  have h1:=(h.sol _).1 (db h.ok) r hr
  have h2:u (p.n+r)=-sumN (fun j=>p.a r j*w j) p.n:=by
   show (if p.n+r<p.n then w (p.n+r) else if p.n+r<p.n+p.m then -sumN (fun j=>p.a (p.n+r-p.n) j*w j) p.n else 0)=_
   rw [if_neg om_,if_pos om_,Nat.add_sub_cancel_left]
  show t.sol (p.n+r)+u (p.n+r)=_
  have h3:sumN (fun j=>p.a r j*(t.sol j+u j)) p.n=sumN (fun j=>p.a r j*t.sol j) p.n+sumN (fun j=>p.a r j*w j) p.n:=by
   rw [<- cM]
   exact sumN_congr fun j hj=>by rw [hwu j hj];grind
  rw [h1,h2,h3]
  grind
 have hnb:∀ v,v ∉ t.basic->t.sol v+u v=0:=by
  intro v hv
  rw [sol_oth h.ok hv]
  have hu:u v=0:=by
   by_cases h1:v<p.n
   ·rw [hwu v h1]
    exact if_neg fun hm=>hv (fb_mem.1 hm).1
   ·by_cases h2:v<p.n+p.m
    ·have hvo:v∈t.others:=(h.all h2).resolve_left hv
     obtain ⟨k,hk,e⟩:=cj ((so_mem (p:=p) (t:=t)).2 ⟨hvo,by omega⟩)
     rw [<- h.len] at hk
     have hzk:=hz k (Nat.zero_le _) (by rw [hcl];omega)
     rw [lsum_sum k hyl,hcl] at hzk
     have e2:sumN (fun j=>ys.getD j 0*((eW p t D).getD j fun _=>0) k) (FB p t).length=(D (v-p.n):Rat)*sumN (fun i=>p.a (v-p.n) ((FB p t).getD i 0)*w ((FB p t).getD i 0)) (FB p t).length:=by
      rw [<- ci]
      refine sumN_congr fun i hi=>?_
      rw [colsT_at hi,e]
      have e3:w ((FB p t).getD i 0)=ys.getD i 0:=by
       show (if (FB p t).getD i 0∈FB p t then ys.getD ((FB p t).idxOf ((FB p t).getD i 0)) 0 else 0)=_
       rw [if_pos (eP hi),bJ (fb_nd h) hi]
      rw [e3];grind
     rw [e2] at hzk
     have hD:(D (v-p.n):Rat)≠0:=by
      have:=(hw.d (v-p.n) om_).1
      simpa using this
     have hs:sumN (fun i=>p.a (v-p.n) ((FB p t).getD i 0)*w ((FB p t).getD i 0)) (FB p t).length=0:=by
      rcases Rat.mul_eq_zero.1 hzk with h3 | h3
      ·exact absurd h3 hD
      ·exact h3
     have h4:sumN (fun j=>p.a (v-p.n) j*w j) p.n=0:=by
      rw [<- hs,<- fb_sum h fun j=>p.a (v-p.n) j*w j]
      refine sumN_congr fun j _=>?_
      by_cases hj:j∈FB p t
      ·rw [if_pos hj]
      ·rw [if_neg hj,show w j=0 from if_neg hj];grind
     show (if v<p.n then w v else if v<p.n+p.m then -sumN (fun j=>p.a (v-p.n) j*w j) p.n else 0)=0
     rw [if_neg h1,if_pos h2,h4];grind
    ·show (if v<p.n then w v else if v<p.n+p.m then -sumN (fun j=>p.a (v-p.n) j*w j) p.n else 0)=0
     rw [if_neg h1,if_neg h2]
  rw [hu];grind
 have hall:=sol_only h.ok ((h.sol _).2 hx) hnb
 obtain ⟨i,hi,e⟩:=List.getElem_of_mem hy
 have hif:i<(FB p t).length:=by rw [<- hcl,<- hyl];exact hi
 have h5:=hall ((FB p t).getD i 0)
 have h6:u ((FB p t).getD i 0)=y:=by
  rw [hwu _ (fb_mem.1 (eP hif)).2]
  show (if (FB p t).getD i 0∈FB p t then ys.getD ((FB p t).idxOf ((FB p t).getD i 0)) 0 else 0)=_
  rw [if_pos (eP hif),bJ (fb_nd h) hif,List.getD_eq_getElem?_getD,List.getElem?_eq_getElem hi,e];rfl
 exact hy0 (by rw [<- h6];grind)
end
end Go.Jog.Lp
namespace Go.Jog.Lp

theorem fct_le {M:Nat}(hM:0<M):∀ {k n:Nat},k<=n->fctM M k<=fctM M n:=by
 intro k n h
 induction h with
 | refl=>exact Nat.le_refl _
 | @step m _ ih =>
  refine Nat.le_trans ih ?_
  show fctM M m<=(m+1)*(M*fctM M m)
  have:1*(1*fctM M m)<=(m+1)*(M*fctM M m):=Nat.mul_le_mul (Nat.le_add_left 1 _) (Nat.mul_le_mul hM (Nat.le_refl _))
  rw [Nat.one_mul,Nat.one_mul] at this
  exact this
theorem sumN_int {g:Nat->Rat}{B:Nat}:∀ {n:Nat},(∀ j,j<n->∃ z:Int,g j=z/\z.natAbs<=B)->∃ z:Int,sumN g n=z/\z.natAbs<=n*B
 | 0,_=>⟨0,rfl,by simp⟩
 | n+1,h=>by
  obtain ⟨z,e,hz⟩:=sumN_int (g:=g) (n:=n) fun j hj=>h j om_
  obtain ⟨w,e2,hw⟩:=h n om_
  refine ⟨z+w,by rw [sumN,e,e2,Rat.intCast_add], ?_⟩
  have:=Int.natAbs_add_le z w
  rw [Nat.succ_mul]
  omega
section
variable {p:Sys} {t:Tab} {D:Nat->Int} {M:Nat}
def bdT (p:Sys)(M:Nat):Nat:=fctM (2*M) p.n
theorem fb_le (h:TabOf p t):(FB p t).length<=p.n:=by
 have:=List.Nodup.length_le_of_subset (l₂:=List.range p.n) (fb_nd h) fun v hv=>List.mem_range.2 (fb_mem.1 hv).2
 rwa [List.length_range] at this
theorem cols_int (h:TabOf p t)(hw:p.Wh D M){i k:Nat}(hi:i<(FB p t).length)(hk:k<(FB p t).length):∃ z:Int,((eW p t D).getD i fun _=>0) k=z/\z.natAbs<=2*M:=by
 rw [colsT_at hi]
 obtain ⟨z,e,hz⟩:=hw.a _ _ (so_at h hk).2.2 (fb_mem.1 (eP hi)).2
 exact ⟨z,e,by omega⟩
theorem detT_int (h:TabOf p t)(hw:p.Wh D M)(hM:0<M):∃ d:Int,det 0 (eW p t D)=d/\d≠0/\d.natAbs<=bdT p M:=by
 have hcl:(eW p t D).length=(FB p t).length:=List.length_map _
 obtain ⟨d,e,hd⟩:=det_int (M:=2*M) (FB p t).length 0 (eW p t D) hcl fun c hc k _ hk=>by
  obtain ⟨i,hi,e⟩:=List.getElem_of_mem hc
  rw [hcl] at hi
  have:=cols_int h hw hi (show k<(FB p t).length by omega)
  rw [List.getD_eq_getElem?_getD,List.getElem?_eq_getElem (by rw [hcl];exact hi),e] at this
  exact this
 refine ⟨d,e, ?_,Nat.le_trans hd (fct_le om_ (fb_le h))⟩
 rintro rfl
 exact detT_ne h hw (by rw [e];rfl)
theorem quo_fb (h:TabOf p t)(hw:p.Wh D M)(hM:0<M){x hh:Nat->Rat}(h1:∀ r,r<p.m->x (p.n+r)=hh r-sumN (fun j=>p.a r j*if j∈FB p t then x j else 0) p.n)
  (h2:∀ r,r<p.m->∃ z:Int,D r*hh r=z/\z.natAbs<=M) (h3:∀ v,v∈t.others->p.n<=v->∃ z:Int,x v=z/\z.natAbs<=1) {i:Nat} (hi:i<(FB p t).length) :
  ∃ z:Int,x ((FB p t).getD i 0)*det 0 (eW p t D)=z/\z.natAbs<=bdT p M:=by
 have hcl:(eW p t D).length=(FB p t).length:=List.length_map _
 have hc:=cramer (l:=eW p t D) (i:=i) (by rw [hcl];exact hi) (fun j=>x ((FB p t).getD j 0)) 0
 rw [<- hc]
 have hcomb:∀ k,k<(FB p t).length->∃ z:Int,comb (eW p t D) (fun j=>x ((FB p t).getD j 0)) (eW p t D).length k=z/\z.natAbs<=2*M:=by
  intro k hk
  obtain ⟨hso1,hso2,hso3⟩:=so_at h hk
  obtain ⟨r,hr⟩:∃ r,(SO p t).getD k 0-p.n=r:=⟨_,rfl⟩
  rw [hr] at hso3
  have e0:(SO p t).getD k 0=p.n+r:=by omega
  have e:comb (eW p t D) (fun j=>x ((FB p t).getD j 0)) (eW p t D).length k=(D r:Rat)*(hh r-x (p.n+r)):=by
   have h4:=h1 r hso3
   have h5:sumN (fun j=>p.a r j*if j∈FB p t then x j else 0) p.n=sumN (fun j=>if j∈FB p t then p.a r j*x j else 0) p.n:=sumN_congr fun j _=>by
    split
    ·rfl
    ·grind
   rw [h5,fb_sum h] at h4
   have h6:hh r-x (p.n+r)=sumN (fun i=>p.a r ((FB p t).getD i 0)*x ((FB p t).getD i 0)) (FB p t).length:=by rw [h4];grind
   rw [h6,<- ci]
   unfold comb
   rw [hcl]
   refine sumN_congr fun j hj=>?_
   rw [colsT_at hj,hr];grind
  obtain ⟨z,ez,hz⟩:=h2 r hso3
  obtain ⟨w,ew,hw1⟩:=h3 _ hso1 hso2
  rw [e0] at ew
  refine ⟨z-D r*w, ?_, ?_⟩
  ·rw [e,ew,Rat.intCast_sub,Rat.intCast_mul,<- ez];grind
  ·have h5:=(hw.d r hso3).2
   have h7:(D r*w).natAbs<=M*1:=by rw [Int.natAbs_mul];exact Nat.mul_le_mul h5 hw1
   omega
 obtain ⟨z,ez,hz⟩:=det_int (M:=2*M) (FB p t).length 0 ((eW p t D).set i (comb (eW p t D) (fun j=>x ((FB p t).getD j 0)) (eW p t D).length)) (by rw [List.length_set,hcl]) fun c hc k _ hk=>by
  rcases List.mem_or_eq_of_mem_set hc with hm | rfl
  ·obtain ⟨j,hj,e⟩:=List.getElem_of_mem hm
   rw [hcl] at hj
   have:=cols_int h hw hj (show k<(FB p t).length by omega)
   rw [List.getD_eq_getElem?_getD,List.getElem?_eq_getElem (by rw [hcl];exact hj),e] at this
   exact this
  ·exact hcomb k om_
 exact ⟨z,ez,Nat.le_trans hz (fct_le om_ (fb_le h))⟩
theorem quo_row (h:TabOf p t)(hw:p.Wh D M)(hM:0<M){x hh:Nat->Rat}(h1:∀ r,r<p.m->x (p.n+r)=hh r-sumN (fun j=>p.a r j*if j∈FB p t then x j else 0) p.n)
  (h2:∀ r,r<p.m->∃ z:Int,D r*hh r=z/\z.natAbs<=M) (h3:∀ v,v∈t.others->p.n<=v->∃ z:Int,x v=z/\z.natAbs<=1)
  {a0:Nat->Rat} {b0:Rat} {D0:Int} (hD:D0≠0/\D0.natAbs<=M) (ha:∀ j,j<p.n->∃ z:Int,D0*a0 j=z/\z.natAbs<=M) (hb:∃ z:Int,D0*b0=z/\z.natAbs<=M) :
  Quo ((p.n+1)*(M*bdT p M)) (b0-sumN (fun j=>a0 j*if j∈FB p t then x j else 0) p.n):=by
 obtain ⟨d,ed,hd0,hd⟩:=detT_int h hw hM
 obtain ⟨zb,eb,hzb⟩:=hb
 have hs:∃ z:Int,sumN (fun j=>(D0*a0 j)*((if j∈FB p t then x j else 0)*d)) p.n=z/\z.natAbs<=p.n*(M*bdT p M):=sumN_int fun j hj=>by
  obtain ⟨za,ea,hza⟩:=ha j hj
  by_cases hm:j∈FB p t
  ·obtain ⟨i,hi,e⟩:=cj hm
   obtain ⟨z,ez,hz⟩:=quo_fb h hw hM h1 h2 h3 hi
   rw [e,ed] at ez
   refine ⟨za*z, ?_, ?_⟩
   ·rw [if_pos hm,ea,ez,Rat.intCast_mul]
   ·rw [Int.natAbs_mul];exact Nat.mul_le_mul hza hz
  ·refine ⟨0, ?_,Nat.zero_le _⟩
   rw [if_neg hm]
   show _=(0:Rat)
   grind
 obtain ⟨zs,es,hzs⟩:=hs
 refine ⟨zb*d-zs,D0*d,Int.mul_ne_zero hD.1 hd0, ?_, ?_, ?_⟩
 ·rw [Rat.intCast_sub,Rat.intCast_mul,Rat.intCast_mul,<- es,<- eb]
  have e:sumN (fun j=>(D0*a0 j)*((if j∈FB p t then x j else 0)*d)) p.n=(D0*d:Rat)*sumN (fun j=>a0 j*if j∈FB p t then x j else 0) p.n:=by
   rw [<- ci]
   exact sumN_congr fun j _=>by grind
  rw [e];grind
 ·have h4:(zb*d).natAbs<=M*bdT p M:=by rw [Int.natAbs_mul];exact Nat.mul_le_mul hzb hd
  rw [Nat.succ_mul]
  omega
 ·have h4:(D0*d).natAbs<=M*bdT p M:=by rw [Int.natAbs_mul];exact Nat.mul_le_mul hD.2 hd
  rw [Nat.succ_mul]
  omega
end
end Go.Jog.Lp
namespace Go.Jog.Lp

theorem Quo.mono {K L:Nat}{q:Rat}(h:Quo K q)(hk:K<=L):Quo L q:=by
 obtain ⟨z,w,h1,h2,h3,h4⟩:=h
 exact ⟨z,w,h1,h2,Nat.le_trans h3 hk,Nat.le_trans h4 hk⟩
section
variable {p:Sys} {t:Tab} {D:Nat->Int} {M:Nat}
theorem TabOf.pivot (h:TabOf p t){r s:Nat}(hr:r<t.basic.length)(hs:s<t.others.length)(hk:(t.line r).g s≠0):TabOf p (t.pivot r s) :=
 ⟨pivot_ok h.ok hr hs,List.length_set.trans h.lb,List.length_set.trans h.lo,fun x=>(pivot_sol h.ok hr hs hk).trans (h.sol x)⟩
def ObjOf (p:Sys)(t:Tab)(w0:Rat)(cc:Nat->Rat):Prop:=∀ x,p.Sol x->t.W x=w0+sumN (fun j=>cc j*x j) p.n
theorem ObjOf.pivot {w0:Rat}{cc:Nat->Rat}(hw:ObjOf p t w0 cc)(h:TabOf p t){r s:Nat}(hr:r<t.basic.length)(hs:s<t.others.length)(hk:(t.line r).g s≠0):ObjOf p (t.pivot r s) w0 cc :=
 fun x hx=>(pivot_W h.ok hr hs hk ((h.sol x).2 hx)).trans (hw x hx)
def bdQ (p:Sys)(M:Nat):Nat:=(p.n+1)*(M*bdT p M)
theorem bdT_le (hM:0<M):bdT p M<=bdQ p M:=by
 have:1*(1*bdT p M)<=(p.n+1)*(M*bdT p M):=Nat.mul_le_mul (Nat.le_add_left 1 _) (Nat.mul_le_mul hM (Nat.le_refl _))
 rwa [Nat.one_mul,Nat.one_mul] at this
theorem quo_bas (h:TabOf p t)(hw:p.Wh D M)(hM:0<M){x hh:Nat->Rat}(h1:∀ r,r<p.m->x (p.n+r)=hh r-sumN (fun j=>p.a r j*if j∈FB p t then x j else 0) p.n)
  (h2:∀ r,r<p.m->∃ z:Int,D r*hh r=z/\z.natAbs<=M) (h3:∀ v,v∈t.others->p.n<=v->∃ z:Int,x v=z/\z.natAbs<=1) {i:Nat} (hi:i<t.basic.length):Quo (bdQ p M) (x (t.bas i)):=by
 by_cases hv:t.bas i<p.n
 ·obtain ⟨k,hk,e⟩:=cj (fb_mem.2 ⟨bas_mem hi,hv⟩:t.bas i∈FB p t)
  obtain ⟨z,ez,hz⟩:=quo_fb h hw hM h1 h2 h3 hk
  obtain ⟨d,ed,hd0,hd⟩:=detT_int h hw hM
  rw [e,ed] at ez
  exact ⟨z,d,hd0,ez,Nat.le_trans hz (bdT_le hM),Nat.le_trans hd (bdT_le hM)⟩
 ·have hlt:=h.ok.lt _ (List.mem_append.2 (.inl (bas_mem hi)))
  obtain ⟨r,hr⟩:∃ r,t.bas i-p.n=r:=⟨_,rfl⟩
  have e0:t.bas i=p.n+r:=by omega
  have hrm:r<p.m:=by omega
  rw [e0,h1 r hrm]
  exact quo_row h hw hM h1 h2 h3 (hw.d r hrm) (fun j hj=>hw.a r j hrm hj) (h2 r hrm)
theorem sol_fb (h:TabOf p t){j:Nat}(hj:j<p.n):t.sol j=if j∈FB p t then t.sol j else 0:=by
 split
 ·rfl
 ·next hn=>exact sol_oth h.ok fun hb=>hn (fb_mem.2 ⟨hb,hj⟩)
theorem sol_row (h:TabOf p t)(r:Nat)(hr:r<p.m):t.sol (p.n+r)=p.b r-sumN (fun j=>p.a r j*if j∈FB p t then t.sol j else 0) p.n:=by
 rw [(h.sol _).1 (db h.ok) r hr]
 congr 1
 exact sumN_congr fun j hj=>by rw [<- sol_fb h hj]
theorem sol_so (h:TabOf p t)(v:Nat)(hv:v∈t.others):∃ z:Int,t.sol v=z/\z.natAbs<=1:=⟨0,by rw [sol_oth h.ok fun hb=>h.ok.dj hb hv];rfl,by decide⟩
theorem con_quo (h:TabOf p t)(hw:p.Wh D M)(hM:0<M){i:Nat}(hi:i<t.basic.length):Quo (bdQ p M) (t.line i).c:=by
 rw [<- sol_bas h.ok hi]
 exact quo_bas h hw hM (sol_row h) hw.b (fun v hv _=>sol_so h v hv) hi
def Tab.dir (t:Tab)(s v:Nat):Rat:=t.ext (cl (t.oth s)) v-t.sol v
theorem dir_bas (h:TabOf p t){s i:Nat}(hs:s<t.others.length)(hi:i<t.basic.length):t.dir s (t.bas i)=(t.line i).g s:=by
 unfold Tab.dir
 rw [ext_bas h.ok hi,lv_unit h.ok hs,sol_bas h.ok hi];grind
theorem dir_oth (h:TabOf p t){s v:Nat}(hv:v ∉ t.basic):t.dir s v=if v=t.oth s then 1 else 0:=by
 unfold Tab.dir
 rw [ext_oth h.ok hv,sol_oth h.ok hv]
 unfold cl
 split <;> grind
theorem dir_sum (h:TabOf p t){s:Nat}(hs:s<t.others.length)(g:Nat->Rat) :
  sumN (fun j=>g j*t.dir s j) p.n=(if t.oth s<p.n then g (t.oth s) else 0)+sumN (fun j=>g j*if j∈FB p t then t.dir s j else 0) p.n:=by
 have hob:t.oth s ∉ t.basic:=fun hb=>h.ok.dj hb (oth_mem hs)
 have e:∀ j,j<p.n->g j*t.dir s j=(if j=t.oth s then g j else 0)+g j*(if j∈FB p t then t.dir s j else 0):=by
  intro j hj
  by_cases hb:j∈FB p t
  ·rw [if_pos hb,if_neg (fun e:j=t.oth s=>hob (e ▸ (fb_mem.1 hb).1))];grind
  ·rw [if_neg hb,dir_oth h fun hb'=>hb (fb_mem.2 ⟨hb',hj⟩)]
   split <;> grind
 rw [sumN_congr e,cM]
 congr 1
 split
 ·next hu =>
  rw [eD hu,if_pos rfl,bH fun j _=>?_]
  ·grind
  ·split <;> rfl
 ·next hu=>exact bH fun j hj=>if_neg fun e:j=t.oth s=>hu (e ▸ hj)
def hhD (p:Sys)(t:Tab)(s r:Nat):Rat:=if t.oth s<p.n then -p.a r (t.oth s) else 0
theorem dir_row (h:TabOf p t){s:Nat}(hs:s<t.others.length)(r:Nat)(hr:r<p.m):t.dir s (p.n+r)=hhD p t s r-sumN (fun j=>p.a r j*if j∈FB p t then t.dir s j else 0) p.n:=by
 have h1:=(h.sol _).1 (ext_sol h.ok (cl (t.oth s))) r hr
 have h2:=(h.sol _).1 (db h.ok) r hr
 have h3:=dir_sum h hs (p.a r)
 have h4:sumN (fun j=>p.a r j*t.dir s j) p.n=sumN (fun j=>p.a r j*t.ext (cl (t.oth s)) j) p.n-sumN (fun j=>p.a r j*t.sol j) p.n:=by
  have h5:=cM (fun j=>p.a r j*t.dir s j) (fun j=>p.a r j*t.sol j) p.n
  rw [show sumN (fun j=>p.a r j*t.dir s j+p.a r j*t.sol j) p.n=sumN (fun j=>p.a r j*t.ext (cl (t.oth s)) j) p.n from sumN_congr fun j _=>by unfold Tab.dir;grind] at h5
  grind
 have h6:t.dir s (p.n+r)=t.ext (cl (t.oth s)) (p.n+r)-t.sol (p.n+r):=rfl
 unfold hhD
 rw [h6,h1,h2]
 split at h3
 ·next hu=>rw [if_pos hu];grind
 ·next hu=>rw [if_neg hu];grind
theorem hhD_int (hw:p.Wh D M)(s:Nat)(r:Nat)(hr:r<p.m):∃ z:Int,D r*hhD p t s r=z/\z.natAbs<=M:=by
 unfold hhD
 split
 ·next hu =>
  obtain ⟨z,e,hz⟩:=hw.a r _ hr hu
  exact ⟨-z,by rw [Rat.intCast_neg,<- e];grind,by omega⟩
 ·exact ⟨0,by show _=(0:Rat);grind,Nat.zero_le _⟩
theorem dir_so (h:TabOf p t){s:Nat}(v:Nat)(hv:v∈t.others):∃ z:Int,t.dir s v=z/\z.natAbs<=1:=by
 rw [dir_oth h fun hb=>h.ok.dj hb hv]
 split
 ·exact ⟨1,rfl,by decide⟩
 ·exact ⟨0,rfl,by decide⟩
theorem fac_quo (h:TabOf p t)(hw:p.Wh D M)(hM:0<M){i s:Nat}(hi:i<t.basic.length)(hs:s<t.others.length):Quo (bdQ p M) ((t.line i).g s):=by
 rw [<- dir_bas h hs hi]
 exact quo_bas h hw hM (dir_row h hs) (hhD_int hw s) (fun v hv _=>dir_so h v hv) hi
variable {w0:Rat} {cc:Nat->Rat}
theorem wcon_quo (h:TabOf p t)(hw:p.Wh D M)(hM:0<M)(ho:ObjOf p t w0 cc){D0:Int}(hD:D0≠0/\D0.natAbs<=M)(ha:∀ j,j<p.n->∃ z:Int,D0*cc j=z/\z.natAbs<=M)(hb:∃ z:Int,D0*w0=z/\z.natAbs<=M):Quo (bdQ p M) t.worth.c:=by
 rw [<- sol_W h.ok,ho _ ((h.sol _).1 (db h.ok))]
 have:=quo_row h hw hM (sol_row h) hw.b (fun v hv _=>sol_so h v hv) (a0:=fun j=>-cc j) (b0:=w0) hD (fun j hj=>by obtain ⟨z,e,hz⟩:=ha j hj;exact ⟨-z,by rw [Rat.intCast_neg,<- e];grind,by omega⟩) hb
 rw [show w0+sumN (fun j=>cc j*t.sol j) p.n=w0-sumN (fun j=>-cc j*if j∈FB p t then t.sol j else 0) p.n from ?_]
 ·exact this
 ·have e:sumN (fun j=>-cc j*if j∈FB p t then t.sol j else 0) p.n=-1*sumN (fun j=>cc j*t.sol j) p.n:=by
   rw [<- ci]
   exact sumN_congr fun j hj=>by rw [<- sol_fb h hj];grind
  rw [e];grind
theorem wfac_quo (h:TabOf p t)(hw:p.Wh D M)(hM:0<M)(ho:ObjOf p t w0 cc){D0:Int}(hD:D0≠0/\D0.natAbs<=M)(ha:∀ j,j<p.n->∃ z:Int,D0*cc j=z/\z.natAbs<=M){s:Nat}(hs:s<t.others.length):Quo (bdQ p M) (t.worth.g s):=by
 have h1:=ho _ ((h.sol _).1 (ext_sol h.ok (cl (t.oth s))))
 have h2:=ho _ ((h.sol _).1 (db h.ok))
 rw [sol_W h.ok] at h2
 have h3:t.W (t.ext (cl (t.oth s)))=t.worth.c+t.worth.g s:=by
  unfold Tab.W
  rw [lv_ext h.ok,lv_unit h.ok hs]
 have h4:sumN (fun j=>cc j*t.dir s j) p.n=sumN (fun j=>cc j*t.ext (cl (t.oth s)) j) p.n-sumN (fun j=>cc j*t.sol j) p.n:=by
  have h5:=cM (fun j=>cc j*t.dir s j) (fun j=>cc j*t.sol j) p.n
  rw [show sumN (fun j=>cc j*t.dir s j+cc j*t.sol j) p.n=sumN (fun j=>cc j*t.ext (cl (t.oth s)) j) p.n from sumN_congr fun j _=>by unfold Tab.dir;grind] at h5
  grind
 have h5:t.worth.g s=(if t.oth s<p.n then cc (t.oth s) else 0)-sumN (fun j=>-cc j*if j∈FB p t then t.dir s j else 0) p.n:=by
  have e:sumN (fun j=>-cc j*if j∈FB p t then t.dir s j else 0) p.n=-1*sumN (fun j=>cc j*if j∈FB p t then t.dir s j else 0) p.n:=by
   rw [<- ci]
   exact sumN_congr fun j hj=>by grind
  have h6:=dir_sum h hs cc
  rw [e];grind
 rw [h5]
 exact quo_row h hw hM (dir_row h hs) (hhD_int hw s) (fun v hv _=>dir_so h v hv) hD (fun j hj=>by obtain ⟨z,e,hz⟩:=ha j hj;exact ⟨-z,by rw [Rat.intCast_neg,<- e];grind,by omega⟩) (by
  split
  ·next hu=>exact ha _ hu
  ·exact ⟨0,by show _=(0:Rat);grind,Nat.zero_le _⟩)
end
end Go.Jog.Lp
namespace Go.Jog.Lp

theorem sumN_split (g:Nat->Rat)(n:Nat):∀ m,sumN g (n+m)=sumN g n+sumN (fun r=>g (n+r)) m
 | 0=>by show sumN g n=sumN g n+0;grind
 | m+1=>by
  show sumN g (n+m+1)=_
  rw [sumN,sumN,sumN_split g n m];grind
theorem sumN_unit {g:Nat->Rat}{k n:Nat}(hk:k<n):sumN (fun j=>g j*cl k j) n=g k:=by
 rw [eD hk,bH fun j _=>?_]
 ·unfold cl;rw [if_pos rfl];grind
 ·unfold cl
  split
  ·rfl
  ·grind
section
variable {p:Sys} {t:Tab}
def Sys.full (p:Sys)(y:Nat->Rat)(v:Nat):Rat:=if v<p.n then y v else p.b (v-p.n)-sumN (fun j=>p.a (v-p.n) j*y j) p.n
theorem full_free {y:Nat->Rat}{v:Nat}(h:v<p.n):p.full y v=y v:=if_pos h
theorem full_slack {y:Nat->Rat}(r:Nat):p.full y (p.n+r)=p.b r-sumN (fun j=>p.a r j*y j) p.n:=by
 unfold Sys.full
 rw [if_neg om_,Nat.add_sub_cancel_left]
theorem full_sol (y:Nat->Rat):p.Sol (p.full y):=by
 intro r hr
 rw [full_slack]
 congr 1
 exact sumN_congr fun j hj=>by rw [full_free hj]
def dualV (p:Sys)(t:Tab)(l:Line)(r:Nat):Rat:=if p.n+r∈t.others then l.g (t.others.idxOf (p.n+r)) else 0
theorem dualV_at (h:TabOf p t){l:Line}{s:Nat}(hs:s<t.others.length)(hF:p.n<=t.oth s):dualV p t l (t.oth s-p.n)=l.g s:=by
 unfold dualV
 rw [show p.n+(t.oth s-p.n)=t.oth s by omega,if_pos (oth_mem hs)]
 congr 1
 exact bJ h.ok.no hs
theorem dualV_none {l:Line}{r:Nat}(h:p.n+r ∉ t.others):dualV p t l r=0:=if_neg h
theorem eR (h:TabOf p t)(l:Line)(r:Nat):dualV p t l r=0∨∃ s,s<t.others.length/\t.oth s=p.n+r/\dualV p t l r=l.g s:=by
 by_cases hm:p.n+r∈t.others
 ·obtain ⟨s,hs,e⟩:=cj hm
  have e':t.oth s=p.n+r:=e
  refine .inr ⟨s,hs,e', ?_⟩
  have:=dualV_at h (l:=l) hs om_
  rwa [e',Nat.add_sub_cancel_left] at this
 ·exact .inl (dualV_none hm)
theorem lv_dual (h:TabOf p t){l:Line}(hf:∀ s,s<t.others.length->t.oth s<p.n->l.g s=0)(x:Nat->Rat):lv l t.others x=l.c+sumN (fun r=>dualV p t l r*x (p.n+r)) p.m:=by
 have h1:=sumN_in (g:=fun v=>l.g (t.others.idxOf v)*x v) (n:=p.n+p.m) h.ok.no fun v hv=>h.ok.lt v (List.mem_append.2 (.inr hv))
 have h2:sumN (fun j=>l.g j*x (t.others.getD j 0)) t.others.length=sumN (fun q=>(fun v=>l.g (t.others.idxOf v)*x v) (t.others.getD q 0)) t.others.length:=sumN_congr fun j hj=>by
  show _=l.g (t.others.idxOf (t.others.getD j 0))*_
  rw [bJ h.ok.no hj]
 unfold lv
 rw [h2,<- h1,sumN_split,bH fun v hv=>?_]
 ·congr 1
  rw [show (0:Rat)+sumN (fun r=>if p.n+r∈t.others then l.g (t.others.idxOf (p.n+r))*x (p.n+r) else 0) p.m=sumN (fun r=>if p.n+r∈t.others then l.g (t.others.idxOf (p.n+r))*x (p.n+r) else 0) p.m from by grind]
  refine sumN_congr fun r _=>?_
  unfold dualV
  split <;> grind
 ·split
  ·next hm =>
   obtain ⟨s,hs,e⟩:=cj hm
   have e':t.oth s=v:=e
   rw [<- e,bJ h.ok.no hs,hf s hs om_];grind
  ·rfl
theorem cert {y:Nat->Rat}{q0 e0:Rat}{ee:Nat->Rat}(h:∀ x,p.Sol x->q0+sumN (fun r=>y r*x (p.n+r)) p.m=e0+sumN (fun j=>ee j*x j) p.n) :
  q0+sumN (fun r=>y r*p.b r) p.m=e0/\∀ j,j<p.n->sumN (fun r=>y r*p.a r j) p.m=-ee j:=by
 have hu:∀ u:Nat->Rat,q0+sumN (fun r=>y r*(p.b r-sumN (fun j=>p.a r j*u j) p.n)) p.m=e0+sumN (fun j=>ee j*u j) p.n:=by
  intro u
  have:=h _ (full_sol (p:=p) u)
  rw [sumN_congr (g:=fun r=>y r*p.full u (p.n+r)) (h:=fun r=>y r*(p.b r-sumN (fun j=>p.a r j*u j) p.n)) fun r _=>by rw [full_slack],sumN_congr (g:=fun j=>ee j*p.full u j) (h:=fun j=>ee j*u j) fun j hj=>by rw [full_free hj]] at this
  exact this
 have h0:q0+sumN (fun r=>y r*p.b r) p.m=e0:=by
  have:=hu fun _=>0
  rw [bH (g:=fun j=>ee j*(0:Rat)) fun j _=>by grind,sumN_congr (h:=fun r=>y r*p.b r) fun r _=>by rw [bH fun j _=>by grind];grind] at this
  grind
 refine ⟨h0,fun j hj=>?_⟩
 have h1:=hu (cl j)
 rw [sumN_unit hj,sumN_congr (h:=fun r=>y r*p.b r + -1*(y r*p.a r j)) fun r _=>by rw [sumN_unit hj];grind,cM,ci] at h1
 grind
def Rel (F:Nat)(t:Tab)(k:Nat):Prop:=∀ s,s<k->s<t.others.length->t.oth s<F->∀ i,i<t.basic.length->F<=t.bas i->(t.line i).g s=0
theorem rel_pivot {F N k r s:Nat}(h:t.Ok N)(hc:Rel F t k)(hr:r<t.basic.length)(hs:s<t.others.length)(hF:F<=t.bas r):Rel F (t.pivot r s) k:=by
 intro s' hk hs' ho i hi hb
 have hlb:(t.pivot r s).basic.length=t.basic.length:=List.length_set
 have hlo:(t.pivot r s).others.length=t.others.length:=List.length_set
 rw [hlo] at hs'
 rw [hlb] at hi
 rw [pivot_oth hs] at ho
 rw [pivot_bas hr] at hb
 have hne:s'≠s:=by
  intro e
  rw [if_pos e] at ho;omega
 rw [if_neg hne] at ho
 have hz:=hc s' hk hs' ho r hr hF
 have hfr:(t.line r).f.length=t.others.length:=h.fl _ (line_mem h hr)
 have hfi:(t.line i).f.length=t.others.length:=h.fl _ (line_mem h hi)
 have hby:(byL (t.line r) s).g s'=0:=by
  rw [byL_g om_,if_neg hne,hz];grind
 rw [pivot_line (by rw [h.ll];exact hi)]
 split
 ·exact hby
 ·next hir =>
  rw [if_neg hir] at hb
  rw [putL_g om_,if_neg hne,hc s' hk hs' ho i hi hb,hby];grind
theorem rel_next {F N r s:Nat}(h:t.Ok N)(hc:Rel F t s)(hr:r<t.basic.length)(hs:s<t.others.length)(hF:F<=t.bas r):Rel F (t.pivot r s) (s+1):=by
 intro s' hk hs' ho i hi hb
 by_cases e:s'=s
 ·rw [e,pivot_oth hs,if_pos rfl] at ho;omega
 ·exact rel_pivot h hc hr hs hF s' om_ hs' ho i hi hb
theorem rel_none {F s:Nat}(hc:Rel F t s)(hn:∀ i,i<t.basic.length->F<=t.bas i->(t.line i).g s=0):Rel F t (s+1):=by
 intro s' hk hs' ho i hi hb
 by_cases e:s'=s
 ·rw [e];exact hn i hi hb
 ·exact hc s' om_ hs' ho i hi hb
theorem sol_full (h:TabOf p t)(r:Nat)(hr:r<p.m):t.sol (p.n+r)=p.b r-sumN (fun j=>p.a r j*t.sol j) p.n:=(h.sol _).1 (db h.ok) r hr
theorem feas_point (h:TabOf p t)(hf:t.Feas p.n)(r:Nat)(hr:r<p.m):sumN (fun j=>p.a r j*t.sol j) p.n<=p.b r:=by
 have h1:=sol_full h r hr
 have h2:0<=t.sol (p.n+r):=by
  by_cases hb:p.n+r∈t.basic
  ·obtain ⟨i,hi,e⟩:=cj hb
   have e':t.bas i=p.n+r:=e
   rw [<- e',sol_bas h.ok hi]
   exact hf i hi om_
  ·rw [sol_oth h.ok hb];exact Rat.le_refl
 grind
def refV (p:Sys)(t:Tab)(i r:Nat):Rat:=if r=t.bas i-p.n then 1 else -dualV p t (t.line i) r
theorem refute (h:TabOf p t)(hc:Rel p.n t p.n){i:Nat}(hi:i<t.basic.length)(hF:p.n<=t.bas i)(hg:∀ s,s<t.others.length->p.n<=t.oth s->(t.line i).g s<=0) :
  (∀ r,0<=refV p t i r)/\sumN (fun r=>refV p t i r*p.b r) p.m=(t.line i).c/\∀ j,j<p.n->sumN (fun r=>refV p t i r*p.a r j) p.m=0:=by
 have hlt:=h.ok.lt _ (List.mem_append.2 (.inl (bas_mem hi)))
 have hz:∀ s,s<t.others.length->t.oth s<p.n->(t.line i).g s=0:=fun s hs ho=>hc s (by rw [<- h.lo];exact hs) hs ho i hi hF
 have hd0:dualV p t (t.line i) (t.bas i-p.n)=0:=dualV_none (by rw [show p.n+(t.bas i-p.n)=t.bas i by omega];exact fun ho=>h.ok.dj (bas_mem hi) ho)
 have hnn:∀ r,dualV p t (t.line i) r<=0:=fun r=>by
  rcases eR h (t.line i) r with e | ⟨s,hs,e1,e2⟩
  ·rw [e];exact Rat.le_refl
  ·rw [e2];exact hg s hs om_
 have hall:∀ x,p.Sol x->-(t.line i).c+sumN (fun r=>refV p t i r*x (p.n+r)) p.m=0+sumN (fun j=>(0:Rat)*x j) p.n:=by
  intro x hx
  have h1:=(h.sol x).2 hx i hi
  rw [lv_dual h hz] at h1
  have h2:∀ r,r<p.m->refV p t i r*x (p.n+r)=x (p.n+r)*cl (t.bas i-p.n) r + -1*(dualV p t (t.line i) r*x (p.n+r)):=by
   intro r _
   unfold refV cl
   split
   ·next e=>rw [e,hd0];grind
   ·grind
  rw [sumN_congr h2,cM,ci,sumN_unit (g:=fun r=>x (p.n+r)) (show t.bas i-p.n<p.m by omega),bH (g:=fun j=>(0:Rat)*x j) fun j _=>by grind]
  rw [show p.n+(t.bas i-p.n)=t.bas i by omega,h1]
  grind
 obtain ⟨c1,c2⟩:=cert hall
 refine ⟨fun r=>?_,by grind,fun j hj=>by rw [c2 j hj];decide⟩
 unfold refV
 split
 ·decide
 ·have:=hnn r;grind
theorem dual_opt (h:TabOf p t){w0:Rat}{cc:Nat->Rat}(ho:ObjOf p t w0 cc)(hz:∀ s,s<t.others.length->t.oth s<p.n->t.worth.g s=0)(hg:∀ s,s<t.others.length->p.n<=t.oth s->0<=t.worth.g s) :
  (∀ r,0<=dualV p t t.worth r)/\t.worth.c+sumN (fun r=>dualV p t t.worth r*p.b r) p.m=w0/\(∀ j,j<p.n->sumN (fun r=>dualV p t t.worth r*p.a r j) p.m=-cc j)/\w0+sumN (fun j=>cc j*t.sol j) p.n=t.worth.c:=by
 obtain ⟨c1,c2⟩:=cert (p:=p) (y:=dualV p t t.worth) (q0:=t.worth.c) (e0:=w0) (ee:=cc) fun x hx=>by rw [<- ho x hx,<- lv_dual h hz];rfl
 refine ⟨fun r=>?_,c1,c2, ?_⟩
 ·rcases eR h t.worth r with e | ⟨s,hs,e1,e2⟩
  ·rw [e];exact Rat.le_refl
  ·rw [e2];exact hg s hs om_
 ·rw [<- ho _ ((h.sol _).1 (db h.ok)),sol_W h.ok]
end
end Go.Jog.Lp
namespace Go.Jog.Lp

section
variable {p:Sys} {t:Tab}
theorem dir_hom (h:TabOf p t)(s:Nat){r:Nat}(hr:r<p.m):sumN (fun j=>p.a r j*t.dir s j) p.n=-t.dir s (p.n+r):=by
 have h1:=(h.sol _).1 (ext_sol h.ok (cl (t.oth s))) r hr
 have h2:=(h.sol _).1 (db h.ok) r hr
 have h5:=cM (fun j=>p.a r j*t.dir s j) (fun j=>p.a r j*t.sol j) p.n
 rw [show sumN (fun j=>p.a r j*t.dir s j+p.a r j*t.sol j) p.n=sumN (fun j=>p.a r j*t.ext (cl (t.oth s)) j) p.n from sumN_congr fun j _=>by unfold Tab.dir;grind] at h5
 have h6:t.dir s (p.n+r)=t.ext (cl (t.oth s)) (p.n+r)-t.sol (p.n+r):=rfl
 rw [h6,h1,h2];grind
theorem dir_worth (h:TabOf p t){w0:Rat}{cc:Nat->Rat}(ho:ObjOf p t w0 cc){s:Nat}(hs:s<t.others.length):sumN (fun j=>cc j*t.dir s j) p.n=t.worth.g s:=by
 have h1:=ho _ ((h.sol _).1 (ext_sol h.ok (cl (t.oth s))))
 have h2:=ho _ ((h.sol _).1 (db h.ok))
 rw [sol_W h.ok] at h2
 have h3:t.W (t.ext (cl (t.oth s)))=t.worth.c+t.worth.g s:=by
  unfold Tab.W
  rw [lv_ext h.ok,lv_unit h.ok hs]
 have h5:=cM (fun j=>cc j*t.dir s j) (fun j=>cc j*t.sol j) p.n
 rw [show sumN (fun j=>cc j*t.dir s j+cc j*t.sol j) p.n=sumN (fun j=>cc j*t.ext (cl (t.oth s)) j) p.n from sumN_congr fun j _=>by unfold Tab.dir;grind] at h5
 grind
theorem ray_ok (h:TabOf p t){w0:Rat}{cc:Nat->Rat}(ho:ObjOf p t w0 cc){s:Nat}(hs:s<t.others.length){k:Rat}(hk:k*t.worth.g s<0)
  (hg:∀ i,i<t.basic.length->p.n<=t.bas i->0<=k*(t.line i).g s) (ho':p.n<=t.oth s->0<=k) :
  (∀ r,r<p.m->sumN (fun j=>p.a r j*(k*t.dir s j)) p.n<=0)/\sumN (fun j=>cc j*(k*t.dir s j)) p.n<0:=by
 have e:∀ f:Nat->Rat,sumN (fun j=>f j*(k*t.dir s j)) p.n=k*sumN (fun j=>f j*t.dir s j) p.n:=fun f=>by
  rw [<- ci];exact sumN_congr fun j _=>by grind
 refine ⟨fun r hr=>?_,by rw [e,dir_worth h ho hs];exact hk⟩
 rw [e,dir_hom h s hr]
 have h2:0<=k*t.dir s (p.n+r):=by
  by_cases hb:p.n+r∈t.basic
  ·obtain ⟨i,hi,e⟩:=cj hb
   have e':t.bas i=p.n+r:=e
   rw [<- e',dir_bas h hs hi]
   exact hg i hi om_
  ·rw [dir_oth h hb]
   split
   ·next e=>have:=ho' om_;grind
   ·have:k*0=0:=Rat.mul_zero k
    rw [this];exact Rat.le_refl
 grind
def RelW (F:Nat)(t:Tab):Prop:=∀ s,s<t.others.length->t.oth s<F->t.worth.g s=0
theorem relw_pivot {F N r s:Nat}(h:t.Ok N)(hc:∀ s,s<t.others.length->t.oth s<F->∀ i,i<t.basic.length->F<=t.bas i->(t.line i).g s=0)(hw:RelW F t)(hr:r<t.basic.length)(hs:s<t.others.length)(hF:F<=t.bas r):RelW F (t.pivot r s):=by
 intro s' hs' ho
 have hlo:(t.pivot r s).others.length=t.others.length:=List.length_set
 rw [hlo] at hs'
 rw [pivot_oth hs] at ho
 have hne:s'≠s:=by
  intro e
  rw [if_pos e] at ho;omega
 rw [if_neg hne] at ho
 have hz:=hc s' hs' ho r hr hF
 have hfr:(t.line r).f.length=t.others.length:=h.fl _ (line_mem h hr)
 have hby:(byL (t.line r) s).g s'=0:=by
  rw [byL_g om_,if_neg hne,hz];grind
 show (putL t.worth s (byL (t.line r) s)).g s'=0
 rw [putL_g (by rw [h.wl];exact hs'),if_neg hne,hw s' hs' ho,hby];grind
inductive LeastR (vs:List Nat) (q:Nat->Prop) (n:Nat):Int->Prop where
 | none:(∀ i,i<n->¬ q i)->LeastR vs q n (-1)
 | some (i:Nat):i<n->q i->(∀ j,j<n->q j->vs.getD i 0<=vs.getD j 0)->LeastR vs q n i
theorem LeastR.no {vs:List Nat}{q:Nat->Prop}{n:Nat}{o:Int}(h:LeastR vs q n o)(hn:¬ q n):LeastR vs q (n+1) o:=by
 cases h with
 | none h=>exact .none fun i hi hq=>by rcases Nat.lt_or_eq_of_le (Nat.le_of_lt_succ hi) with h1 | h1;exact h i h1 hq;exact hn (h1 ▸ hq)
 | some i hi hq hm=>exact .some i om_ hq fun j hj hj2=>by rcases Nat.lt_or_eq_of_le (Nat.le_of_lt_succ hj) with h1 | h1;exact hm j h1 hj2;exact absurd (h1 ▸ hj2) hn
theorem LeastR.first {vs:List Nat}{q:Nat->Prop}{n:Nat}(h:LeastR vs q n (-1))(hn:q n):LeastR vs q (n+1) n:=by
 have h1:∀ i,i<n->¬ q i:=by
  generalize ho:(-1:Int)=o at h
  cases h with
  | none h=>exact h
  | some i=>omega
 exact .some n om_ hn fun j hj hq=>by rcases Nat.lt_or_eq_of_le (Nat.le_of_lt_succ hj) with h2 | h2;exact absurd hq (h1 j h2);rw [h2];exact Nat.le_refl _
theorem LeastR.less {vs:List Nat}{q:Nat->Prop}{n i:Nat}(h:LeastR vs q n i)(hn:q n)(hl:vs.getD n 0<vs.getD i 0):LeastR vs q (n+1) n:=by
 generalize ho:(i:Int)=o at h
 cases h with
 | none h=>omega
 | some k hk hq hm =>
  obtain rfl:i=k:=by omega
  exact .some n om_ hn fun j hj hq=>by rcases Nat.lt_or_eq_of_le (Nat.le_of_lt_succ hj) with h2 | h2;have:=hm j h2 hq;omega;rw [h2];exact Nat.le_refl _
theorem LeastR.keep {vs:List Nat}{q:Nat->Prop}{n i:Nat}(h:LeastR vs q n i)(hl:¬ vs.getD n 0<vs.getD i 0):LeastR vs q (n+1) i:=by
 generalize ho:(i:Int)=o at h
 cases h with
 | none h=>omega
 | some k hk hq hm =>
  obtain rfl:i=k:=by omega
  exact .some i om_ hq fun j hj hq=>by rcases Nat.lt_or_eq_of_le (Nat.le_of_lt_succ hj) with h2 | h2;exact hm j h2 hq;rw [h2];omega
inductive LeaveR (F:Nat) (t:Tab) (s n:Nat):Int->Prop where
 | none:(∀ i,i<n->F<=t.bas i->0<=(t.line i).g s)->LeaveR F t s n (-1)
 | some (r:Nat):r<n->F<=t.bas r->(t.line r).g s<0 ->
   (∀ i,i<n->F<=t.bas i->(t.line i).g s<0->(t.line r).c / -(t.line r).g s<(t.line i).c / -(t.line i).g s∨(t.line r).c / -(t.line r).g s=(t.line i).c / -(t.line i).g s/\t.bas r<=t.bas i)->LeaveR F t s n r
theorem LeaveR.no {F s n:Nat}{o:Int}(h:LeaveR F t s n o)(hn:F<=t.bas n->0<=(t.line n).g s):LeaveR F t s (n+1) o:=by
 cases h with
 | none h=>exact .none fun i hi hF=>by rcases Nat.lt_or_eq_of_le (Nat.le_of_lt_succ hi) with h1 | h1;exact h i h1 hF;rw [h1] at hF ⊢;exact hn hF
 | some r hr hF hg hm =>
  refine .some r om_ hF hg fun j hj hF2 hg2=>?_
  rcases Nat.lt_or_eq_of_le (Nat.le_of_lt_succ hj) with h1 | h1
  ·exact hm j h1 hF2 hg2
  ·rw [h1] at hF2 hg2
   have:=hn hF2;grind
theorem LeaveR.first {F s n:Nat}(h:LeaveR F t s n (-1))(hF:F<=t.bas n)(hg:(t.line n).g s<0):LeaveR F t s (n+1) n:=by
 have h1:∀ i,i<n->F<=t.bas i->0<=(t.line i).g s:=by
  generalize ho:(-1:Int)=o at h
  cases h with
  | none h=>exact h
  | some i=>omega
 refine .some n om_ hF hg fun j hj hF2 hg2=>?_
 rcases Nat.lt_or_eq_of_le (Nat.le_of_lt_succ hj) with h2 | h2
 ·have:=h1 j h2 hF2;grind
 ·rw [h2];exact .inr ⟨rfl,Nat.le_refl _⟩
theorem LeaveR.less {F s n r:Nat}(h:LeaveR F t s n r)(hF:F<=t.bas n)(hg:(t.line n).g s<0)
  (hl:(t.line n).c / -(t.line n).g s<(t.line r).c / -(t.line r).g s∨(t.line n).c / -(t.line n).g s=(t.line r).c / -(t.line r).g s/\t.bas n<=t.bas r):LeaveR F t s (n+1) n:=by
 generalize ho:(r:Int)=o at h
 cases h with
 | none h=>omega
 | some k hk hF1 hg1 hm =>
  obtain rfl:r=k:=by omega
  refine .some n om_ hF hg fun j hj hF2 hg2=>?_
  rcases Nat.lt_or_eq_of_le (Nat.le_of_lt_succ hj) with h2 | h2
  ·rcases hl with h3 | ⟨h3,h3'⟩ <;> rcases hm j h2 hF2 hg2 with h4 | ⟨h4,h4'⟩
   ·exact .inl (by grind)
   ·exact .inl (by grind)
   ·exact .inl (by grind)
   ·exact .inr ⟨h3.trans h4,Nat.le_trans h3' h4'⟩
  ·rw [h2];exact .inr ⟨rfl,Nat.le_refl _⟩
theorem LeaveR.keep {F s n r:Nat}(h:LeaveR F t s n r)
  (hl:(t.line r).c / -(t.line r).g s<(t.line n).c / -(t.line n).g s∨(t.line r).c / -(t.line r).g s=(t.line n).c / -(t.line n).g s/\t.bas r<=t.bas n):LeaveR F t s (n+1) r:=by
 generalize ho:(r:Int)=o at h
 cases h with
 | none h=>omega
 | some k hk hF1 hg1 hm =>
  obtain rfl:r=k:=by omega
  refine .some r om_ hF1 hg1 fun j hj hF2 hg2=>?_
  rcases Nat.lt_or_eq_of_le (Nat.le_of_lt_succ hj) with h2 | h2
  ·exact hm j h2 hF2 hg2
  ·rw [h2];exact hl
end
end Go.Jog.Lp
namespace Go.Jog.Lp

theorem Quo.qb {K k:Nat}{q:Rat}(h:Quo K q)(hK:K<B9 ^ k):QB k q:=by
 obtain ⟨z,w,h1,h2,h3,h4⟩:=h
 have key:∀ (z:Int)(d:Nat),d≠0->q*(d:Int)=z->z.natAbs<=K->d<=K->QB k q:=by
  intro z d hd e hz hdK
  have e2:q=mkRat z d:=by
   rw [Rat.mkRat_eq_div,<- e]
   have:(d:Rat)≠0:=fun e0=>hd (by exact_mod_cast e0)
   rw [Rat.intCast_natCast]
   grind
  rw [e2]
  exact mk_bound hd om_ om_
 rcases Int.lt_or_gt_of_ne h1 with hw | hw
 ·refine key (-z) w.natAbs om_ ?_ om_ om_
  rw [show ((w.natAbs:Nat):Int)=-w by omega,Rat.intCast_neg,Rat.intCast_neg,<- h2];grind
 ·refine key z w.natAbs om_ ?_ om_ om_
  rw [show ((w.natAbs:Nat):Int)=w by omega];exact h2
structure Lim (p:Sys)(cc:Nat->Rat)(k:Nat):Prop where
 ex:∃ (D:Nat->Int)(M:Nat)(D0:Int),0<M/\p.Wh D M/\(D0≠0/\D0.natAbs<=M)/\(∀ j,j<p.n->∃ z:Int,D0*cc j=z/\z.natAbs<=M)/\bdQ p M<B9 ^ k
structure Inv (p:Sys)(cc:Nat->Rat)(t:Tab):Prop where
 tab:TabOf p t
 obj:ObjOf p t 0 cc
section
variable {p:Sys} {cc:Nat->Rat} {t:Tab} {k:Nat}
theorem Inv.con (h:Inv p cc t)(hl:Lim p cc k){i:Nat}(hi:i<t.basic.length):QB k (t.line i).c:=by
 obtain ⟨D,M,D0,h1,h2,h3,h4,h5⟩:=hl.ex
 exact (con_quo h.tab h2 h1 hi).qb h5
theorem Inv.fac (h:Inv p cc t)(hl:Lim p cc k){i s:Nat}(hi:i<t.basic.length)(hs:s<t.others.length):QB k ((t.line i).g s):=by
 obtain ⟨D,M,D0,h1,h2,h3,h4,h5⟩:=hl.ex
 exact (fac_quo h.tab h2 h1 hi hs).qb h5
theorem Inv.wcon (h:Inv p cc t)(hl:Lim p cc k):QB k t.worth.c:=by
 obtain ⟨D,M,D0,h1,h2,h3,h4,h5⟩:=hl.ex
 exact (wcon_quo h.tab h2 h1 h.obj h3 h4 ⟨0,by show _=(0:Rat);grind,Nat.zero_le _⟩).qb h5
theorem Inv.wfac (h:Inv p cc t)(hl:Lim p cc k){s:Nat}(hs:s<t.others.length):QB k (t.worth.g s):=by
 obtain ⟨D,M,D0,h1,h2,h3,h4,h5⟩:=hl.ex
 exact (wfac_quo h.tab h2 h1 h.obj h3 h4 hs).qb h5
theorem Inv.pivot (h:Inv p cc t){r s:Nat}(hr:r<t.basic.length)(hs:s<t.others.length)(hk:(t.line r).g s≠0):Inv p cc (t.pivot r s):=⟨h.tab.pivot hr hs hk,h.obj.pivot h.tab hr hs hk⟩
theorem b9_lt (hk:1<=k):1<B9 ^ k:=Nat.lt_of_lt_of_le (show 1<B9 ^ 1 from by decide) (Nat.pow_le_pow_right (by decide) hk)
theorem qb_zero (hk:1<=k):QB k 0:=⟨Nat.lt_trans Nat.one_pos (b9_lt hk),b9_lt hk⟩
theorem qb_one (hk:1<=k):QB k 1:=⟨b9_lt hk,b9_lt hk⟩
theorem qb_neg {q:Rat}(h:QB k q):QB k (-q):=⟨by rw [Rat.neg_num];have:=h.1;omega,h.2⟩
theorem Inv.sol (h:Inv p cc t)(hl:Lim p cc k)(hk:1<=k)(v:Nat):QB k (t.sol v):=by
 by_cases hb:v∈t.basic
 ·obtain ⟨i,hi,e⟩:=cj hb
  have e':t.bas i=v:=e
  rw [<- e',sol_bas h.tab.ok hi]
  exact h.con hl hi
 ·rw [sol_oth h.tab.ok hb];exact qb_zero hk
theorem Inv.dir (h:Inv p cc t)(hl:Lim p cc k)(hk:1<=k){s:Nat}(hs:s<t.others.length)(v:Nat):QB k (t.dir s v):=by
 by_cases hb:v∈t.basic
 ·obtain ⟨i,hi,e⟩:=cj hb
  have e':t.bas i=v:=e
  rw [<- e',dir_bas h.tab hs hi]
  exact h.fac hl hi hs
 ·rw [dir_oth h.tab hb]
  split
  ·exact qb_one hk
  ·exact qb_zero hk
theorem Inv.dualQ (h:Inv p cc t)(hl:Lim p cc k)(hk:1<=k){i:Nat}(hi:i<t.basic.length)(r:Nat):QB k (dualV p t (t.line i) r):=by
 rcases eR h.tab (t.line i) r with e | ⟨s,hs,_,e2⟩
 ·rw [e];exact qb_zero hk
 ·rw [e2];exact h.fac hl hi hs
theorem Inv.dualW (h:Inv p cc t)(hl:Lim p cc k)(hk:1<=k)(r:Nat):QB k (dualV p t t.worth r):=by
 rcases eR h.tab t.worth r with e | ⟨s,hs,_,e2⟩
 ·rw [e];exact qb_zero hk
 ·rw [e2];exact h.wfac hl hs
theorem Inv.refQ (h:Inv p cc t)(hl:Lim p cc k)(hk:1<=k){i:Nat}(hi:i<t.basic.length)(r:Nat):QB k (refV p t i r):=by
 unfold refV
 split
 ·exact qb_one hk
 ·exact qb_neg (h.dualQ hl hk hi r)
structure OptR (p:Sys)(cc:Nat->Rat)(k:Nat)(val:Rat)(pt du:Nat->Rat):Prop where
 row:∀ r,r<p.m->sumN (fun j=>p.a r j*pt j) p.n<=p.b r
 wor:sumN (fun j=>cc j*pt j) p.n=val
 pos:∀ r,0<=du r
 fac:∀ j,j<p.n->sumN (fun r=>du r*p.a r j) p.m=-cc j
 bnd:sumN (fun r=>du r*p.b r) p.m=-val
 qv:QB k val
 qp:∀ j,QB k (pt j)
 qd:∀ r,QB k (du r)
structure InfR (p:Sys)(k:Nat)(du:Nat->Rat):Prop where
 pos:∀ r,0<=du r
 fac:∀ j,j<p.n->sumN (fun r=>du r*p.a r j) p.m=0
 bnd:sumN (fun r=>du r*p.b r) p.m<0
 qd:∀ r,QB k (du r)
structure UnbR (p:Sys)(cc:Nat->Rat)(k:Nat)(pt ra:Nat->Rat):Prop where
 row:∀ r,r<p.m->sumN (fun j=>p.a r j*pt j) p.n<=p.b r
 ray:∀ r,r<p.m->sumN (fun j=>p.a r j*ra j) p.n<=0
 fall:sumN (fun j=>cc j*ra j) p.n<0
 qp:∀ j,QB k (pt j)
 qr:∀ j,QB k (ra j)
theorem Inv.opt (h:Inv p cc t)(hl:Lim p cc k)(hk:1<=k)(hf:t.Feas p.n)(hz:RelW p.n t)(hg:∀ s,s<t.others.length->p.n<=t.oth s->0<=t.worth.g s):OptR p cc k t.worth.c t.sol (dualV p t t.worth):=by
 obtain ⟨h1,h2,h3,h4⟩:=dual_opt h.tab h.obj hz hg
 exact ⟨fun r hr=>feas_point h.tab hf r hr,by grind,h1,h3,by grind,h.wcon hl,h.sol hl hk,h.dualW hl hk⟩
theorem Inv.inf (h:Inv p cc t)(hl:Lim p cc k)(hk:1<=k)(hc:Rel p.n t p.n){i:Nat}(hi:i<t.basic.length)(hF:p.n<=t.bas i)(hneg:(t.line i).c<0)(hg:∀ s,s<t.others.length->p.n<=t.oth s->(t.line i).g s<=0):InfR p k (refV p t i):=by
 obtain ⟨h1,h2,h3⟩:=refute h.tab hc hi hF hg
 exact ⟨h1,h3,by rw [h2];exact hneg,h.refQ hl hk hi⟩
theorem Inv.unb (h:Inv p cc t)(hl:Lim p cc k)(hk:1<=k)(hf:t.Feas p.n){s:Nat}(hs:s<t.others.length){u:Rat}(hu:u=1∨u=-1)(hw:u*t.worth.g s<0)
  (hg:∀ i,i<t.basic.length->p.n<=t.bas i->0<=u*(t.line i).g s) (ho:p.n<=t.oth s->0<=u):UnbR p cc k t.sol fun j=>u*t.dir s j:=by
 obtain ⟨h1,h2⟩:=ray_ok h.tab h.obj hs hw hg ho
 refine ⟨fun r hr=>feas_point h.tab hf r hr,h1,h2,h.sol hl hk,fun j=>?_⟩
 rcases hu with rfl | rfl
 ·rw [Rat.one_mul];exact h.dir hl hk hs j
 ·rw [show (-1:Rat)*t.dir s j=-t.dir s j from by grind];exact qb_neg (h.dir hl hk hs j)
end
def openT (p:Sys)(cc:Nat->Rat):Tab :=
 ⟨(List.range p.m).map fun r=>p.n+r,(List.range p.m).map fun r=>⟨p.b r,(List.range p.n).map fun j=>-p.a r j⟩,List.range p.n,⟨0,(List.range p.n).map cc⟩⟩
section
variable {p:Sys} {cc:Nat->Rat}
theorem range_at {n j:Nat}(h:j<n):(List.range n).getD j 0=j:=by
 rw [List.getD_eq_getElem?_getD,List.getElem?_range h];rfl
theorem openT_bas {r:Nat}(h:r<p.m):(openT p cc).bas r=p.n+r:=by
 show ((List.range p.m).map fun r=>p.n+r).getD r 0=_
 rw [List.getD_eq_getElem?_getD,List.getElem?_map,List.getElem?_range h];rfl
theorem openT_line {r:Nat}(h:r<p.m):(openT p cc).line r=⟨p.b r,(List.range p.n).map fun j=>-p.a r j⟩:=by
 show ((List.range p.m).map _).getD r _=_
 rw [List.getD_eq_getElem?_getD,List.getElem?_map,List.getElem?_range h];rfl
theorem openT_lb:(openT p cc).basic.length=p.m:=by show ((List.range p.m).map _).length=_;rw [List.length_map,List.length_range]
theorem openT_lo:(openT p cc).others.length=p.n:=List.length_range
theorem openT_inv:Inv p cc (openT p cc):=by
 have hsol:∀ x,(openT p cc).Sol x ↔ p.Sol x:=by
  intro x
  unfold Tab.Sol Sys.Sol
  rw [openT_lb]
  refine forall_congr' fun r=>imp_congr_right fun hr=>?_
  have e:lv ((openT p cc).line r) (openT p cc).others x=p.b r-sumN (fun j=>p.a r j*x j) p.n:=by
   rw [openT_line hr]
   unfold lv
   rw [openT_lo]
   have:sumN (fun j=>(-1:Rat)*(p.a r j*x j)) p.n=sumN (fun j=>(⟨p.b r,(List.range p.n).map fun j=>-p.a r j⟩:Line).g j*x ((openT p cc).others.getD j 0)) p.n:=sumN_congr fun j hj=>by
    show _=((List.range p.n).map fun j=>-p.a r j).getD j 0*x ((List.range p.n).getD j 0)
    rw [map_range_getD hj,range_at hj];grind
   rw [<- this,ci]
   show p.b r+_=_
   grind
  rw [e,openT_bas hr]
 refine ⟨⟨⟨?_, ?_, ?_, ?_, ?_⟩,openT_lb,openT_lo,hsol⟩,fun x _=>?_⟩
 ·show ((List.range p.m).map _).length=((List.range p.m).map _).length
  rw [List.length_map,List.length_map]
 ·intro l hl
  obtain ⟨r,_,rfl⟩:=List.mem_map.1 hl
  show ((List.range p.n).map _).length=(List.range p.n).length
  rw [List.length_map]
 ·show ((List.range p.n).map _).length=(List.range p.n).length
  rw [List.length_map]
 ·refine List.nodup_append.2 ⟨?_,List.nodup_range,fun a ha b hb=>?_⟩
  ·show ((List.range p.m).map fun r=>p.n+r).Nodup
   rw [List.Nodup,List.pairwise_map]
   exact (List.nodup_range (n:=p.m)).imp fun h e=>h om_
  ·obtain ⟨r,_,rfl⟩:=List.mem_map.1 ha
   have:=List.mem_range.1 hb
   omega
 ·intro v hv
  rcases List.mem_append.1 hv with hv | hv
  ·obtain ⟨r,hr,rfl⟩:=List.mem_map.1 hv
   have:=List.mem_range.1 hr
   omega
  ·have:=List.mem_range.1 hv
   omega
 ·show lv ⟨0,(List.range p.n).map cc⟩ (List.range p.n) x=_
  unfold lv
  rw [List.length_range]
  congr 1
  refine sumN_congr fun j hj=>?_
  show ((List.range p.n).map cc).getD j 0*x ((List.range p.n).getD j 0)=_
  rw [map_range_getD hj,range_at hj]
end
end Go.Jog.Lp
namespace Go.Jog.Lp

theorem lim_plan {p:Sys}{cc:Nat->Rat}(hn:p.n<=3)(ha:∀ r j,r<p.m->j<p.n->∃ z:Int,p.a r j=z/\z.natAbs<=9)(hb:∀ r,r<p.m->∃ z:Int,2*p.b r=z/\z.natAbs<=40)
  (hc:∀ j,j<p.n->∃ z:Int,cc j=z/\z.natAbs<=9):Lim p cc 1:=by
 refine ⟨⟨fun _=>2,40,1,by decide,⟨fun r hr=>⟨by decide,by decide⟩,fun r j hr hj=>?_,fun r hr=>?_⟩,⟨by decide,by decide⟩,fun j hj=>?_, ?_⟩⟩
 ·obtain ⟨z,e,hz⟩:=ha r j hr hj
  exact ⟨2*z,by rw [e,Rat.intCast_mul],by omega⟩
 ·obtain ⟨z,e,hz⟩:=hb r hr
  exact ⟨z,e,hz⟩
 ·obtain ⟨z,e,hz⟩:=hc j hj
  exact ⟨z,by rw [e];show (1:Rat)*_=_;grind,by omega⟩
 ·unfold bdQ bdT
  have:∀ n,n<=3->(n+1)*(40*fctM (2*40) n)<B9 ^ 1:=by decide
  exact this _ hn
end Go.Jog.Lp
namespace Go.Jog
open Go

section
variable {P:Program} {f:FuncId} {args:List Value} {C:Mem} {L:List Ent}
theorem Fn.lendObj {b:Nat}{ob:Obj}{post:Value->List Ent->Prop}(hen:Enters P f=true)(h:∀ C',C.le C'->C' b=some ob->Fn P f args C' L fun u _ L'=>post u L') :
  Fn P f args C (.obj b ob::L) fun u _ L''=>∃ L',L''=.obj b ob::L'/\post u L':=by
 refine ⟨hen,fun w hw=>?_⟩
 have hst:=St.start hw
 have hb:C b=none:=hst.sep.n b ⟨_,List.mem_cons_self ..,rfl⟩
 have ha:=hst.aside
 refine ((h _ (Mem.le_set hb) (Mem.set_self C b ob)).2 w ha.sep).mono fun ex w' ⟨v,C',L',k1,k2,k3⟩=>?_
 exact ⟨v,_,_,k1,St.back hst k2,L',rfl,k3⟩
theorem Fn.lendArr {g0 cap e s m:Nat}{rows:List (List Value)}{post:Value->List Ent->Prop}(hen:Enters P f=true)(hr:∀ r∈rows,r.length=s)(hm:rows.length=m)
  (h:∀ C',C.le C'->Sl C' s (.slice (some ⟨g0,0,none⟩) m cap) rows->Fn P f args C' L fun u _ L'=>post u L') :
  Fn P f args C (.arr (.slice (some ⟨g0,0,none⟩) m cap) e s m rows.flatten::L) fun u _ L''=>∃ L',L''=.arr (.slice (some ⟨g0,0,none⟩) m cap) e s m rows.flatten::L'/\post u L':=by
 subst hm
 refine ⟨hen,fun w hw=>?_⟩
 obtain ⟨cs,h1,h2,h3,h4,hst⟩:=(St.start hw).arrObj
 have hb:C g0=none:=hst.sep.n g0 ⟨_,List.mem_cons_self ..,rfl⟩
 have ha:=hst.aside
 have hsl:Sl (C.set g0 (.cells ⟨cs⟩ e (0,0))) s (.slice (some ⟨g0,0,none⟩) rows.length cap) rows :=
  Sl.ofBlock (c:=cap) (Mem.set_self C g0 (.cells ⟨cs⟩ e (0,0))) hr (fun j v hj=>by
   rw [<- h2,List.getElem?_take] at hj
   split at hj
   ·simpa using hj
   ·cases hj) h3 h4
 refine ((h _ (Mem.le_set hb) hsl).2 w ha.sep).mono fun ex w' ⟨v,C',L',k1,k2,k3⟩=>?_
 exact ⟨v,_,_,k1,(St.back hst k2).objArr h2 h1 h3 h4,L',rfl,k3⟩
theorem Fn.lendRow {v:Value}{e s m:Nat}{rows:List (List Value)}{post:Value->List Ent->Prop}(hen:Enters P f=true)(hr:∀ r∈rows,r.length=s)(hm:rows.length=m)
  (h:∀ C',C.le C'->Sl C' s v rows->Fn P f args C' L fun u _ L'=>post u L') :
  Fn P f args C (.arr v e s m rows.flatten::L) fun u _ L''=>∃ L',L''=.arr v e s m rows.flatten::L'/\post u L':=by
 refine ⟨hen,fun w hw=>?_⟩
 have hown:w.ownsRow 0 e s v m rows.flatten:=hw.e _ (List.mem_cons_self ..)
 rcases hown.2 with ⟨h1,h2⟩ | ⟨g,cap,cur,h1,_,_,h3,h4,_⟩
 ·have h0:rows=[]:=List.eq_nil_of_length_eq_zero om_
  have hc:=h C (Mem.le.refl C) (by rw [h1,h0];exact Sl.nil C s)
  have hs:=St.perm (St.start hw) (List.perm_append_comm (l₁:=[Ent.arr v e s m rows.flatten]) (l₂:=L))
  refine (hc.callAt hs).mono fun ex w' ⟨u,C',L',k1,_,k2,k3⟩=>?_
  exact ⟨u,C',_,k1,St.perm k2 (List.perm_append_comm (l₁:=L') (l₂:=[Ent.arr v e s m rows.flatten])),L',rfl,k3⟩
 ·subst h1
  exact (Fn.lendArr (e:=e) hen hr hm h).2 w hw
end
inductive Lent where
 | obj (b:Nat) (cs:List Value) (t:TypeId)
 | arr (v:Value) (m s:Nat) (e:TypeId) (rows:List (List Value))
def Lent.ent:Lent->Ent
 | .obj b cs t=>.obj b (.cells ⟨cs⟩ t (0,0))
 | .arr v m s e rows=>.arr v e s m rows.flatten
def Lent.wf:Lent->Prop
 | .obj ..=>True
 | .arr _ m s _ rows=>rows.length=m/\∀ r∈rows,r.length=s
def Lent.seen (C:Mem):Lent->Prop
 | .obj b cs t=>C b=some (.cells ⟨cs⟩ t (0,0))
 | .arr v _ s _ rows=>Sl C s v rows
theorem Fn.lendAll {P:Program}{f:FuncId}{args:List Value}{L:List Ent}{post:Value->List Ent->Prop}(hen:Enters P f=true):∀ (ls:List Lent){C:Mem},(∀ x∈ls,x.wf) ->
  (∀ C',C.le C'->(∀ x∈ls,x.seen C')->Fn P f args C' L fun u _ L'=>post u L')->Fn P f args C (ls.map Lent.ent++L) fun u _ L''=>∃ L',L''=ls.map Lent.ent++L'/\post u L'
 | [],C,_,h=>(h C (Mem.le.refl C) fun x hx=>by cases hx).mono fun v C' L' _ hp=>⟨L',rfl,hp⟩
 | .obj b cs t::ls,C,hw,h=>by
  refine (Fn.lendObj (post:=fun u L''=>∃ L',L''=ls.map Lent.ent++L'/\post u L') hen fun C1 h1 hb=>?_).mono fun v C' L' _ ⟨L1,e1,L2,e2,hp⟩=>⟨L2,by rw [e1,e2];rfl,hp⟩
  refine Fn.lendAll hen ls (fun x hx=>hw x (List.mem_cons_of_mem _ hx)) fun C2 h2 hs=>h C2 (h1.trans h2) fun x hx=>?_
  rcases List.mem_cons.1 hx with rfl | hx
  ·exact h2 _ _ hb
  ·exact hs x hx
 | .arr v m s e rows::ls,C,hw,h=>by
  have hw0:=hw _ List.mem_cons_self
  refine (Fn.lendRow (e:=e) (post:=fun u L''=>∃ L',L''=ls.map Lent.ent++L'/\post u L') hen hw0.2 hw0.1 fun C1 h1 hb=>?_).mono fun v C' L' _ ⟨L1,e1,L2,e2,hp⟩=>⟨L2,by rw [e1,e2];rfl,hp⟩
  refine Fn.lendAll hen ls (fun x hx=>hw x (List.mem_cons_of_mem _ hx)) fun C2 h2 hs=>h C2 (h1.trans h2) fun x hx=>?_
  rcases List.mem_cons.1 hx with rfl | hx
  ·exact Sl.mono hb h2
  ·exact hs x hx
end Go.Jog
