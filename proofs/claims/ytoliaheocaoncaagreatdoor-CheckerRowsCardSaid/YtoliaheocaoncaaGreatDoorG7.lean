/- Laws that the proofs of this seat share, part 7. -/
import Derived.Test.YtoliaheocaoncaaGreatDoorG6
import Derived.Test.YtoliaheocaoncaaGreatDoorShelf
set_option maxHeartbeats 4000000
namespace Go.Proofs.YtoliaheocaoncaaGreatDoor
open Go Go.Jog
set_option maxRecDepth 100000

structure RV where
 A:Option Addr
 n:Nat
 c:Nat
 s:Str
def RV.enc (r:RV):List Value:=[.slice r.A r.n r.c,strV r.s]
def RowsIn (C:Mem)(v:Value)(rows:List (List Str × Str)):Prop:=∃ rs:List RV,Sl C 2 v (rs.map RV.enc)/\rs.length=rows.length/\∀ (i:Nat)(r:RV)(row:List Str × Str),rs[i]?=some r->rows[i]?=some row->Sl C 1 (.slice r.A r.n r.c) (row.1.map encS)/\r.s=row.2
theorem RowsIn.mono {C D:Mem}{v:Value}{rows:List (List Str × Str)}(h:RowsIn C v rows)(hl:C.le D):RowsIn D v rows:=by
 obtain ⟨rs,h1,h2,h3⟩:=h
 exact ⟨rs,h1.mono hl,h2,fun i r row hr hw=>⟨(h3 i r row hr hw).1.mono hl,(h3 i r row hr hw).2⟩⟩
structure SV where
 A:Option Addr
 n:Nat
 c:Nat
def SV.enc (x:SV):List Value:=[.slice x.A x.n x.c]
def FrLL (C:Mem)(xs:List SV)(fs:List (List Rat)):Prop:=xs.length=fs.length/\∀ (i:Nat)(x:SV)(f:List Rat),xs[i]?=some x->fs[i]?=some f->FrL C (.slice x.A x.n x.c) f
theorem FrLL.mono {C D:Mem}{xs:List SV}{fs:List (List Rat)}(h:FrLL C xs fs)(hl:C.le D):FrLL D xs fs:=⟨h.1,fun i x f h1 h2=>(h.2 i x f h1 h2).mono hl⟩
theorem FrLL.nil (C:Mem):FrLL C [] []:=⟨rfl,fun i x q h=>by simp at h⟩
theorem FrLL.snoc {C:Mem}{xs:List SV}{fs:List (List Rat)}{x:SV}{f:List Rat}(h:FrLL C xs fs)(hx:FrL C (.slice x.A x.n x.c) f):FrLL C (xs++[x]) (fs++[f]):=by
 have hl:xs.length=fs.length:=h.1
 refine ⟨by simp [hl],fun i y p h1 h2=>?_⟩
 rcases Nat.lt_or_ge i xs.length with hi | hi
 ·rw [List.getElem?_append_left hi] at h1
  rw [List.getElem?_append_left (by omega)] at h2
  exact h.2 i y p h1 h2
 ·rw [List.getElem?_append_right hi] at h1
  rw [List.getElem?_append_right (by omega),<- hl] at h2
  cases hk:i-xs.length with
  | zero =>
   rw [hk] at h1 h2
   simp at h1 h2
   subst h1 h2
   exact hx
  | succ k=>rw [hk] at h1;simp at h1
def rowM (n:Int)(row:List Str × Str):Option (List Rat × Rat) :=
 match aD row.1,a6 row.2 with
 | some f,some b=>if (f.length:Int)=n then some (f,b) else none
 | _,_=>none
def bC (n:Int):List (List Str × Str)->Option (List (List Rat × Rat))
 | []=>some []
 | s::l=>match rowM n s,bC n l with
  | some q,some qs=>some (q::qs)
  | _,_=>none
theorem rowsM_snoc (n:Int):∀ (l:List (List Str × Str))(s:List Str × Str),bC n (l++[s])=match bC n l,rowM n s with
  | some qs,some q=>some (qs++[q])
  | _,_=>none
 | [],s=>by
  simp only [List.nil_append,bC]
  cases rowM n s <;> rfl
 | a::l,s=>by
  simp only [List.cons_append,bC,rowsM_snoc n l s]
  cases rowM n a <;> cases bC n l <;> cases rowM n s <;> rfl
theorem rowsM_none {n:Int}:∀ {l:List (List Str × Str)}{s:List Str × Str},s∈l->rowM n s=none->bC n l=none
 | a::l,s,hs,h=>by
  simp only [bC]
  rcases List.mem_cons.1 hs with rfl | h2
  ·rw [h]
  ·rw [rowsM_none h2 h]
   cases rowM n a <;> rfl
def bw (n:Int)(rows:List (List Str × Str))(d:List Str):Option (List (List Rat × Rat) × List Rat) :=
 match bC n rows,aD d with
 | some ps,some ms=>if ms.length=rows.length/\ms.any (fun q=>decide (q.num<0))=false then some (ps,ms) else none
 | _,_=>none
structure YV where
 A:Option Addr
 n:Nat
 c:Nat
 A2:Option Addr
 n2:Nat
 c2:Nat
 A3:Option Addr
 n3:Nat
 c3:Nat
def YV.enc (y:YV):List Value:=[.slice y.A y.n y.c,.slice y.A2 y.n2 y.c2,.slice y.A3 y.n3 y.c3]
def SysC (C:Mem)(y:YV)(ps:List (List Rat × Rat))(ms:List Rat):Prop:=(∃ xs:List SV,Sl C 1 (.slice y.A y.n y.c) (xs.map SV.enc)/\FrLL C xs (ps.map (·.1)))/\FrL C (.slice y.A2 y.n2 y.c2) (ps.map (·.2))/\FrL C (.slice y.A3 y.n3 y.c3) ms
abbrev sA (A:Option Addr)(n c:Nat):Value:=.slice A n c
abbrev sB (A:Option Addr)(n c:Nat):Value:=.slice A n c
def negD (d:List Str):Bool:=match aD d with
 | some ms=>ms.any fun q=>decide (q.num<0)
 | none=>false
theorem RowsF.any {C:Mem}:∀ {xs:List FV}{qs:List Rat},RowsF C xs qs->(xs.any fun x=>x.b)=qs.any fun q=>decide (q.num<0)
 | [],[],_=>rfl
 | [],_::_,h=>by have:=h.1;simp at this
 | _::_,[],h=>by have:=h.1;simp at this
 | x::xs,q::qs,h=>by
  have h1:x.b=decide (q.num<0):=by
   obtain ⟨u,w,e,_⟩:=h.2 0 x q rfl rfl
   simp [FV.enc,encF] at e
   exact e.1
  have h2:RowsF C xs qs:=⟨by have:=h.1;simpa using this,fun i y p hy hp=>h.2 (i+1) y p (by simpa using hy) (by simpa using hp)⟩
  simp only [List.any_cons,h1,RowsF.any h2]
theorem contNeg {C:Mem}{v:Value}{ms:List Rat}(h:FrL C v ms):Gives cx.P 14 [v,.func (.func 35) #[] #[]] C (.bool (ms.any fun q=>decide (q.num<0))):=by
 obtain ⟨xs,h1,h2⟩:=h
 rw [<- h2.any]
 exact contFr_fn C v xs _ [] (fun x=>x.b) h1 (fun x _ C' _=>open1_fn C' x)
theorem or_no {a b:Bool}(h:(!a || b)=false):a=true:=by cases a <;> simp_all
theorem copen_fn (C:Mem)(v:Value)(n:Int)(Ad:Option Addr)(nd cd:Nat)(rows:List (List Str × Str))(d:List Str)(hv:RowsIn C v rows)(hd:Sl C 1 (.slice Ad nd cd) (d.map encS))(hl:rows.length<=10000)(hf:∀ r∈rows,r.1.length<=1000000/\(∀ s∈r.1,s.length<1000000)/\r.2.length<1000000)(hdl:d.length<=1000000)(hds:∀ s∈d,s.length<1000000) :
  Pur cx.P 12 [v,.int .i64 n,.agg ⟨[.slice Ad nd cd]⟩] C fun u D=>∃ y:YV,u=.tuple #[.agg ⟨y.enc⟩,.bool (bw n rows d).isSome]/\∀ ps ms,bw n rows d=some (ps,ms)->SysC D y ps ms:=by
 obtain ⟨rs,hsv,hrl,hrs⟩:=hv
 obtain ⟨A0,c0,rfl,hlx,hlx2,_⟩:=id hsv
 have hmx:maxLen<=9223372036854775807:=by simp [maxLen]
 simp only [List.length_map] at hsv hlx hlx2 ⊢
 refine Fn.it (by kernel_rfl) Tryz.func12 82 fun w0=>?_
 refine G.rg fun R hR=>?_
 refine D.box rfl rfl rfl rfl rfl rfl (fun _=>rfl) (fun b5=>?_)
 refine D.alloc rfl rfl rfl rfl rfl (fun _=>rfl) (fun b6=>?_)
 refine D.q4 1 0 1 5 6 hR ?_
 refine G.z7 3 0 1 5 6 14 15 16 ?_
 refine G.nilArr 59 3 ?_
 refine G.nilArr 51 1 ?_
 refine G.perm (L':=[.arr (sA none 0 0) 51 1 0 [],.arr (sB none 0 0) 59 3 0 [],.obj b6 (.cells ⟨(YV.mk none 0 0 none 0 0 none 0 0).enc⟩ 53 (0,0)),.obj b5 (.cells ⟨[.slice Ad nd cd]⟩ 29 (0,0))]) (by (refine (aa (j:=0) rfl).trans (List.Perm.cons _ ?_);refine (aa (j:=0) rfl).trans (List.Perm.cons _ ?_);refine (aa (j:=0) rfl).trans (List.Perm.cons _ ?_);refine (aa (j:=0) rfl).trans (List.Perm.cons _ ?_);exact List.Perm.refl _)) ?_
 refine G.loop (fun fr C' L' μ=>∃ (i:Nat)(ps:List (List Rat × Rat))(xs:List SV)(ys:List FV)(A1:Option Addr)(n1 c1:Nat)(A2:Option Addr)(n2 c2:Nat),(i<=rows.length/\bC n (rows.take i)=some ps/\FrLL C' xs (ps.map (·.1))/\RowsF C' ys (ps.map (·.2))/\xs.length=i/\ys.length=i)/\fr=[(0,[],.slice A0 rs.length c0),(1,[],.int .i64 n),(5,[],.pointer (some ⟨b5,0,none⟩)),(6,[],.pointer (some ⟨b6,0,none⟩)),(14,[],.slice A0 rs.length c0),(15,[],.int .i64 rs.length),(16,[],.int .i64 i)]/\L'=[.arr (sA A1 n1 c1) 51 1 i (xs.map SV.enc).flatten,.arr (sB A2 n2 c2) 59 3 i (ys.map FV.enc).flatten,.obj b6 (.cells ⟨(YV.mk A1 n1 c1 A2 n2 c2 none 0 0).enc⟩ 53 (0,0)),.obj b5 (.cells ⟨[.slice Ad nd cd]⟩ 29 (0,0))]/\μ=rows.length-i) (h_7 0 1 5 6 14 15 16) ⟨0,[],[],[],_,_,_,_,_,_,⟨Nat.zero_le _,rfl,FrLL.nil _,RowsF.nil _,rfl,rfl⟩,rfl,rfl,rfl⟩ (fun fr C0' L0' m hle0 hI=>?_)
 obtain ⟨i,ps,xs,ys,A1,n1,c1,A2,n2,c2,⟨hi,hps,hxs,hys,hxl,hyl⟩,rfl,rfl,rfl⟩:=hI
 refine G.z8 1 0 1 5 6 14 15 16 17 ?_
 refine G.cd (fun h17=>?_) fun h17=>?_
 ·have hil:i<rs.length:=by simpa using h17
  obtain ⟨r,hr0⟩:∃ r,rs[i]?=some r:=⟨rs[i],List.getElem?_eq_getElem hil⟩
  obtain ⟨row,hw0⟩:∃ row,rows[i]?=some row:=⟨rows[i]'(by omega),List.getElem?_eq_getElem _⟩
  obtain ⟨hrf,hrb⟩:=hrs i r row hr0 hw0
  have hrow:(rs.map RV.enc)[i]?=some r.enc:=by rw [List.getElem?_map,hr0];rfl
  have hfr:=hf row (List.mem_of_getElem? hw0)
  have htk:rows.take (i+1)=rows.take i++[row]:=by rw [List.take_add_one,hw0];rfl
  refine G.rg fun R hR=>?_
  refine D.ap (hsv.mono mup) rfl rfl rfl rfl rfl rfl rfl rfl rfl rfl (by omega) hrow (fun _=>rfl) (fun p18 hp18=>?_)
  refine D.af hp18 ?_
  refine D.alloc rfl rfl rfl rfl rfl (fun _=>rfl) (fun b9=>?_)
  refine D.ag (j:=0) ?_
  refine D.e8 0 1 5 6 9 14 15 16 hR ?_
  refine G.rp 1 fun R hR=>?_
  refine D.ae (.head _) ?_
  refine D.aK (readAll_fn _ _ row.1 (hrf.mono mup) hfr.1 hfr.2.1) (fun v23 C23 hle23 hq23=>?_)
  obtain ⟨A10,n10,c10,rfl,hf10⟩:=hq23
  refine D.q10 5 0 1 5 6 9 10 11 14 15 16 hR ?_
  refine G.rp 1 fun R hR=>?_
  refine D.ae (.head _) ?_
  refine D.am (read_fn _ r.s (by rw [hrb];exact hfr.2.2)) rfl rfl rfl rfl rfl rfl rfl (fun _=>rfl) (fun v29 C29 hle29 hq29=>?_)
  obtain ⟨vf,rfl,hvf⟩:=hq29
  obtain ⟨x,rfl⟩:=hvf.fv
  rw [hrb] at hvf
  refine D.ps 3 ?_
  refine D.alloc rfl rfl rfl rfl rfl (fun _=>rfl) (fun b12=>?_)
  refine D.ag (j:=0) ?_
  refine D.q11 1 0 1 5 6 10 11 12 13 14 15 16 hR ?_
  refine G.rp 5 fun R hR=>?_
  refine D.ay rfl rfl rfl rfl rfl rfl rfl rfl ?_
  refine D.ps 5 ?_
  refine D.ay rfl rfl rfl rfl rfl rfl rfl rfl ?_
  refine D.e10 0 1 5 6 10 12 14 15 16 43 hR ?_
  refine G.cd (fun h43=>?_) fun h43=>?_
  ·have hno:rowM n row=none:=by
    unfold rowM
    cases h1:aD row.1 with
    | none=>rfl
    | some f =>
     cases h2:a6 row.2 with
     | none=>rfl
     | some b =>
      have hf:=hf10 f h1
      obtain ⟨A,c,e⟩:=hf.form
      injection e with e1 e2 e3
      simp only
      rw [if_neg]
      intro hn
      rw [hrb,h1,h2,e2,hn] at h43
      simp at h43
   have hno2:bw n rows d=none:=by
    unfold bw
    rw [rowsM_none (List.mem_of_getElem? hw0) hno]
   refine G.rg fun R hR=>?_
   refine D.build (YV.mk none 0 0 none 0 0 none 0 0).enc rfl rfl rfl rfl rfl rfl rfl rfl ?_
   refine D.ag (j:=4) ?_
   refine D.q2 1 6 7 hR ?_
   refine G.aB (G.dg (.head _) rfl rfl rfl rfl rfl ?_)
   exact ⟨rfl,_,by rw [hno2];rfl,fun ps ms h=>by rw [hno2] at h;cases h⟩
  ·obtain ⟨f,b,h1,h2,h3⟩:∃ f b,aD row.1=some f/\a6 row.2=some b/\(f.length:Int)=n:=by
    cases h1:aD row.1 with
    | none=>rw [h1] at h43;simp at h43
    | some f =>
     cases h2:a6 row.2 with
     | none=>rw [hrb,h1,h2] at h43;simp at h43
     | some b =>
      refine ⟨f,b,rfl,rfl, ?_⟩
      obtain ⟨A,c,e⟩:=(hf10 f h1).form
      injection e with e1 e2 e3
      rw [hrb,h1,h2,e2] at h43
      simpa using h43
   have hrm:rowM n row=some (f,b):=by unfold rowM;rw [h1,h2];simp only;rw [if_pos h3]
   rw [h2] at hvf
   refine G.bN (fun fr C' L' μ=>∃ (A7:Option Addr)(n7 c7:Nat)(A8:Option Addr)(n8 c8:Nat),(True)/\fr=[(0,[],.slice A0 rs.length c0),(1,[],.int .i64 n),(5,[],.pointer (some ⟨b5,0,none⟩)),(6,[],.pointer (some ⟨b6,0,none⟩)),(14,[],.slice A0 rs.length c0),(15,[],.int .i64 rs.length),(16,[],.int .i64 i)]/\L'=[.arr (sA A7 n7 c7) 51 1 (i+1) ((xs++[SV.mk A10 n10 c10]).map SV.enc).flatten,.arr (sB A8 n8 c8) 59 3 (i+1) ((ys++[x]).map FV.enc).flatten,.obj b6 (.cells ⟨(YV.mk A7 n7 c7 A8 n8 c8 none 0 0).enc⟩ 53 (0,0)),.obj b5 (.cells ⟨[.slice Ad nd cd]⟩ 29 (0,0))]) ?_ (fun fr Cr8 Lr8 μ hler8 hI=>?_)
   ·refine G.drawT (.cut [0,1,2,5] (.alt 3 (.cut [] (.alt 4 (.fin [6,7,10,8,9,11,12,13]) (.alt 6 (.cut [] (.alt 4 (.fin [7,10,8,9,11,12,13]) (.alt 7 (.cut [] (.alt 4 (.fin [10,8,9,11,12,13]) (.alt 8 (.fin [4,10,9,11,12,13]) .stop))) .stop))) (.alt 7 (.cut [] (.alt 4 (.fin [6,10,8,9,11,12,13]) (.alt 6 (.cut [] (.alt 4 (.fin [10,8,9,11,12,13]) (.alt 8 (.fin [4,10,9,11,12,13]) .stop))) (.alt 8 (.cut [] (.alt 4 (.fin [6,10,9,11,12,13]) (.alt 6 (.fin [4,10,9,11,12,13]) .stop))) .stop)))) .stop)))) (.alt 6 (.cut [] (.alt 3 (.cut [] (.alt 4 (.fin [7,10,8,9,11,12,13]) (.alt 7 (.cut [] (.alt 4 (.fin [10,8,9,11,12,13]) (.alt 8 (.fin [4,10,9,11,12,13]) .stop))) .stop))) (.alt 7 (.cut [] (.alt 3 (.cut [] (.alt 4 (.fin [10,8,9,11,12,13]) (.alt 8 (.fin [4,10,9,11,12,13]) .stop))) (.alt 8 (.fin [3,4,10,9,11,12,13]) .stop))) .stop))) (.alt 7 (.cut [] (.alt 3 (.cut [] (.alt 4 (.fin [6,10,8,9,11,12,13]) (.alt 6 (.cut [] (.alt 4 (.fin [10,8,9,11,12,13]) (.alt 8 (.fin [4,10,9,11,12,13]) .stop))) (.alt 8 (.cut [] (.alt 4 (.fin [6,10,9,11,12,13]) (.alt 6 (.fin [4,10,9,11,12,13]) .stop))) .stop)))) (.alt 6 (.cut [] (.alt 3 (.cut [] (.alt 4 (.fin [10,8,9,11,12,13]) (.alt 8 (.fin [4,10,9,11,12,13]) .stop))) (.alt 8 (.fin [3,4,10,9,11,12,13]) .stop))) (.alt 8 (.cut [] (.alt 3 (.cut [] (.alt 4 (.fin [6,10,9,11,12,13]) (.alt 6 (.fin [4,10,9,11,12,13]) .stop))) (.alt 6 (.fin [3,4,10,9,11,12,13]) .stop))) .stop)))) .stop)))) [] rfl rfl (by kernel_rfl) (fun R hB hR hH=>?_)
    refine D.ac ?_
    refine D.ae (.tail _ (.tail _ (.tail _ (.tail _ (.head _))))) ?_
    refine D.ps 2 ?_
    refine D.bf hH rfl ⟨?_, ?_, ?_,trivial⟩
    ·refine D.ah [[.slice A10 n10 c10]] (fun p48 C48 hle48 hs48=>?_)
     refine D.bf hH rfl ⟨?_, ?_, ?_,trivial⟩
     ·refine D.ak (j:=2) rfl rfl rfl rfl rfl rfl rfl rfl rfl rfl rfl (hs48.mono mup) rfl (by simp only [List.length_singleton,maxLen];omega) (by show (i+1)*24<=_;omega) (fun _=>rfl) (fun A49 n49 c49=>?_)
      refine D.ae (.tail _ (.tail _ (.tail _ (.tail _ (.head _))))) ?_
      refine D.ae (.tail _ (.head _)) ?_
      refine D.ac ?_
      refine D.ah [x.enc] (fun p53 C53 hle53 hs53=>?_)
      refine D.ak (j:=3) rfl rfl rfl rfl rfl rfl rfl rfl rfl rfl rfl (hs53.mono mup) rfl (by simp only [List.length_singleton,maxLen];omega) (by show (i+1)*56<=_;omega) (fun _=>rfl) (fun A54 n54 c54=>?_)
      refine D.ag (j:=4) ?_
      refine D.ac ?_
      refine D.ag (j:=0) ?_
      refine D.e7 0 1 5 6 14 15 16 hR ?_
      refine G.perm (L':=[.arr (sA A49 n49 c49) 51 1 (i+1) ((xs.map SV.enc).flatten++[[.slice A10 n10 c10]].flatten),.arr (sB A54 n54 c54) 59 3 (i+1) ((ys.map FV.enc).flatten++[x.enc].flatten),.obj b6 (.cells ⟨(YV.mk A49 n49 c49 A54 n54 c54 none 0 0).enc⟩ 53 (0,0)),.obj b5 (.cells ⟨[.slice Ad nd cd]⟩ 29 (0,0)),.obj b12 (.cells ⟨x.enc⟩ 59 (0,0)),.obj b9 (.cells ⟨r.enc⟩ 27 (0,0))]) (by (refine (aa (j:=2) rfl).trans (List.Perm.cons _ ?_);refine (aa (j:=1) rfl).trans (List.Perm.cons _ ?_);refine (aa (j:=0) rfl).trans (List.Perm.cons _ ?_);refine (aa (j:=2) rfl).trans (List.Perm.cons _ ?_);refine (aa (j:=0) rfl).trans (List.Perm.cons _ ?_);refine (aa (j:=0) rfl).trans (List.Perm.cons _ ?_);exact List.Perm.refl _)) ?_
      refine G.ax 4 rfl ?_
      refine G.ax 4 rfl ?_
      refine G.aJ (L':=[.arr (sA A49 n49 c49) 51 1 (i+1) ((xs++[SV.mk A10 n10 c10]).map SV.enc).flatten,.arr (sB A54 n54 c54) 59 3 (i+1) ((ys++[x]).map FV.enc).flatten,.obj b6 (.cells ⟨(YV.mk A49 n49 c49 A54 n54 c54 none 0 0).enc⟩ 53 (0,0)),.obj b5 (.cells ⟨[.slice Ad nd cd]⟩ 29 (0,0))]) (by simp [SV.enc]) ?_
      exact G.ar 0 mup (h_7 0 1 5 6 14 15 16) ⟨A49,n49,c49,A54,n54,c54,trivial,rfl,rfl⟩
     ·refine D.ae (.tail _ (.tail _ (.tail _ (.tail _ (.head _))))) ?_
      refine D.bf hH rfl ⟨?_, ?_,trivial⟩
      ·refine D.ak (j:=2) rfl rfl rfl rfl rfl rfl rfl rfl rfl rfl rfl (hs48.mono mup) rfl (by simp only [List.length_singleton,maxLen];omega) (by show (i+1)*24<=_;omega) (fun _=>rfl) (fun A49 n49 c49=>?_)
       refine D.ae (.tail _ (.head _)) ?_
       refine D.ac ?_
       refine D.ah [x.enc] (fun p53 C53 hle53 hs53=>?_)
       refine D.ak (j:=3) rfl rfl rfl rfl rfl rfl rfl rfl rfl rfl rfl (hs53.mono mup) rfl (by simp only [List.length_singleton,maxLen];omega) (by show (i+1)*56<=_;omega) (fun _=>rfl) (fun A54 n54 c54=>?_)
       refine D.ag (j:=4) ?_
       refine D.ac ?_
       refine D.ag (j:=0) ?_
       refine D.e7 0 1 5 6 14 15 16 hR ?_
       refine G.perm (L':=[.arr (sA A49 n49 c49) 51 1 (i+1) ((xs.map SV.enc).flatten++[[.slice A10 n10 c10]].flatten),.arr (sB A54 n54 c54) 59 3 (i+1) ((ys.map FV.enc).flatten++[x.enc].flatten),.obj b6 (.cells ⟨(YV.mk A49 n49 c49 A54 n54 c54 none 0 0).enc⟩ 53 (0,0)),.obj b5 (.cells ⟨[.slice Ad nd cd]⟩ 29 (0,0)),.obj b12 (.cells ⟨x.enc⟩ 59 (0,0)),.obj b9 (.cells ⟨r.enc⟩ 27 (0,0))]) (by (refine (aa (j:=2) rfl).trans (List.Perm.cons _ ?_);refine (aa (j:=1) rfl).trans (List.Perm.cons _ ?_);refine (aa (j:=0) rfl).trans (List.Perm.cons _ ?_);refine (aa (j:=2) rfl).trans (List.Perm.cons _ ?_);refine (aa (j:=0) rfl).trans (List.Perm.cons _ ?_);refine (aa (j:=0) rfl).trans (List.Perm.cons _ ?_);exact List.Perm.refl _)) ?_
       refine G.ax 4 rfl ?_
       refine G.ax 4 rfl ?_
       refine G.aJ (L':=[.arr (sA A49 n49 c49) 51 1 (i+1) ((xs++[SV.mk A10 n10 c10]).map SV.enc).flatten,.arr (sB A54 n54 c54) 59 3 (i+1) ((ys++[x]).map FV.enc).flatten,.obj b6 (.cells ⟨(YV.mk A49 n49 c49 A54 n54 c54 none 0 0).enc⟩ 53 (0,0)),.obj b5 (.cells ⟨[.slice Ad nd cd]⟩ 29 (0,0))]) (by simp [SV.enc]) ?_
       exact G.ar 0 mup (h_7 0 1 5 6 14 15 16) ⟨A49,n49,c49,A54,n54,c54,trivial,rfl,rfl⟩
      ·refine D.ae (.head _) ?_
       refine D.bf hH rfl ⟨?_, ?_,trivial⟩
       ·refine D.ak (j:=2) rfl rfl rfl rfl rfl rfl rfl rfl rfl rfl rfl (hs48.mono mup) rfl (by simp only [List.length_singleton,maxLen];omega) (by show (i+1)*24<=_;omega) (fun _=>rfl) (fun A49 n49 c49=>?_)
        refine D.ac ?_
        refine D.ah [x.enc] (fun p53 C53 hle53 hs53=>?_)
        refine D.ak (j:=3) rfl rfl rfl rfl rfl rfl rfl rfl rfl rfl rfl (hs53.mono mup) rfl (by simp only [List.length_singleton,maxLen];omega) (by show (i+1)*56<=_;omega) (fun _=>rfl) (fun A54 n54 c54=>?_)
        refine D.ag (j:=4) ?_
        refine D.ac ?_
        refine D.ag (j:=0) ?_
        refine D.e7 0 1 5 6 14 15 16 hR ?_
        refine G.perm (L':=[.arr (sA A49 n49 c49) 51 1 (i+1) ((xs.map SV.enc).flatten++[[.slice A10 n10 c10]].flatten),.arr (sB A54 n54 c54) 59 3 (i+1) ((ys.map FV.enc).flatten++[x.enc].flatten),.obj b6 (.cells ⟨(YV.mk A49 n49 c49 A54 n54 c54 none 0 0).enc⟩ 53 (0,0)),.obj b5 (.cells ⟨[.slice Ad nd cd]⟩ 29 (0,0)),.obj b12 (.cells ⟨x.enc⟩ 59 (0,0)),.obj b9 (.cells ⟨r.enc⟩ 27 (0,0))]) (by (refine (aa (j:=2) rfl).trans (List.Perm.cons _ ?_);refine (aa (j:=1) rfl).trans (List.Perm.cons _ ?_);refine (aa (j:=0) rfl).trans (List.Perm.cons _ ?_);refine (aa (j:=2) rfl).trans (List.Perm.cons _ ?_);refine (aa (j:=0) rfl).trans (List.Perm.cons _ ?_);refine (aa (j:=0) rfl).trans (List.Perm.cons _ ?_);exact List.Perm.refl _)) ?_
        refine G.ax 4 rfl ?_
        refine G.ax 4 rfl ?_
        refine G.aJ (L':=[.arr (sA A49 n49 c49) 51 1 (i+1) ((xs++[SV.mk A10 n10 c10]).map SV.enc).flatten,.arr (sB A54 n54 c54) 59 3 (i+1) ((ys++[x]).map FV.enc).flatten,.obj b6 (.cells ⟨(YV.mk A49 n49 c49 A54 n54 c54 none 0 0).enc⟩ 53 (0,0)),.obj b5 (.cells ⟨[.slice Ad nd cd]⟩ 29 (0,0))]) (by simp [SV.enc]) ?_
        exact G.ar 0 mup (h_7 0 1 5 6 14 15 16) ⟨A49,n49,c49,A54,n54,c54,trivial,rfl,rfl⟩
       ·refine D.ah [x.enc] (fun p53 C53 hle53 hs53=>?_)
        refine D.ak (j:=2) rfl rfl rfl rfl rfl rfl rfl rfl rfl rfl rfl (hs48.mono mup) rfl (by simp only [List.length_singleton,maxLen];omega) (by show (i+1)*24<=_;omega) (fun _=>rfl) (fun A49 n49 c49=>?_)
        refine D.ac ?_
        refine D.ak (j:=3) rfl rfl rfl rfl rfl rfl rfl rfl rfl rfl rfl (hs53.mono mup) rfl (by simp only [List.length_singleton,maxLen];omega) (by show (i+1)*56<=_;omega) (fun _=>rfl) (fun A54 n54 c54=>?_)
        refine D.ag (j:=4) ?_
        refine D.ac ?_
        refine D.ag (j:=0) ?_
        refine D.e7 0 1 5 6 14 15 16 hR ?_
        refine G.perm (L':=[.arr (sA A49 n49 c49) 51 1 (i+1) ((xs.map SV.enc).flatten++[[.slice A10 n10 c10]].flatten),.arr (sB A54 n54 c54) 59 3 (i+1) ((ys.map FV.enc).flatten++[x.enc].flatten),.obj b6 (.cells ⟨(YV.mk A49 n49 c49 A54 n54 c54 none 0 0).enc⟩ 53 (0,0)),.obj b5 (.cells ⟨[.slice Ad nd cd]⟩ 29 (0,0)),.obj b12 (.cells ⟨x.enc⟩ 59 (0,0)),.obj b9 (.cells ⟨r.enc⟩ 27 (0,0))]) (by (refine (aa (j:=2) rfl).trans (List.Perm.cons _ ?_);refine (aa (j:=1) rfl).trans (List.Perm.cons _ ?_);refine (aa (j:=0) rfl).trans (List.Perm.cons _ ?_);refine (aa (j:=2) rfl).trans (List.Perm.cons _ ?_);refine (aa (j:=0) rfl).trans (List.Perm.cons _ ?_);refine (aa (j:=0) rfl).trans (List.Perm.cons _ ?_);exact List.Perm.refl _)) ?_
        refine G.ax 4 rfl ?_
        refine G.ax 4 rfl ?_
        refine G.aJ (L':=[.arr (sA A49 n49 c49) 51 1 (i+1) ((xs++[SV.mk A10 n10 c10]).map SV.enc).flatten,.arr (sB A54 n54 c54) 59 3 (i+1) ((ys++[x]).map FV.enc).flatten,.obj b6 (.cells ⟨(YV.mk A49 n49 c49 A54 n54 c54 none 0 0).enc⟩ 53 (0,0)),.obj b5 (.cells ⟨[.slice Ad nd cd]⟩ 29 (0,0))]) (by simp [SV.enc]) ?_
        exact G.ar 0 mup (h_7 0 1 5 6 14 15 16) ⟨A49,n49,c49,A54,n54,c54,trivial,rfl,rfl⟩
     ·refine D.ae (.head _) ?_
      refine D.bf hH rfl ⟨?_, ?_, ?_,trivial⟩
      ·refine D.ak (j:=2) rfl rfl rfl rfl rfl rfl rfl rfl rfl rfl rfl (hs48.mono mup) rfl (by simp only [List.length_singleton,maxLen];omega) (by show (i+1)*24<=_;omega) (fun _=>rfl) (fun A49 n49 c49=>?_)
       refine D.ae (.tail _ (.tail _ (.tail _ (.tail _ (.head _))))) ?_
       refine D.ac ?_
       refine D.ah [x.enc] (fun p53 C53 hle53 hs53=>?_)
       refine D.ak (j:=3) rfl rfl rfl rfl rfl rfl rfl rfl rfl rfl rfl (hs53.mono mup) rfl (by simp only [List.length_singleton,maxLen];omega) (by show (i+1)*56<=_;omega) (fun _=>rfl) (fun A54 n54 c54=>?_)
       refine D.ag (j:=4) ?_
       refine D.ac ?_
       refine D.ag (j:=0) ?_
       refine D.e7 0 1 5 6 14 15 16 hR ?_
       refine G.perm (L':=[.arr (sA A49 n49 c49) 51 1 (i+1) ((xs.map SV.enc).flatten++[[.slice A10 n10 c10]].flatten),.arr (sB A54 n54 c54) 59 3 (i+1) ((ys.map FV.enc).flatten++[x.enc].flatten),.obj b6 (.cells ⟨(YV.mk A49 n49 c49 A54 n54 c54 none 0 0).enc⟩ 53 (0,0)),.obj b5 (.cells ⟨[.slice Ad nd cd]⟩ 29 (0,0)),.obj b12 (.cells ⟨x.enc⟩ 59 (0,0)),.obj b9 (.cells ⟨r.enc⟩ 27 (0,0))]) (by (refine (aa (j:=2) rfl).trans (List.Perm.cons _ ?_);refine (aa (j:=1) rfl).trans (List.Perm.cons _ ?_);refine (aa (j:=0) rfl).trans (List.Perm.cons _ ?_);refine (aa (j:=2) rfl).trans (List.Perm.cons _ ?_);refine (aa (j:=0) rfl).trans (List.Perm.cons _ ?_);refine (aa (j:=0) rfl).trans (List.Perm.cons _ ?_);exact List.Perm.refl _)) ?_
       refine G.ax 4 rfl ?_
       refine G.ax 4 rfl ?_
       refine G.aJ (L':=[.arr (sA A49 n49 c49) 51 1 (i+1) ((xs++[SV.mk A10 n10 c10]).map SV.enc).flatten,.arr (sB A54 n54 c54) 59 3 (i+1) ((ys++[x]).map FV.enc).flatten,.obj b6 (.cells ⟨(YV.mk A49 n49 c49 A54 n54 c54 none 0 0).enc⟩ 53 (0,0)),.obj b5 (.cells ⟨[.slice Ad nd cd]⟩ 29 (0,0))]) (by simp [SV.enc]) ?_
       exact G.ar 0 mup (h_7 0 1 5 6 14 15 16) ⟨A49,n49,c49,A54,n54,c54,trivial,rfl,rfl⟩
      ·refine D.ae (.tail _ (.tail _ (.tail _ (.tail _ (.head _))))) ?_
       refine D.bf hH rfl ⟨?_, ?_,trivial⟩
       ·refine D.ak (j:=2) rfl rfl rfl rfl rfl rfl rfl rfl rfl rfl rfl (hs48.mono mup) rfl (by simp only [List.length_singleton,maxLen];omega) (by show (i+1)*24<=_;omega) (fun _=>rfl) (fun A49 n49 c49=>?_)
        refine D.ac ?_
        refine D.ah [x.enc] (fun p53 C53 hle53 hs53=>?_)
        refine D.ak (j:=3) rfl rfl rfl rfl rfl rfl rfl rfl rfl rfl rfl (hs53.mono mup) rfl (by simp only [List.length_singleton,maxLen];omega) (by show (i+1)*56<=_;omega) (fun _=>rfl) (fun A54 n54 c54=>?_)
        refine D.ag (j:=4) ?_
        refine D.ac ?_
        refine D.ag (j:=0) ?_
        refine D.e7 0 1 5 6 14 15 16 hR ?_
        refine G.perm (L':=[.arr (sA A49 n49 c49) 51 1 (i+1) ((xs.map SV.enc).flatten++[[.slice A10 n10 c10]].flatten),.arr (sB A54 n54 c54) 59 3 (i+1) ((ys.map FV.enc).flatten++[x.enc].flatten),.obj b6 (.cells ⟨(YV.mk A49 n49 c49 A54 n54 c54 none 0 0).enc⟩ 53 (0,0)),.obj b5 (.cells ⟨[.slice Ad nd cd]⟩ 29 (0,0)),.obj b12 (.cells ⟨x.enc⟩ 59 (0,0)),.obj b9 (.cells ⟨r.enc⟩ 27 (0,0))]) (by (refine (aa (j:=2) rfl).trans (List.Perm.cons _ ?_);refine (aa (j:=1) rfl).trans (List.Perm.cons _ ?_);refine (aa (j:=0) rfl).trans (List.Perm.cons _ ?_);refine (aa (j:=2) rfl).trans (List.Perm.cons _ ?_);refine (aa (j:=0) rfl).trans (List.Perm.cons _ ?_);refine (aa (j:=0) rfl).trans (List.Perm.cons _ ?_);exact List.Perm.refl _)) ?_
        refine G.ax 4 rfl ?_
        refine G.ax 4 rfl ?_
        refine G.aJ (L':=[.arr (sA A49 n49 c49) 51 1 (i+1) ((xs++[SV.mk A10 n10 c10]).map SV.enc).flatten,.arr (sB A54 n54 c54) 59 3 (i+1) ((ys++[x]).map FV.enc).flatten,.obj b6 (.cells ⟨(YV.mk A49 n49 c49 A54 n54 c54 none 0 0).enc⟩ 53 (0,0)),.obj b5 (.cells ⟨[.slice Ad nd cd]⟩ 29 (0,0))]) (by simp [SV.enc]) ?_
        exact G.ar 0 mup (h_7 0 1 5 6 14 15 16) ⟨A49,n49,c49,A54,n54,c54,trivial,rfl,rfl⟩
       ·refine D.ah [x.enc] (fun p53 C53 hle53 hs53=>?_)
        refine D.ak (j:=2) rfl rfl rfl rfl rfl rfl rfl rfl rfl rfl rfl (hs48.mono mup) rfl (by simp only [List.length_singleton,maxLen];omega) (by show (i+1)*24<=_;omega) (fun _=>rfl) (fun A49 n49 c49=>?_)
        refine D.ac ?_
        refine D.ak (j:=3) rfl rfl rfl rfl rfl rfl rfl rfl rfl rfl rfl (hs53.mono mup) rfl (by simp only [List.length_singleton,maxLen];omega) (by show (i+1)*56<=_;omega) (fun _=>rfl) (fun A54 n54 c54=>?_)
        refine D.ag (j:=4) ?_
        refine D.ac ?_
        refine D.ag (j:=0) ?_
        refine D.e7 0 1 5 6 14 15 16 hR ?_
        refine G.perm (L':=[.arr (sA A49 n49 c49) 51 1 (i+1) ((xs.map SV.enc).flatten++[[.slice A10 n10 c10]].flatten),.arr (sB A54 n54 c54) 59 3 (i+1) ((ys.map FV.enc).flatten++[x.enc].flatten),.obj b6 (.cells ⟨(YV.mk A49 n49 c49 A54 n54 c54 none 0 0).enc⟩ 53 (0,0)),.obj b5 (.cells ⟨[.slice Ad nd cd]⟩ 29 (0,0)),.obj b12 (.cells ⟨x.enc⟩ 59 (0,0)),.obj b9 (.cells ⟨r.enc⟩ 27 (0,0))]) (by (refine (aa (j:=2) rfl).trans (List.Perm.cons _ ?_);refine (aa (j:=1) rfl).trans (List.Perm.cons _ ?_);refine (aa (j:=0) rfl).trans (List.Perm.cons _ ?_);refine (aa (j:=2) rfl).trans (List.Perm.cons _ ?_);refine (aa (j:=0) rfl).trans (List.Perm.cons _ ?_);refine (aa (j:=0) rfl).trans (List.Perm.cons _ ?_);exact List.Perm.refl _)) ?_
        refine G.ax 4 rfl ?_
        refine G.ax 4 rfl ?_
        refine G.aJ (L':=[.arr (sA A49 n49 c49) 51 1 (i+1) ((xs++[SV.mk A10 n10 c10]).map SV.enc).flatten,.arr (sB A54 n54 c54) 59 3 (i+1) ((ys++[x]).map FV.enc).flatten,.obj b6 (.cells ⟨(YV.mk A49 n49 c49 A54 n54 c54 none 0 0).enc⟩ 53 (0,0)),.obj b5 (.cells ⟨[.slice Ad nd cd]⟩ 29 (0,0))]) (by simp [SV.enc]) ?_
        exact G.ar 0 mup (h_7 0 1 5 6 14 15 16) ⟨A49,n49,c49,A54,n54,c54,trivial,rfl,rfl⟩
      ·refine D.ah [x.enc] (fun p53 C53 hle53 hs53=>?_)
       refine D.bf hH rfl ⟨?_, ?_,trivial⟩
       ·refine D.ak (j:=2) rfl rfl rfl rfl rfl rfl rfl rfl rfl rfl rfl (hs48.mono mup) rfl (by simp only [List.length_singleton,maxLen];omega) (by show (i+1)*24<=_;omega) (fun _=>rfl) (fun A49 n49 c49=>?_)
        refine D.ae (.tail _ (.tail _ (.tail _ (.tail _ (.head _))))) ?_
        refine D.ac ?_
        refine D.ak (j:=3) rfl rfl rfl rfl rfl rfl rfl rfl rfl rfl rfl (hs53.mono mup) rfl (by simp only [List.length_singleton,maxLen];omega) (by show (i+1)*56<=_;omega) (fun _=>rfl) (fun A54 n54 c54=>?_)
        refine D.ag (j:=4) ?_
        refine D.ac ?_
        refine D.ag (j:=0) ?_
        refine D.e7 0 1 5 6 14 15 16 hR ?_
        refine G.perm (L':=[.arr (sA A49 n49 c49) 51 1 (i+1) ((xs.map SV.enc).flatten++[[.slice A10 n10 c10]].flatten),.arr (sB A54 n54 c54) 59 3 (i+1) ((ys.map FV.enc).flatten++[x.enc].flatten),.obj b6 (.cells ⟨(YV.mk A49 n49 c49 A54 n54 c54 none 0 0).enc⟩ 53 (0,0)),.obj b5 (.cells ⟨[.slice Ad nd cd]⟩ 29 (0,0)),.obj b12 (.cells ⟨x.enc⟩ 59 (0,0)),.obj b9 (.cells ⟨r.enc⟩ 27 (0,0))]) (by (refine (aa (j:=2) rfl).trans (List.Perm.cons _ ?_);refine (aa (j:=1) rfl).trans (List.Perm.cons _ ?_);refine (aa (j:=0) rfl).trans (List.Perm.cons _ ?_);refine (aa (j:=2) rfl).trans (List.Perm.cons _ ?_);refine (aa (j:=0) rfl).trans (List.Perm.cons _ ?_);refine (aa (j:=0) rfl).trans (List.Perm.cons _ ?_);exact List.Perm.refl _)) ?_
        refine G.ax 4 rfl ?_
        refine G.ax 4 rfl ?_
        refine G.aJ (L':=[.arr (sA A49 n49 c49) 51 1 (i+1) ((xs++[SV.mk A10 n10 c10]).map SV.enc).flatten,.arr (sB A54 n54 c54) 59 3 (i+1) ((ys++[x]).map FV.enc).flatten,.obj b6 (.cells ⟨(YV.mk A49 n49 c49 A54 n54 c54 none 0 0).enc⟩ 53 (0,0)),.obj b5 (.cells ⟨[.slice Ad nd cd]⟩ 29 (0,0))]) (by simp [SV.enc]) ?_
        exact G.ar 0 mup (h_7 0 1 5 6 14 15 16) ⟨A49,n49,c49,A54,n54,c54,trivial,rfl,rfl⟩
       ·refine D.ae (.tail _ (.tail _ (.tail _ (.tail _ (.head _))))) ?_
        refine D.ak (j:=2) rfl rfl rfl rfl rfl rfl rfl rfl rfl rfl rfl (hs48.mono mup) rfl (by simp only [List.length_singleton,maxLen];omega) (by show (i+1)*24<=_;omega) (fun _=>rfl) (fun A49 n49 c49=>?_)
        refine D.ac ?_
        refine D.ak (j:=3) rfl rfl rfl rfl rfl rfl rfl rfl rfl rfl rfl (hs53.mono mup) rfl (by simp only [List.length_singleton,maxLen];omega) (by show (i+1)*56<=_;omega) (fun _=>rfl) (fun A54 n54 c54=>?_)
        refine D.ag (j:=4) ?_
        refine D.ac ?_
        refine D.ag (j:=0) ?_
        refine D.e7 0 1 5 6 14 15 16 hR ?_
        refine G.perm (L':=[.arr (sA A49 n49 c49) 51 1 (i+1) ((xs.map SV.enc).flatten++[[.slice A10 n10 c10]].flatten),.arr (sB A54 n54 c54) 59 3 (i+1) ((ys.map FV.enc).flatten++[x.enc].flatten),.obj b6 (.cells ⟨(YV.mk A49 n49 c49 A54 n54 c54 none 0 0).enc⟩ 53 (0,0)),.obj b5 (.cells ⟨[.slice Ad nd cd]⟩ 29 (0,0)),.obj b12 (.cells ⟨x.enc⟩ 59 (0,0)),.obj b9 (.cells ⟨r.enc⟩ 27 (0,0))]) (by (refine (aa (j:=2) rfl).trans (List.Perm.cons _ ?_);refine (aa (j:=1) rfl).trans (List.Perm.cons _ ?_);refine (aa (j:=0) rfl).trans (List.Perm.cons _ ?_);refine (aa (j:=2) rfl).trans (List.Perm.cons _ ?_);refine (aa (j:=0) rfl).trans (List.Perm.cons _ ?_);refine (aa (j:=0) rfl).trans (List.Perm.cons _ ?_);exact List.Perm.refl _)) ?_
        refine G.ax 4 rfl ?_
        refine G.ax 4 rfl ?_
        refine G.aJ (L':=[.arr (sA A49 n49 c49) 51 1 (i+1) ((xs++[SV.mk A10 n10 c10]).map SV.enc).flatten,.arr (sB A54 n54 c54) 59 3 (i+1) ((ys++[x]).map FV.enc).flatten,.obj b6 (.cells ⟨(YV.mk A49 n49 c49 A54 n54 c54 none 0 0).enc⟩ 53 (0,0)),.obj b5 (.cells ⟨[.slice Ad nd cd]⟩ 29 (0,0))]) (by simp [SV.enc]) ?_
        exact G.ar 0 mup (h_7 0 1 5 6 14 15 16) ⟨A49,n49,c49,A54,n54,c54,trivial,rfl,rfl⟩
    ·refine D.ae (.tail _ (.tail _ (.tail _ (.tail _ (.head _))))) ?_
     refine D.bf hH rfl ⟨?_, ?_,trivial⟩
     ·refine D.ah [[.slice A10 n10 c10]] (fun p48 C48 hle48 hs48=>?_)
      refine D.bf hH rfl ⟨?_, ?_,trivial⟩
      ·refine D.ak (j:=2) rfl rfl rfl rfl rfl rfl rfl rfl rfl rfl rfl (hs48.mono mup) rfl (by simp only [List.length_singleton,maxLen];omega) (by show (i+1)*24<=_;omega) (fun _=>rfl) (fun A49 n49 c49=>?_)
       refine D.ae (.tail _ (.head _)) ?_
       refine D.ac ?_
       refine D.ah [x.enc] (fun p53 C53 hle53 hs53=>?_)
       refine D.ak (j:=3) rfl rfl rfl rfl rfl rfl rfl rfl rfl rfl rfl (hs53.mono mup) rfl (by simp only [List.length_singleton,maxLen];omega) (by show (i+1)*56<=_;omega) (fun _=>rfl) (fun A54 n54 c54=>?_)
       refine D.ag (j:=4) ?_
       refine D.ac ?_
       refine D.ag (j:=0) ?_
       refine D.e7 0 1 5 6 14 15 16 hR ?_
       refine G.perm (L':=[.arr (sA A49 n49 c49) 51 1 (i+1) ((xs.map SV.enc).flatten++[[.slice A10 n10 c10]].flatten),.arr (sB A54 n54 c54) 59 3 (i+1) ((ys.map FV.enc).flatten++[x.enc].flatten),.obj b6 (.cells ⟨(YV.mk A49 n49 c49 A54 n54 c54 none 0 0).enc⟩ 53 (0,0)),.obj b5 (.cells ⟨[.slice Ad nd cd]⟩ 29 (0,0)),.obj b12 (.cells ⟨x.enc⟩ 59 (0,0)),.obj b9 (.cells ⟨r.enc⟩ 27 (0,0))]) (by (refine (aa (j:=2) rfl).trans (List.Perm.cons _ ?_);refine (aa (j:=1) rfl).trans (List.Perm.cons _ ?_);refine (aa (j:=0) rfl).trans (List.Perm.cons _ ?_);refine (aa (j:=2) rfl).trans (List.Perm.cons _ ?_);refine (aa (j:=0) rfl).trans (List.Perm.cons _ ?_);refine (aa (j:=0) rfl).trans (List.Perm.cons _ ?_);exact List.Perm.refl _)) ?_
       refine G.ax 4 rfl ?_
       refine G.ax 4 rfl ?_
       refine G.aJ (L':=[.arr (sA A49 n49 c49) 51 1 (i+1) ((xs++[SV.mk A10 n10 c10]).map SV.enc).flatten,.arr (sB A54 n54 c54) 59 3 (i+1) ((ys++[x]).map FV.enc).flatten,.obj b6 (.cells ⟨(YV.mk A49 n49 c49 A54 n54 c54 none 0 0).enc⟩ 53 (0,0)),.obj b5 (.cells ⟨[.slice Ad nd cd]⟩ 29 (0,0))]) (by simp [SV.enc]) ?_
       exact G.ar 0 mup (h_7 0 1 5 6 14 15 16) ⟨A49,n49,c49,A54,n54,c54,trivial,rfl,rfl⟩
      ·refine D.ae (.head _) ?_
       refine D.bf hH rfl ⟨?_, ?_,trivial⟩
       ·refine D.ak (j:=2) rfl rfl rfl rfl rfl rfl rfl rfl rfl rfl rfl (hs48.mono mup) rfl (by simp only [List.length_singleton,maxLen];omega) (by show (i+1)*24<=_;omega) (fun _=>rfl) (fun A49 n49 c49=>?_)
        refine D.ac ?_
        refine D.ah [x.enc] (fun p53 C53 hle53 hs53=>?_)
        refine D.ak (j:=3) rfl rfl rfl rfl rfl rfl rfl rfl rfl rfl rfl (hs53.mono mup) rfl (by simp only [List.length_singleton,maxLen];omega) (by show (i+1)*56<=_;omega) (fun _=>rfl) (fun A54 n54 c54=>?_)
        refine D.ag (j:=4) ?_
        refine D.ac ?_
        refine D.ag (j:=0) ?_
        refine D.e7 0 1 5 6 14 15 16 hR ?_
        refine G.perm (L':=[.arr (sA A49 n49 c49) 51 1 (i+1) ((xs.map SV.enc).flatten++[[.slice A10 n10 c10]].flatten),.arr (sB A54 n54 c54) 59 3 (i+1) ((ys.map FV.enc).flatten++[x.enc].flatten),.obj b6 (.cells ⟨(YV.mk A49 n49 c49 A54 n54 c54 none 0 0).enc⟩ 53 (0,0)),.obj b5 (.cells ⟨[.slice Ad nd cd]⟩ 29 (0,0)),.obj b12 (.cells ⟨x.enc⟩ 59 (0,0)),.obj b9 (.cells ⟨r.enc⟩ 27 (0,0))]) (by (refine (aa (j:=2) rfl).trans (List.Perm.cons _ ?_);refine (aa (j:=1) rfl).trans (List.Perm.cons _ ?_);refine (aa (j:=0) rfl).trans (List.Perm.cons _ ?_);refine (aa (j:=2) rfl).trans (List.Perm.cons _ ?_);refine (aa (j:=0) rfl).trans (List.Perm.cons _ ?_);refine (aa (j:=0) rfl).trans (List.Perm.cons _ ?_);exact List.Perm.refl _)) ?_
        refine G.ax 4 rfl ?_
        refine G.ax 4 rfl ?_
        refine G.aJ (L':=[.arr (sA A49 n49 c49) 51 1 (i+1) ((xs++[SV.mk A10 n10 c10]).map SV.enc).flatten,.arr (sB A54 n54 c54) 59 3 (i+1) ((ys++[x]).map FV.enc).flatten,.obj b6 (.cells ⟨(YV.mk A49 n49 c49 A54 n54 c54 none 0 0).enc⟩ 53 (0,0)),.obj b5 (.cells ⟨[.slice Ad nd cd]⟩ 29 (0,0))]) (by simp [SV.enc]) ?_
        exact G.ar 0 mup (h_7 0 1 5 6 14 15 16) ⟨A49,n49,c49,A54,n54,c54,trivial,rfl,rfl⟩
       ·refine D.ah [x.enc] (fun p53 C53 hle53 hs53=>?_)
        refine D.ak (j:=2) rfl rfl rfl rfl rfl rfl rfl rfl rfl rfl rfl (hs48.mono mup) rfl (by simp only [List.length_singleton,maxLen];omega) (by show (i+1)*24<=_;omega) (fun _=>rfl) (fun A49 n49 c49=>?_)
        refine D.ac ?_
        refine D.ak (j:=3) rfl rfl rfl rfl rfl rfl rfl rfl rfl rfl rfl (hs53.mono mup) rfl (by simp only [List.length_singleton,maxLen];omega) (by show (i+1)*56<=_;omega) (fun _=>rfl) (fun A54 n54 c54=>?_)
        refine D.ag (j:=4) ?_
        refine D.ac ?_
        refine D.ag (j:=0) ?_
        refine D.e7 0 1 5 6 14 15 16 hR ?_
        refine G.perm (L':=[.arr (sA A49 n49 c49) 51 1 (i+1) ((xs.map SV.enc).flatten++[[.slice A10 n10 c10]].flatten),.arr (sB A54 n54 c54) 59 3 (i+1) ((ys.map FV.enc).flatten++[x.enc].flatten),.obj b6 (.cells ⟨(YV.mk A49 n49 c49 A54 n54 c54 none 0 0).enc⟩ 53 (0,0)),.obj b5 (.cells ⟨[.slice Ad nd cd]⟩ 29 (0,0)),.obj b12 (.cells ⟨x.enc⟩ 59 (0,0)),.obj b9 (.cells ⟨r.enc⟩ 27 (0,0))]) (by (refine (aa (j:=2) rfl).trans (List.Perm.cons _ ?_);refine (aa (j:=1) rfl).trans (List.Perm.cons _ ?_);refine (aa (j:=0) rfl).trans (List.Perm.cons _ ?_);refine (aa (j:=2) rfl).trans (List.Perm.cons _ ?_);refine (aa (j:=0) rfl).trans (List.Perm.cons _ ?_);refine (aa (j:=0) rfl).trans (List.Perm.cons _ ?_);exact List.Perm.refl _)) ?_
        refine G.ax 4 rfl ?_
        refine G.ax 4 rfl ?_
        refine G.aJ (L':=[.arr (sA A49 n49 c49) 51 1 (i+1) ((xs++[SV.mk A10 n10 c10]).map SV.enc).flatten,.arr (sB A54 n54 c54) 59 3 (i+1) ((ys++[x]).map FV.enc).flatten,.obj b6 (.cells ⟨(YV.mk A49 n49 c49 A54 n54 c54 none 0 0).enc⟩ 53 (0,0)),.obj b5 (.cells ⟨[.slice Ad nd cd]⟩ 29 (0,0))]) (by simp [SV.enc]) ?_
        exact G.ar 0 mup (h_7 0 1 5 6 14 15 16) ⟨A49,n49,c49,A54,n54,c54,trivial,rfl,rfl⟩
     ·refine D.ae (.head _) ?_
      refine D.bf hH rfl ⟨?_, ?_,trivial⟩
      ·refine D.ah [[.slice A10 n10 c10]] (fun p48 C48 hle48 hs48=>?_)
       refine D.bf hH rfl ⟨?_, ?_,trivial⟩
       ·refine D.ak (j:=2) rfl rfl rfl rfl rfl rfl rfl rfl rfl rfl rfl (hs48.mono mup) rfl (by simp only [List.length_singleton,maxLen];omega) (by show (i+1)*24<=_;omega) (fun _=>rfl) (fun A49 n49 c49=>?_)
        refine D.ac ?_
        refine D.ah [x.enc] (fun p53 C53 hle53 hs53=>?_)
        refine D.ak (j:=3) rfl rfl rfl rfl rfl rfl rfl rfl rfl rfl rfl (hs53.mono mup) rfl (by simp only [List.length_singleton,maxLen];omega) (by show (i+1)*56<=_;omega) (fun _=>rfl) (fun A54 n54 c54=>?_)
        refine D.ag (j:=4) ?_
        refine D.ac ?_
        refine D.ag (j:=0) ?_
        refine D.e7 0 1 5 6 14 15 16 hR ?_
        refine G.perm (L':=[.arr (sA A49 n49 c49) 51 1 (i+1) ((xs.map SV.enc).flatten++[[.slice A10 n10 c10]].flatten),.arr (sB A54 n54 c54) 59 3 (i+1) ((ys.map FV.enc).flatten++[x.enc].flatten),.obj b6 (.cells ⟨(YV.mk A49 n49 c49 A54 n54 c54 none 0 0).enc⟩ 53 (0,0)),.obj b5 (.cells ⟨[.slice Ad nd cd]⟩ 29 (0,0)),.obj b12 (.cells ⟨x.enc⟩ 59 (0,0)),.obj b9 (.cells ⟨r.enc⟩ 27 (0,0))]) (by (refine (aa (j:=2) rfl).trans (List.Perm.cons _ ?_);refine (aa (j:=1) rfl).trans (List.Perm.cons _ ?_);refine (aa (j:=0) rfl).trans (List.Perm.cons _ ?_);refine (aa (j:=2) rfl).trans (List.Perm.cons _ ?_);refine (aa (j:=0) rfl).trans (List.Perm.cons _ ?_);refine (aa (j:=0) rfl).trans (List.Perm.cons _ ?_);exact List.Perm.refl _)) ?_
        refine G.ax 4 rfl ?_
        refine G.ax 4 rfl ?_
        refine G.aJ (L':=[.arr (sA A49 n49 c49) 51 1 (i+1) ((xs++[SV.mk A10 n10 c10]).map SV.enc).flatten,.arr (sB A54 n54 c54) 59 3 (i+1) ((ys++[x]).map FV.enc).flatten,.obj b6 (.cells ⟨(YV.mk A49 n49 c49 A54 n54 c54 none 0 0).enc⟩ 53 (0,0)),.obj b5 (.cells ⟨[.slice Ad nd cd]⟩ 29 (0,0))]) (by simp [SV.enc]) ?_
        exact G.ar 0 mup (h_7 0 1 5 6 14 15 16) ⟨A49,n49,c49,A54,n54,c54,trivial,rfl,rfl⟩
       ·refine D.ah [x.enc] (fun p53 C53 hle53 hs53=>?_)
        refine D.ak (j:=2) rfl rfl rfl rfl rfl rfl rfl rfl rfl rfl rfl (hs48.mono mup) rfl (by simp only [List.length_singleton,maxLen];omega) (by show (i+1)*24<=_;omega) (fun _=>rfl) (fun A49 n49 c49=>?_)
        refine D.ac ?_
        refine D.ak (j:=3) rfl rfl rfl rfl rfl rfl rfl rfl rfl rfl rfl (hs53.mono mup) rfl (by simp only [List.length_singleton,maxLen];omega) (by show (i+1)*56<=_;omega) (fun _=>rfl) (fun A54 n54 c54=>?_)
        refine D.ag (j:=4) ?_
        refine D.ac ?_
        refine D.ag (j:=0) ?_
        refine D.e7 0 1 5 6 14 15 16 hR ?_
        refine G.perm (L':=[.arr (sA A49 n49 c49) 51 1 (i+1) ((xs.map SV.enc).flatten++[[.slice A10 n10 c10]].flatten),.arr (sB A54 n54 c54) 59 3 (i+1) ((ys.map FV.enc).flatten++[x.enc].flatten),.obj b6 (.cells ⟨(YV.mk A49 n49 c49 A54 n54 c54 none 0 0).enc⟩ 53 (0,0)),.obj b5 (.cells ⟨[.slice Ad nd cd]⟩ 29 (0,0)),.obj b12 (.cells ⟨x.enc⟩ 59 (0,0)),.obj b9 (.cells ⟨r.enc⟩ 27 (0,0))]) (by (refine (aa (j:=2) rfl).trans (List.Perm.cons _ ?_);refine (aa (j:=1) rfl).trans (List.Perm.cons _ ?_);refine (aa (j:=0) rfl).trans (List.Perm.cons _ ?_);refine (aa (j:=2) rfl).trans (List.Perm.cons _ ?_);refine (aa (j:=0) rfl).trans (List.Perm.cons _ ?_);refine (aa (j:=0) rfl).trans (List.Perm.cons _ ?_);exact List.Perm.refl _)) ?_
        refine G.ax 4 rfl ?_
        refine G.ax 4 rfl ?_
        refine G.aJ (L':=[.arr (sA A49 n49 c49) 51 1 (i+1) ((xs++[SV.mk A10 n10 c10]).map SV.enc).flatten,.arr (sB A54 n54 c54) 59 3 (i+1) ((ys++[x]).map FV.enc).flatten,.obj b6 (.cells ⟨(YV.mk A49 n49 c49 A54 n54 c54 none 0 0).enc⟩ 53 (0,0)),.obj b5 (.cells ⟨[.slice Ad nd cd]⟩ 29 (0,0))]) (by simp [SV.enc]) ?_
        exact G.ar 0 mup (h_7 0 1 5 6 14 15 16) ⟨A49,n49,c49,A54,n54,c54,trivial,rfl,rfl⟩
      ·refine D.ah [x.enc] (fun p53 C53 hle53 hs53=>?_)
       refine D.ah [[.slice A10 n10 c10]] (fun p48 C48 hle48 hs48=>?_)
       refine D.ak (j:=2) rfl rfl rfl rfl rfl rfl rfl rfl rfl rfl rfl (hs48.mono mup) rfl (by simp only [List.length_singleton,maxLen];omega) (by show (i+1)*24<=_;omega) (fun _=>rfl) (fun A49 n49 c49=>?_)
       refine D.ac ?_
       refine D.ak (j:=3) rfl rfl rfl rfl rfl rfl rfl rfl rfl rfl rfl (hs53.mono mup) rfl (by simp only [List.length_singleton,maxLen];omega) (by show (i+1)*56<=_;omega) (fun _=>rfl) (fun A54 n54 c54=>?_)
       refine D.ag (j:=4) ?_
       refine D.ac ?_
       refine D.ag (j:=0) ?_
       refine D.e7 0 1 5 6 14 15 16 hR ?_
       refine G.perm (L':=[.arr (sA A49 n49 c49) 51 1 (i+1) ((xs.map SV.enc).flatten++[[.slice A10 n10 c10]].flatten),.arr (sB A54 n54 c54) 59 3 (i+1) ((ys.map FV.enc).flatten++[x.enc].flatten),.obj b6 (.cells ⟨(YV.mk A49 n49 c49 A54 n54 c54 none 0 0).enc⟩ 53 (0,0)),.obj b5 (.cells ⟨[.slice Ad nd cd]⟩ 29 (0,0)),.obj b12 (.cells ⟨x.enc⟩ 59 (0,0)),.obj b9 (.cells ⟨r.enc⟩ 27 (0,0))]) (by (refine (aa (j:=2) rfl).trans (List.Perm.cons _ ?_);refine (aa (j:=1) rfl).trans (List.Perm.cons _ ?_);refine (aa (j:=0) rfl).trans (List.Perm.cons _ ?_);refine (aa (j:=2) rfl).trans (List.Perm.cons _ ?_);refine (aa (j:=0) rfl).trans (List.Perm.cons _ ?_);refine (aa (j:=0) rfl).trans (List.Perm.cons _ ?_);exact List.Perm.refl _)) ?_
       refine G.ax 4 rfl ?_
       refine G.ax 4 rfl ?_
       refine G.aJ (L':=[.arr (sA A49 n49 c49) 51 1 (i+1) ((xs++[SV.mk A10 n10 c10]).map SV.enc).flatten,.arr (sB A54 n54 c54) 59 3 (i+1) ((ys++[x]).map FV.enc).flatten,.obj b6 (.cells ⟨(YV.mk A49 n49 c49 A54 n54 c54 none 0 0).enc⟩ 53 (0,0)),.obj b5 (.cells ⟨[.slice Ad nd cd]⟩ 29 (0,0))]) (by simp [SV.enc]) ?_
       exact G.ar 0 mup (h_7 0 1 5 6 14 15 16) ⟨A49,n49,c49,A54,n54,c54,trivial,rfl,rfl⟩
    ·refine D.ae (.head _) ?_
     refine D.bf hH rfl ⟨?_, ?_, ?_,trivial⟩
     ·refine D.ah [[.slice A10 n10 c10]] (fun p48 C48 hle48 hs48=>?_)
      refine D.bf hH rfl ⟨?_, ?_, ?_,trivial⟩
      ·refine D.ak (j:=2) rfl rfl rfl rfl rfl rfl rfl rfl rfl rfl rfl (hs48.mono mup) rfl (by simp only [List.length_singleton,maxLen];omega) (by show (i+1)*24<=_;omega) (fun _=>rfl) (fun A49 n49 c49=>?_)
       refine D.ae (.tail _ (.tail _ (.tail _ (.tail _ (.head _))))) ?_
       refine D.ac ?_
       refine D.ah [x.enc] (fun p53 C53 hle53 hs53=>?_)
       refine D.ak (j:=3) rfl rfl rfl rfl rfl rfl rfl rfl rfl rfl rfl (hs53.mono mup) rfl (by simp only [List.length_singleton,maxLen];omega) (by show (i+1)*56<=_;omega) (fun _=>rfl) (fun A54 n54 c54=>?_)
       refine D.ag (j:=4) ?_
       refine D.ac ?_
       refine D.ag (j:=0) ?_
       refine D.e7 0 1 5 6 14 15 16 hR ?_
       refine G.perm (L':=[.arr (sA A49 n49 c49) 51 1 (i+1) ((xs.map SV.enc).flatten++[[.slice A10 n10 c10]].flatten),.arr (sB A54 n54 c54) 59 3 (i+1) ((ys.map FV.enc).flatten++[x.enc].flatten),.obj b6 (.cells ⟨(YV.mk A49 n49 c49 A54 n54 c54 none 0 0).enc⟩ 53 (0,0)),.obj b5 (.cells ⟨[.slice Ad nd cd]⟩ 29 (0,0)),.obj b12 (.cells ⟨x.enc⟩ 59 (0,0)),.obj b9 (.cells ⟨r.enc⟩ 27 (0,0))]) (by (refine (aa (j:=2) rfl).trans (List.Perm.cons _ ?_);refine (aa (j:=1) rfl).trans (List.Perm.cons _ ?_);refine (aa (j:=0) rfl).trans (List.Perm.cons _ ?_);refine (aa (j:=2) rfl).trans (List.Perm.cons _ ?_);refine (aa (j:=0) rfl).trans (List.Perm.cons _ ?_);refine (aa (j:=0) rfl).trans (List.Perm.cons _ ?_);exact List.Perm.refl _)) ?_
       refine G.ax 4 rfl ?_
       refine G.ax 4 rfl ?_
       refine G.aJ (L':=[.arr (sA A49 n49 c49) 51 1 (i+1) ((xs++[SV.mk A10 n10 c10]).map SV.enc).flatten,.arr (sB A54 n54 c54) 59 3 (i+1) ((ys++[x]).map FV.enc).flatten,.obj b6 (.cells ⟨(YV.mk A49 n49 c49 A54 n54 c54 none 0 0).enc⟩ 53 (0,0)),.obj b5 (.cells ⟨[.slice Ad nd cd]⟩ 29 (0,0))]) (by simp [SV.enc]) ?_
       exact G.ar 0 mup (h_7 0 1 5 6 14 15 16) ⟨A49,n49,c49,A54,n54,c54,trivial,rfl,rfl⟩
      ·refine D.ae (.tail _ (.tail _ (.tail _ (.tail _ (.head _))))) ?_
       refine D.bf hH rfl ⟨?_, ?_,trivial⟩
       ·refine D.ak (j:=2) rfl rfl rfl rfl rfl rfl rfl rfl rfl rfl rfl (hs48.mono mup) rfl (by simp only [List.length_singleton,maxLen];omega) (by show (i+1)*24<=_;omega) (fun _=>rfl) (fun A49 n49 c49=>?_)
        refine D.ac ?_
        refine D.ah [x.enc] (fun p53 C53 hle53 hs53=>?_)
        refine D.ak (j:=3) rfl rfl rfl rfl rfl rfl rfl rfl rfl rfl rfl (hs53.mono mup) rfl (by simp only [List.length_singleton,maxLen];omega) (by show (i+1)*56<=_;omega) (fun _=>rfl) (fun A54 n54 c54=>?_)
        refine D.ag (j:=4) ?_
        refine D.ac ?_
        refine D.ag (j:=0) ?_
        refine D.e7 0 1 5 6 14 15 16 hR ?_
        refine G.perm (L':=[.arr (sA A49 n49 c49) 51 1 (i+1) ((xs.map SV.enc).flatten++[[.slice A10 n10 c10]].flatten),.arr (sB A54 n54 c54) 59 3 (i+1) ((ys.map FV.enc).flatten++[x.enc].flatten),.obj b6 (.cells ⟨(YV.mk A49 n49 c49 A54 n54 c54 none 0 0).enc⟩ 53 (0,0)),.obj b5 (.cells ⟨[.slice Ad nd cd]⟩ 29 (0,0)),.obj b12 (.cells ⟨x.enc⟩ 59 (0,0)),.obj b9 (.cells ⟨r.enc⟩ 27 (0,0))]) (by (refine (aa (j:=2) rfl).trans (List.Perm.cons _ ?_);refine (aa (j:=1) rfl).trans (List.Perm.cons _ ?_);refine (aa (j:=0) rfl).trans (List.Perm.cons _ ?_);refine (aa (j:=2) rfl).trans (List.Perm.cons _ ?_);refine (aa (j:=0) rfl).trans (List.Perm.cons _ ?_);refine (aa (j:=0) rfl).trans (List.Perm.cons _ ?_);exact List.Perm.refl _)) ?_
        refine G.ax 4 rfl ?_
        refine G.ax 4 rfl ?_
        refine G.aJ (L':=[.arr (sA A49 n49 c49) 51 1 (i+1) ((xs++[SV.mk A10 n10 c10]).map SV.enc).flatten,.arr (sB A54 n54 c54) 59 3 (i+1) ((ys++[x]).map FV.enc).flatten,.obj b6 (.cells ⟨(YV.mk A49 n49 c49 A54 n54 c54 none 0 0).enc⟩ 53 (0,0)),.obj b5 (.cells ⟨[.slice Ad nd cd]⟩ 29 (0,0))]) (by simp [SV.enc]) ?_
        exact G.ar 0 mup (h_7 0 1 5 6 14 15 16) ⟨A49,n49,c49,A54,n54,c54,trivial,rfl,rfl⟩
       ·refine D.ah [x.enc] (fun p53 C53 hle53 hs53=>?_)
        refine D.ak (j:=2) rfl rfl rfl rfl rfl rfl rfl rfl rfl rfl rfl (hs48.mono mup) rfl (by simp only [List.length_singleton,maxLen];omega) (by show (i+1)*24<=_;omega) (fun _=>rfl) (fun A49 n49 c49=>?_)
        refine D.ac ?_
        refine D.ak (j:=3) rfl rfl rfl rfl rfl rfl rfl rfl rfl rfl rfl (hs53.mono mup) rfl (by simp only [List.length_singleton,maxLen];omega) (by show (i+1)*56<=_;omega) (fun _=>rfl) (fun A54 n54 c54=>?_)
        refine D.ag (j:=4) ?_
        refine D.ac ?_
        refine D.ag (j:=0) ?_
        refine D.e7 0 1 5 6 14 15 16 hR ?_
        refine G.perm (L':=[.arr (sA A49 n49 c49) 51 1 (i+1) ((xs.map SV.enc).flatten++[[.slice A10 n10 c10]].flatten),.arr (sB A54 n54 c54) 59 3 (i+1) ((ys.map FV.enc).flatten++[x.enc].flatten),.obj b6 (.cells ⟨(YV.mk A49 n49 c49 A54 n54 c54 none 0 0).enc⟩ 53 (0,0)),.obj b5 (.cells ⟨[.slice Ad nd cd]⟩ 29 (0,0)),.obj b12 (.cells ⟨x.enc⟩ 59 (0,0)),.obj b9 (.cells ⟨r.enc⟩ 27 (0,0))]) (by (refine (aa (j:=2) rfl).trans (List.Perm.cons _ ?_);refine (aa (j:=1) rfl).trans (List.Perm.cons _ ?_);refine (aa (j:=0) rfl).trans (List.Perm.cons _ ?_);refine (aa (j:=2) rfl).trans (List.Perm.cons _ ?_);refine (aa (j:=0) rfl).trans (List.Perm.cons _ ?_);refine (aa (j:=0) rfl).trans (List.Perm.cons _ ?_);exact List.Perm.refl _)) ?_
        refine G.ax 4 rfl ?_
        refine G.ax 4 rfl ?_
        refine G.aJ (L':=[.arr (sA A49 n49 c49) 51 1 (i+1) ((xs++[SV.mk A10 n10 c10]).map SV.enc).flatten,.arr (sB A54 n54 c54) 59 3 (i+1) ((ys++[x]).map FV.enc).flatten,.obj b6 (.cells ⟨(YV.mk A49 n49 c49 A54 n54 c54 none 0 0).enc⟩ 53 (0,0)),.obj b5 (.cells ⟨[.slice Ad nd cd]⟩ 29 (0,0))]) (by simp [SV.enc]) ?_
        exact G.ar 0 mup (h_7 0 1 5 6 14 15 16) ⟨A49,n49,c49,A54,n54,c54,trivial,rfl,rfl⟩
      ·refine D.ah [x.enc] (fun p53 C53 hle53 hs53=>?_)
       refine D.bf hH rfl ⟨?_, ?_,trivial⟩
       ·refine D.ak (j:=2) rfl rfl rfl rfl rfl rfl rfl rfl rfl rfl rfl (hs48.mono mup) rfl (by simp only [List.length_singleton,maxLen];omega) (by show (i+1)*24<=_;omega) (fun _=>rfl) (fun A49 n49 c49=>?_)
        refine D.ae (.tail _ (.tail _ (.tail _ (.tail _ (.head _))))) ?_
        refine D.ac ?_
        refine D.ak (j:=3) rfl rfl rfl rfl rfl rfl rfl rfl rfl rfl rfl (hs53.mono mup) rfl (by simp only [List.length_singleton,maxLen];omega) (by show (i+1)*56<=_;omega) (fun _=>rfl) (fun A54 n54 c54=>?_)
        refine D.ag (j:=4) ?_
        refine D.ac ?_
        refine D.ag (j:=0) ?_
        refine D.e7 0 1 5 6 14 15 16 hR ?_
        refine G.perm (L':=[.arr (sA A49 n49 c49) 51 1 (i+1) ((xs.map SV.enc).flatten++[[.slice A10 n10 c10]].flatten),.arr (sB A54 n54 c54) 59 3 (i+1) ((ys.map FV.enc).flatten++[x.enc].flatten),.obj b6 (.cells ⟨(YV.mk A49 n49 c49 A54 n54 c54 none 0 0).enc⟩ 53 (0,0)),.obj b5 (.cells ⟨[.slice Ad nd cd]⟩ 29 (0,0)),.obj b12 (.cells ⟨x.enc⟩ 59 (0,0)),.obj b9 (.cells ⟨r.enc⟩ 27 (0,0))]) (by (refine (aa (j:=2) rfl).trans (List.Perm.cons _ ?_);refine (aa (j:=1) rfl).trans (List.Perm.cons _ ?_);refine (aa (j:=0) rfl).trans (List.Perm.cons _ ?_);refine (aa (j:=2) rfl).trans (List.Perm.cons _ ?_);refine (aa (j:=0) rfl).trans (List.Perm.cons _ ?_);refine (aa (j:=0) rfl).trans (List.Perm.cons _ ?_);exact List.Perm.refl _)) ?_
        refine G.ax 4 rfl ?_
        refine G.ax 4 rfl ?_
        refine G.aJ (L':=[.arr (sA A49 n49 c49) 51 1 (i+1) ((xs++[SV.mk A10 n10 c10]).map SV.enc).flatten,.arr (sB A54 n54 c54) 59 3 (i+1) ((ys++[x]).map FV.enc).flatten,.obj b6 (.cells ⟨(YV.mk A49 n49 c49 A54 n54 c54 none 0 0).enc⟩ 53 (0,0)),.obj b5 (.cells ⟨[.slice Ad nd cd]⟩ 29 (0,0))]) (by simp [SV.enc]) ?_
        exact G.ar 0 mup (h_7 0 1 5 6 14 15 16) ⟨A49,n49,c49,A54,n54,c54,trivial,rfl,rfl⟩
       ·refine D.ae (.tail _ (.tail _ (.tail _ (.tail _ (.head _))))) ?_
        refine D.ak (j:=2) rfl rfl rfl rfl rfl rfl rfl rfl rfl rfl rfl (hs48.mono mup) rfl (by simp only [List.length_singleton,maxLen];omega) (by show (i+1)*24<=_;omega) (fun _=>rfl) (fun A49 n49 c49=>?_)
        refine D.ac ?_
        refine D.ak (j:=3) rfl rfl rfl rfl rfl rfl rfl rfl rfl rfl rfl (hs53.mono mup) rfl (by simp only [List.length_singleton,maxLen];omega) (by show (i+1)*56<=_;omega) (fun _=>rfl) (fun A54 n54 c54=>?_)
        refine D.ag (j:=4) ?_
        refine D.ac ?_
        refine D.ag (j:=0) ?_
        refine D.e7 0 1 5 6 14 15 16 hR ?_
        refine G.perm (L':=[.arr (sA A49 n49 c49) 51 1 (i+1) ((xs.map SV.enc).flatten++[[.slice A10 n10 c10]].flatten),.arr (sB A54 n54 c54) 59 3 (i+1) ((ys.map FV.enc).flatten++[x.enc].flatten),.obj b6 (.cells ⟨(YV.mk A49 n49 c49 A54 n54 c54 none 0 0).enc⟩ 53 (0,0)),.obj b5 (.cells ⟨[.slice Ad nd cd]⟩ 29 (0,0)),.obj b12 (.cells ⟨x.enc⟩ 59 (0,0)),.obj b9 (.cells ⟨r.enc⟩ 27 (0,0))]) (by (refine (aa (j:=2) rfl).trans (List.Perm.cons _ ?_);refine (aa (j:=1) rfl).trans (List.Perm.cons _ ?_);refine (aa (j:=0) rfl).trans (List.Perm.cons _ ?_);refine (aa (j:=2) rfl).trans (List.Perm.cons _ ?_);refine (aa (j:=0) rfl).trans (List.Perm.cons _ ?_);refine (aa (j:=0) rfl).trans (List.Perm.cons _ ?_);exact List.Perm.refl _)) ?_
        refine G.ax 4 rfl ?_
        refine G.ax 4 rfl ?_
        refine G.aJ (L':=[.arr (sA A49 n49 c49) 51 1 (i+1) ((xs++[SV.mk A10 n10 c10]).map SV.enc).flatten,.arr (sB A54 n54 c54) 59 3 (i+1) ((ys++[x]).map FV.enc).flatten,.obj b6 (.cells ⟨(YV.mk A49 n49 c49 A54 n54 c54 none 0 0).enc⟩ 53 (0,0)),.obj b5 (.cells ⟨[.slice Ad nd cd]⟩ 29 (0,0))]) (by simp [SV.enc]) ?_
        exact G.ar 0 mup (h_7 0 1 5 6 14 15 16) ⟨A49,n49,c49,A54,n54,c54,trivial,rfl,rfl⟩
     ·refine D.ae (.tail _ (.tail _ (.tail _ (.tail _ (.head _))))) ?_
      refine D.bf hH rfl ⟨?_, ?_,trivial⟩
      ·refine D.ah [[.slice A10 n10 c10]] (fun p48 C48 hle48 hs48=>?_)
       refine D.bf hH rfl ⟨?_, ?_,trivial⟩
       ·refine D.ak (j:=2) rfl rfl rfl rfl rfl rfl rfl rfl rfl rfl rfl (hs48.mono mup) rfl (by simp only [List.length_singleton,maxLen];omega) (by show (i+1)*24<=_;omega) (fun _=>rfl) (fun A49 n49 c49=>?_)
        refine D.ac ?_
        refine D.ah [x.enc] (fun p53 C53 hle53 hs53=>?_)
        refine D.ak (j:=3) rfl rfl rfl rfl rfl rfl rfl rfl rfl rfl rfl (hs53.mono mup) rfl (by simp only [List.length_singleton,maxLen];omega) (by show (i+1)*56<=_;omega) (fun _=>rfl) (fun A54 n54 c54=>?_)
        refine D.ag (j:=4) ?_
        refine D.ac ?_
        refine D.ag (j:=0) ?_
        refine D.e7 0 1 5 6 14 15 16 hR ?_
        refine G.perm (L':=[.arr (sA A49 n49 c49) 51 1 (i+1) ((xs.map SV.enc).flatten++[[.slice A10 n10 c10]].flatten),.arr (sB A54 n54 c54) 59 3 (i+1) ((ys.map FV.enc).flatten++[x.enc].flatten),.obj b6 (.cells ⟨(YV.mk A49 n49 c49 A54 n54 c54 none 0 0).enc⟩ 53 (0,0)),.obj b5 (.cells ⟨[.slice Ad nd cd]⟩ 29 (0,0)),.obj b12 (.cells ⟨x.enc⟩ 59 (0,0)),.obj b9 (.cells ⟨r.enc⟩ 27 (0,0))]) (by (refine (aa (j:=2) rfl).trans (List.Perm.cons _ ?_);refine (aa (j:=1) rfl).trans (List.Perm.cons _ ?_);refine (aa (j:=0) rfl).trans (List.Perm.cons _ ?_);refine (aa (j:=2) rfl).trans (List.Perm.cons _ ?_);refine (aa (j:=0) rfl).trans (List.Perm.cons _ ?_);refine (aa (j:=0) rfl).trans (List.Perm.cons _ ?_);exact List.Perm.refl _)) ?_
        refine G.ax 4 rfl ?_
        refine G.ax 4 rfl ?_
        refine G.aJ (L':=[.arr (sA A49 n49 c49) 51 1 (i+1) ((xs++[SV.mk A10 n10 c10]).map SV.enc).flatten,.arr (sB A54 n54 c54) 59 3 (i+1) ((ys++[x]).map FV.enc).flatten,.obj b6 (.cells ⟨(YV.mk A49 n49 c49 A54 n54 c54 none 0 0).enc⟩ 53 (0,0)),.obj b5 (.cells ⟨[.slice Ad nd cd]⟩ 29 (0,0))]) (by simp [SV.enc]) ?_
        exact G.ar 0 mup (h_7 0 1 5 6 14 15 16) ⟨A49,n49,c49,A54,n54,c54,trivial,rfl,rfl⟩
       ·refine D.ah [x.enc] (fun p53 C53 hle53 hs53=>?_)
        refine D.ak (j:=2) rfl rfl rfl rfl rfl rfl rfl rfl rfl rfl rfl (hs48.mono mup) rfl (by simp only [List.length_singleton,maxLen];omega) (by show (i+1)*24<=_;omega) (fun _=>rfl) (fun A49 n49 c49=>?_)
        refine D.ac ?_
        refine D.ak (j:=3) rfl rfl rfl rfl rfl rfl rfl rfl rfl rfl rfl (hs53.mono mup) rfl (by simp only [List.length_singleton,maxLen];omega) (by show (i+1)*56<=_;omega) (fun _=>rfl) (fun A54 n54 c54=>?_)
        refine D.ag (j:=4) ?_
        refine D.ac ?_
        refine D.ag (j:=0) ?_
        refine D.e7 0 1 5 6 14 15 16 hR ?_
        refine G.perm (L':=[.arr (sA A49 n49 c49) 51 1 (i+1) ((xs.map SV.enc).flatten++[[.slice A10 n10 c10]].flatten),.arr (sB A54 n54 c54) 59 3 (i+1) ((ys.map FV.enc).flatten++[x.enc].flatten),.obj b6 (.cells ⟨(YV.mk A49 n49 c49 A54 n54 c54 none 0 0).enc⟩ 53 (0,0)),.obj b5 (.cells ⟨[.slice Ad nd cd]⟩ 29 (0,0)),.obj b12 (.cells ⟨x.enc⟩ 59 (0,0)),.obj b9 (.cells ⟨r.enc⟩ 27 (0,0))]) (by (refine (aa (j:=2) rfl).trans (List.Perm.cons _ ?_);refine (aa (j:=1) rfl).trans (List.Perm.cons _ ?_);refine (aa (j:=0) rfl).trans (List.Perm.cons _ ?_);refine (aa (j:=2) rfl).trans (List.Perm.cons _ ?_);refine (aa (j:=0) rfl).trans (List.Perm.cons _ ?_);refine (aa (j:=0) rfl).trans (List.Perm.cons _ ?_);exact List.Perm.refl _)) ?_
        refine G.ax 4 rfl ?_
        refine G.ax 4 rfl ?_
        refine G.aJ (L':=[.arr (sA A49 n49 c49) 51 1 (i+1) ((xs++[SV.mk A10 n10 c10]).map SV.enc).flatten,.arr (sB A54 n54 c54) 59 3 (i+1) ((ys++[x]).map FV.enc).flatten,.obj b6 (.cells ⟨(YV.mk A49 n49 c49 A54 n54 c54 none 0 0).enc⟩ 53 (0,0)),.obj b5 (.cells ⟨[.slice Ad nd cd]⟩ 29 (0,0))]) (by simp [SV.enc]) ?_
        exact G.ar 0 mup (h_7 0 1 5 6 14 15 16) ⟨A49,n49,c49,A54,n54,c54,trivial,rfl,rfl⟩
      ·refine D.ah [x.enc] (fun p53 C53 hle53 hs53=>?_)
       refine D.ah [[.slice A10 n10 c10]] (fun p48 C48 hle48 hs48=>?_)
       refine D.ak (j:=2) rfl rfl rfl rfl rfl rfl rfl rfl rfl rfl rfl (hs48.mono mup) rfl (by simp only [List.length_singleton,maxLen];omega) (by show (i+1)*24<=_;omega) (fun _=>rfl) (fun A49 n49 c49=>?_)
       refine D.ac ?_
       refine D.ak (j:=3) rfl rfl rfl rfl rfl rfl rfl rfl rfl rfl rfl (hs53.mono mup) rfl (by simp only [List.length_singleton,maxLen];omega) (by show (i+1)*56<=_;omega) (fun _=>rfl) (fun A54 n54 c54=>?_)
       refine D.ag (j:=4) ?_
       refine D.ac ?_
       refine D.ag (j:=0) ?_
       refine D.e7 0 1 5 6 14 15 16 hR ?_
       refine G.perm (L':=[.arr (sA A49 n49 c49) 51 1 (i+1) ((xs.map SV.enc).flatten++[[.slice A10 n10 c10]].flatten),.arr (sB A54 n54 c54) 59 3 (i+1) ((ys.map FV.enc).flatten++[x.enc].flatten),.obj b6 (.cells ⟨(YV.mk A49 n49 c49 A54 n54 c54 none 0 0).enc⟩ 53 (0,0)),.obj b5 (.cells ⟨[.slice Ad nd cd]⟩ 29 (0,0)),.obj b12 (.cells ⟨x.enc⟩ 59 (0,0)),.obj b9 (.cells ⟨r.enc⟩ 27 (0,0))]) (by (refine (aa (j:=2) rfl).trans (List.Perm.cons _ ?_);refine (aa (j:=1) rfl).trans (List.Perm.cons _ ?_);refine (aa (j:=0) rfl).trans (List.Perm.cons _ ?_);refine (aa (j:=2) rfl).trans (List.Perm.cons _ ?_);refine (aa (j:=0) rfl).trans (List.Perm.cons _ ?_);refine (aa (j:=0) rfl).trans (List.Perm.cons _ ?_);exact List.Perm.refl _)) ?_
       refine G.ax 4 rfl ?_
       refine G.ax 4 rfl ?_
       refine G.aJ (L':=[.arr (sA A49 n49 c49) 51 1 (i+1) ((xs++[SV.mk A10 n10 c10]).map SV.enc).flatten,.arr (sB A54 n54 c54) 59 3 (i+1) ((ys++[x]).map FV.enc).flatten,.obj b6 (.cells ⟨(YV.mk A49 n49 c49 A54 n54 c54 none 0 0).enc⟩ 53 (0,0)),.obj b5 (.cells ⟨[.slice Ad nd cd]⟩ 29 (0,0))]) (by simp [SV.enc]) ?_
       exact G.ar 0 mup (h_7 0 1 5 6 14 15 16) ⟨A49,n49,c49,A54,n54,c54,trivial,rfl,rfl⟩
     ·refine D.ah [x.enc] (fun p53 C53 hle53 hs53=>?_)
      refine D.bf hH rfl ⟨?_, ?_,trivial⟩
      ·refine D.ah [[.slice A10 n10 c10]] (fun p48 C48 hle48 hs48=>?_)
       refine D.bf hH rfl ⟨?_, ?_,trivial⟩
       ·refine D.ak (j:=2) rfl rfl rfl rfl rfl rfl rfl rfl rfl rfl rfl (hs48.mono mup) rfl (by simp only [List.length_singleton,maxLen];omega) (by show (i+1)*24<=_;omega) (fun _=>rfl) (fun A49 n49 c49=>?_)
        refine D.ae (.tail _ (.tail _ (.tail _ (.tail _ (.head _))))) ?_
        refine D.ac ?_
        refine D.ak (j:=3) rfl rfl rfl rfl rfl rfl rfl rfl rfl rfl rfl (hs53.mono mup) rfl (by simp only [List.length_singleton,maxLen];omega) (by show (i+1)*56<=_;omega) (fun _=>rfl) (fun A54 n54 c54=>?_)
        refine D.ag (j:=4) ?_
        refine D.ac ?_
        refine D.ag (j:=0) ?_
        refine D.e7 0 1 5 6 14 15 16 hR ?_
        refine G.perm (L':=[.arr (sA A49 n49 c49) 51 1 (i+1) ((xs.map SV.enc).flatten++[[.slice A10 n10 c10]].flatten),.arr (sB A54 n54 c54) 59 3 (i+1) ((ys.map FV.enc).flatten++[x.enc].flatten),.obj b6 (.cells ⟨(YV.mk A49 n49 c49 A54 n54 c54 none 0 0).enc⟩ 53 (0,0)),.obj b5 (.cells ⟨[.slice Ad nd cd]⟩ 29 (0,0)),.obj b12 (.cells ⟨x.enc⟩ 59 (0,0)),.obj b9 (.cells ⟨r.enc⟩ 27 (0,0))]) (by (refine (aa (j:=2) rfl).trans (List.Perm.cons _ ?_);refine (aa (j:=1) rfl).trans (List.Perm.cons _ ?_);refine (aa (j:=0) rfl).trans (List.Perm.cons _ ?_);refine (aa (j:=2) rfl).trans (List.Perm.cons _ ?_);refine (aa (j:=0) rfl).trans (List.Perm.cons _ ?_);refine (aa (j:=0) rfl).trans (List.Perm.cons _ ?_);exact List.Perm.refl _)) ?_
        refine G.ax 4 rfl ?_
        refine G.ax 4 rfl ?_
        refine G.aJ (L':=[.arr (sA A49 n49 c49) 51 1 (i+1) ((xs++[SV.mk A10 n10 c10]).map SV.enc).flatten,.arr (sB A54 n54 c54) 59 3 (i+1) ((ys++[x]).map FV.enc).flatten,.obj b6 (.cells ⟨(YV.mk A49 n49 c49 A54 n54 c54 none 0 0).enc⟩ 53 (0,0)),.obj b5 (.cells ⟨[.slice Ad nd cd]⟩ 29 (0,0))]) (by simp [SV.enc]) ?_
        exact G.ar 0 mup (h_7 0 1 5 6 14 15 16) ⟨A49,n49,c49,A54,n54,c54,trivial,rfl,rfl⟩
       ·refine D.ae (.tail _ (.tail _ (.tail _ (.tail _ (.head _))))) ?_
        refine D.ak (j:=2) rfl rfl rfl rfl rfl rfl rfl rfl rfl rfl rfl (hs48.mono mup) rfl (by simp only [List.length_singleton,maxLen];omega) (by show (i+1)*24<=_;omega) (fun _=>rfl) (fun A49 n49 c49=>?_)
        refine D.ac ?_
        refine D.ak (j:=3) rfl rfl rfl rfl rfl rfl rfl rfl rfl rfl rfl (hs53.mono mup) rfl (by simp only [List.length_singleton,maxLen];omega) (by show (i+1)*56<=_;omega) (fun _=>rfl) (fun A54 n54 c54=>?_)
        refine D.ag (j:=4) ?_
        refine D.ac ?_
        refine D.ag (j:=0) ?_
        refine D.e7 0 1 5 6 14 15 16 hR ?_
        refine G.perm (L':=[.arr (sA A49 n49 c49) 51 1 (i+1) ((xs.map SV.enc).flatten++[[.slice A10 n10 c10]].flatten),.arr (sB A54 n54 c54) 59 3 (i+1) ((ys.map FV.enc).flatten++[x.enc].flatten),.obj b6 (.cells ⟨(YV.mk A49 n49 c49 A54 n54 c54 none 0 0).enc⟩ 53 (0,0)),.obj b5 (.cells ⟨[.slice Ad nd cd]⟩ 29 (0,0)),.obj b12 (.cells ⟨x.enc⟩ 59 (0,0)),.obj b9 (.cells ⟨r.enc⟩ 27 (0,0))]) (by (refine (aa (j:=2) rfl).trans (List.Perm.cons _ ?_);refine (aa (j:=1) rfl).trans (List.Perm.cons _ ?_);refine (aa (j:=0) rfl).trans (List.Perm.cons _ ?_);refine (aa (j:=2) rfl).trans (List.Perm.cons _ ?_);refine (aa (j:=0) rfl).trans (List.Perm.cons _ ?_);refine (aa (j:=0) rfl).trans (List.Perm.cons _ ?_);exact List.Perm.refl _)) ?_
        refine G.ax 4 rfl ?_
        refine G.ax 4 rfl ?_
        refine G.aJ (L':=[.arr (sA A49 n49 c49) 51 1 (i+1) ((xs++[SV.mk A10 n10 c10]).map SV.enc).flatten,.arr (sB A54 n54 c54) 59 3 (i+1) ((ys++[x]).map FV.enc).flatten,.obj b6 (.cells ⟨(YV.mk A49 n49 c49 A54 n54 c54 none 0 0).enc⟩ 53 (0,0)),.obj b5 (.cells ⟨[.slice Ad nd cd]⟩ 29 (0,0))]) (by simp [SV.enc]) ?_
        exact G.ar 0 mup (h_7 0 1 5 6 14 15 16) ⟨A49,n49,c49,A54,n54,c54,trivial,rfl,rfl⟩
      ·refine D.ae (.tail _ (.tail _ (.tail _ (.tail _ (.head _))))) ?_
       refine D.ah [[.slice A10 n10 c10]] (fun p48 C48 hle48 hs48=>?_)
       refine D.ak (j:=2) rfl rfl rfl rfl rfl rfl rfl rfl rfl rfl rfl (hs48.mono mup) rfl (by simp only [List.length_singleton,maxLen];omega) (by show (i+1)*24<=_;omega) (fun _=>rfl) (fun A49 n49 c49=>?_)
       refine D.ac ?_
       refine D.ak (j:=3) rfl rfl rfl rfl rfl rfl rfl rfl rfl rfl rfl (hs53.mono mup) rfl (by simp only [List.length_singleton,maxLen];omega) (by show (i+1)*56<=_;omega) (fun _=>rfl) (fun A54 n54 c54=>?_)
       refine D.ag (j:=4) ?_
       refine D.ac ?_
       refine D.ag (j:=0) ?_
       refine D.e7 0 1 5 6 14 15 16 hR ?_
       refine G.perm (L':=[.arr (sA A49 n49 c49) 51 1 (i+1) ((xs.map SV.enc).flatten++[[.slice A10 n10 c10]].flatten),.arr (sB A54 n54 c54) 59 3 (i+1) ((ys.map FV.enc).flatten++[x.enc].flatten),.obj b6 (.cells ⟨(YV.mk A49 n49 c49 A54 n54 c54 none 0 0).enc⟩ 53 (0,0)),.obj b5 (.cells ⟨[.slice Ad nd cd]⟩ 29 (0,0)),.obj b12 (.cells ⟨x.enc⟩ 59 (0,0)),.obj b9 (.cells ⟨r.enc⟩ 27 (0,0))]) (by (refine (aa (j:=2) rfl).trans (List.Perm.cons _ ?_);refine (aa (j:=1) rfl).trans (List.Perm.cons _ ?_);refine (aa (j:=0) rfl).trans (List.Perm.cons _ ?_);refine (aa (j:=2) rfl).trans (List.Perm.cons _ ?_);refine (aa (j:=0) rfl).trans (List.Perm.cons _ ?_);refine (aa (j:=0) rfl).trans (List.Perm.cons _ ?_);exact List.Perm.refl _)) ?_
       refine G.ax 4 rfl ?_
       refine G.ax 4 rfl ?_
       refine G.aJ (L':=[.arr (sA A49 n49 c49) 51 1 (i+1) ((xs++[SV.mk A10 n10 c10]).map SV.enc).flatten,.arr (sB A54 n54 c54) 59 3 (i+1) ((ys++[x]).map FV.enc).flatten,.obj b6 (.cells ⟨(YV.mk A49 n49 c49 A54 n54 c54 none 0 0).enc⟩ 53 (0,0)),.obj b5 (.cells ⟨[.slice Ad nd cd]⟩ 29 (0,0))]) (by simp [SV.enc]) ?_
       exact G.ar 0 mup (h_7 0 1 5 6 14 15 16) ⟨A49,n49,c49,A54,n54,c54,trivial,rfl,rfl⟩
   obtain ⟨A7,n7,c7,A8,n8,c8,_,rfl,rfl⟩:=hI
   refine G.rg fun R hR=>?_
   refine D.aw _ rfl ?_
   refine D.q7 1 0 1 5 6 14 15 16 hR ?_
   refine G.au (m':=rows.length-(i+1)) (by omega) mup (h_7 0 1 5 6 14 15 16) ⟨i+1,ps++[(f,b)],xs++[SV.mk A10 n10 c10],ys++[x],_,_,_,_,_,_,⟨by omega,by rw [htk,rowsM_snoc,hps,hrm],by rw [List.map_append];exact (hxs.mono mup).snoc ((hf10 f h1).mono mup),by rw [List.map_append];exact (hys.mono mup).snoc (FrC.mono hvf mup),by simp [hxl],by simp [hyl]⟩,rfl,rfl,rfl⟩
 ·have hil:i=rows.length:=by
   have:¬ i<rs.length:=by simpa using h17
   omega
  rw [hil,List.take_length] at hps
  refine G.rp 1 fun R hR=>?_
  refine D.ae (.tail _ (.tail _ (.tail _ (.head _)))) ?_
  refine D.aK (readAll_fn _ _ d (hd.mono mup) hdl hds) (fun v61 C61 hle61 hq61=>?_)
  obtain ⟨A3,n3,c3,rfl,hm⟩:=hq61
  refine D.ps 4 ?_
  refine D.ag (j:=2) ?_
  refine D.q3 1 0 6 7 hR ?_
  have hcf:∀ D,C61.le D->(aD d).isSome=true->Gives cx.P 14 [.slice A3 n3 c3,.func (.func 35) #[] #[]] D (.bool (negD d)):=fun D hle hs=>by
   obtain ⟨ms,hms⟩:=Option.isSome_iff_exists.1 hs
   have:=contNeg ((hm ms hms).mono hle)
   unfold negD
   rw [hms]
   exact this
  refine G.rp 4 fun R hR=>?_
  refine D.ae (.head _) ?_
  refine D.ps 4 ?_
  refine D.ay rfl rfl rfl rfl rfl rfl rfl rfl ?_
  refine D.ps 2 ?_
  refine D.ae (.head _) ?_
  refine D.aP (fun hg=>(by exact hcf _ mup (or_no hg.1))) rfl rfl rfl rfl rfl rfl rfl rfl rfl ?_
  refine D.ay rfl rfl rfl rfl rfl rfl rfl rfl ?_
  refine D.e2 6 79 hR ?_
  refine G.cd (fun h79=>?_) fun h79=>?_
  ·have hno2:bw n rows d=none:=by
    unfold bw
    rw [hps]
    cases hms:aD d with
    | none=>rfl
    | some ms =>
     simp only
     rw [if_neg]
     rintro ⟨e1,e2⟩
     obtain ⟨A,c,e⟩:=(hm ms hms).form
     injection e with e3 e4 e5
     have e6:negD d=false:=by unfold negD;rw [hms];exact e2
     rw [e6,hms,e4,e1,hrl] at h79
     simp at h79
   refine G.rg fun R hR=>?_
   refine D.build (YV.mk none 0 0 none 0 0 none 0 0).enc rfl rfl rfl rfl rfl rfl rfl rfl ?_
   refine D.ag (j:=0) ?_
   refine D.q2 1 6 7 hR ?_
   refine G.aB (G.dg (.head _) rfl rfl rfl rfl rfl ?_)
   exact ⟨rfl,_,by rw [hno2];rfl,fun ps ms h=>by rw [hno2] at h;cases h⟩
  ·obtain ⟨ms,hms⟩:∃ ms,aD d=some ms:=by
    cases hms:aD d with
    | none=>rw [hms] at h79;simp at h79
    | some ms=>exact ⟨ms,rfl⟩
   have hyes:bw n rows d=some (ps,ms):=by
    unfold bw
    rw [hps,hms]
    simp only
    obtain ⟨A,c,e⟩:=(hm ms hms).form
    injection e with e3 e4 e5
    have e6:negD d=(ms.any fun q=>decide (q.num<0)):=by unfold negD;rw [hms]
    rw [hms,e6,e4] at h79
    rw [Bool.or_eq_false_iff,Bool.or_eq_false_iff] at h79
    rw [if_pos]
    refine ⟨?_,h79.2⟩
    have h8:=h79.1.2
    simp at h8
    omega
   refine G.freezeArr 1 (xs.map SV.enc) rfl rfl (by intro r hr;obtain ⟨y,_,rfl⟩:=List.mem_map.1 hr;rfl) (by rw [List.length_map,hxl]) (fun Cf hf hsd=>?_)
   refine G.freezeArr 1 (ys.map FV.enc) rfl rfl (by intro r hr;obtain ⟨y,_,rfl⟩:=List.mem_map.1 hr;rfl) (by rw [List.length_map,hyl]) (fun Cg hg hse=>?_)
   refine G.rg fun R hR=>?_
   refine D.ae (.head _) ?_
   refine D.ag (j:=0) ?_
   refine D.q2 1 6 7 hR ?_
   refine G.aB (G.dg (.head _) rfl rfl rfl rfl rfl ?_)
   refine ⟨rfl,⟨A1,n1,c1,A2,n2,c2,A3,n3,c3⟩,by rw [hyes];rfl,fun ps' ms' h=>?_⟩
   rw [hyes] at h
   cases h
   exact ⟨⟨xs,hsd.mono mup,hxs.mono mup⟩,⟨ys,hse.mono mup,hys.mono mup⟩,(hm ms hms).mono mup⟩

def colR (ps:List (List Rat × Rat))(v:Nat):List Rat:=ps.map fun p=>gQ p.1 v
def sumsR (ps:List (List Rat × Rat))(ms:List Rat)(n:Nat):List Rat:=(List.range n).map fun v=>dotR ms (colR ps v)
theorem sumsR_get {ps:List (List Rat × Rat)}{ms:List Rat}{n v:Nat}(h:v<n):gQ (sumsR ps ms n) v=dotR ms (colR ps v):=by
 unfold gQ sumsR
 rw [List.getD_eq_getElem?_getD,List.getElem?_map,List.getElem?_range h];rfl
theorem gQ_mem {l:List Rat}{i:Nat}(h:i<l.length):gQ l i∈l:=List.mem_of_getElem? (gQ_get h)
def zeroFV:FV:=⟨false,none,0,0,none,0,0⟩
theorem zrow_F (n:Nat):zrow [Value.bool false,.slice none 0 0,.slice none 0 0] n=((List.replicate n zeroFV).map FV.enc).flatten:=by
 rw [bh,List.map_replicate];rfl
def SysSm (k:Nat)(ps:List (List Rat × Rat))(ms:List Rat):Prop:=(∀ p∈ps,(∀ q∈p.1,SmQ k q)/\SmQ k p.2)/\∀ q∈ms,SmQ k q
theorem sums_fn (C:Mem)(hT:Tabs C)(y:YV)(ps:List (List Rat × Rat))(ms:List Rat)(n:Nat)(hy:SysC C y ps ms)(hlen:ms.length=ps.length)(hf:∀ p∈ps,p.1.length=n)(hs:SysSm 200 ps ms)(hl:ps.length<=1000)(hn:n<=1000000) :
  Pur cx.P 13 [.agg ⟨y.enc⟩,.int .i64 n] C fun u D=>∃ (A:Option Addr)(c:Nat)(x:FV),u=.tuple #[.slice A n c,.agg ⟨x.enc⟩]/\FrL D (.slice A n c) (sumsR ps ms n)/\FrC D (.agg ⟨x.enc⟩) (dotR ms (ps.map (·.2))):=by
 obtain ⟨⟨vs,hsv,hvs⟩,hb,hm⟩:=hy
 have hvl:vs.length=ps.length:=by have:=hvs.1;simpa using this
 obtain ⟨Av,cv,hve,_⟩:=id hsv
 have hyn:y.n=vs.length:=by injection hve with e1 e2 e3;simpa using e2
 refine Fn.it (by kernel_rfl) Tryz.func13 46 fun w0=>?_
 refine G.rg fun R hR=>?_
 refine D.box rfl rfl rfl rfl rfl rfl (fun _=>rfl) (fun b2=>?_)
 refine D.ac ?_
 refine D.alloc rfl rfl rfl rfl rfl (fun _=>rfl) (fun b5=>?_)
 refine D.e3 1 2 5 hR ?_
 refine G.rp 1 fun R hR=>?_
 refine D.aS rfl rfl rfl rfl rfl rfl rfl rfl rfl (Nat.le_refl _) (by show 56*n<=281474976710656;omega) (by simp only [maxLen];omega) (fun _=>rfl) (fun b12=>?_)
 refine D.q4 1 1 2 5 6 hR ?_
 refine G.z5 2 2 5 6 13 14 ?_
 refine G.aJ (L':=[.arr (qW b12 n n) 59 3 n ((List.replicate n zeroFV).map FV.enc).flatten,.obj b5 (.cells ⟨zeroFV.enc⟩ 59 (0,0)),.obj b2 (.cells ⟨y.enc⟩ 53 (0,0))]) (by rw [<- zrow_F];rfl) ?_
 refine G.loop (fun fr C' L' μ=>∃ (v:Nat)(o:List FV),(v<=n/\o.length=n/\∀ k x,k<v->o[k]?=some x->FrC C' (.agg ⟨x.enc⟩) (dotR ms (colR ps k)))/\fr=[(2,[],.pointer (some ⟨b2,0,none⟩)),(5,[],.pointer (some ⟨b5,0,none⟩)),(6,[],qW b12 n n),(13,[],.int .i64 n),(14,[],.int .i64 v)]/\L'=[.arr (qW b12 n n) 59 3 n (o.map FV.enc).flatten,.obj b5 (.cells ⟨zeroFV.enc⟩ 59 (0,0)),.obj b2 (.cells ⟨y.enc⟩ 53 (0,0))]/\μ=n-v) (h_5 2 5 6 13 14) ⟨0,List.replicate n zeroFV,⟨Nat.zero_le _,List.length_replicate,fun k x hk=>by omega⟩,rfl,rfl,rfl⟩ (fun fr C0' L0' m hle0 hI=>?_)
 obtain ⟨v,o,⟨hv,hol,ho⟩,rfl,rfl,rfl⟩:=hI
 refine G.z6 1 2 5 6 13 14 15 ?_
 refine G.cd (fun h15=>?_) fun h15=>?_
 ·have hvn:v<n:=by simpa using h15
  refine G.z6 2 2 5 6 7 13 14 ?_
  refine G.z7 1 2 5 6 7 8 13 14 ?_
  refine G.rp 1 fun R hR=>?_
  refine D.ae (.tail _ (.tail _ (.head _))) ?_
  refine D.q10 2 2 5 6 7 8 13 14 18 19 20 hR ?_
  refine G.nilArr 59 3 ?_
  refine G.loop (fun fr C' L' μ=>∃ (i:Nat)(xs:List FV)(w:Value),(i<=ps.length/\RowsF C' xs (colR (ps.take i) v)/\xs.length=i)/\fr=[(2,[],.pointer (some ⟨b2,0,none⟩)),(5,[],.pointer (some ⟨b5,0,none⟩)),(6,[],qW b12 n n),(7,[],.int .i64 v),(8,[],w),(13,[],.int .i64 n),(14,[],.int .i64 v),(18,[],.slice y.A y.n y.c),(19,[],.int .i64 y.n),(20,[],.int .i64 i)]/\L'=[.arr w 59 3 i (xs.map FV.enc).flatten,.arr (qW b12 n n) 59 3 n (o.map FV.enc).flatten,.obj b5 (.cells ⟨zeroFV.enc⟩ 59 (0,0)),.obj b2 (.cells ⟨y.enc⟩ 53 (0,0))]/\μ=ps.length-i) (h_10 2 5 6 7 8 13 14 18 19 20) ⟨0,[],_,⟨Nat.zero_le _,RowsF.nil _,rfl⟩,rfl,rfl,rfl⟩ (fun fr C1' L1' m hle1 hI=>?_)
  obtain ⟨i,xs,w,⟨hi,hxs,hxl⟩,rfl,rfl,rfl⟩:=hI
  refine G.z11 1 2 5 6 7 8 13 14 18 19 20 21 ?_
  refine G.cd (fun h21=>?_) fun h21=>?_
  ·have hil:i<ps.length:=by
    have:(i:Int)<y.n:=by simpa using h21
    omega
   obtain ⟨p,hp⟩:∃ p,ps[i]?=some p:=⟨ps[i],List.getElem?_eq_getElem hil⟩
   obtain ⟨sv,hsv0⟩:∃ sv,vs[i]?=some sv:=⟨vs[i]'(by omega),List.getElem?_eq_getElem _⟩
   have hrow:(vs.map SV.enc)[i]?=some sv.enc:=by rw [List.getElem?_map,hsv0];rfl
   obtain ⟨zs,hzs,hzr⟩:=hvs.2 i sv p.1 hsv0 (by rw [List.getElem?_map,hp];rfl)
   have hpl:=hf p (List.mem_of_getElem? hp)
   obtain ⟨z,hz0,hzrow,hz⟩:=hzr.get (gQ_get (l:=p.1) (i:=v) (by omega))
   refine G.rg fun R hR=>?_
   refine D.ap (hsv.mono mup) rfl rfl rfl rfl rfl rfl rfl rfl rfl rfl (by omega) hrow (fun _=>rfl) (fun p22 hp22=>?_)
   refine D.af hp22 ?_
   refine D.q11 1 2 5 6 7 8 10 13 14 18 19 20 hR ?_
   refine G.rp 3 fun R hR=>?_
   refine D.ap (hzs.mono mup) rfl rfl rfl rfl rfl rfl rfl rfl rfl rfl (by omega) hzrow (fun _=>rfl) (fun p27 hp27=>?_)
   refine D.af hp27 ?_
   refine D.ah [z.enc] (fun p29 C29 hle29 hs29=>?_)
   refine D.append (j:=0) rfl rfl rfl rfl rfl rfl rfl rfl rfl rfl rfl hs29 rfl (by simp only [List.length_singleton,maxLen];omega) (by show (i+1)*56<=_;omega) (fun _=>rfl) (fun v30=>?_)
   refine D.q10 1 2 5 6 7 8 13 14 18 19 20 hR ?_
   refine G.rg fun R hR=>?_
   refine D.aw _ rfl ?_
   refine D.q10 1 2 5 6 7 8 13 14 18 19 20 hR ?_
   refine G.aJ (L':=[.arr v30 59 3 (i+1) ((xs++[z]).map FV.enc).flatten,.arr (qW b12 n n) 59 3 n (o.map FV.enc).flatten,.obj b5 (.cells ⟨zeroFV.enc⟩ 59 (0,0)),.obj b2 (.cells ⟨y.enc⟩ 53 (0,0))]) (by simp) ?_
   refine G.au (m':=ps.length-(i+1)) (by omega) mup (h_10 2 5 6 7 8 13 14 18 19 20) ⟨i+1,xs++[z],v30,⟨by omega,by
    have e:colR (ps.take (i+1)) v=colR (ps.take i) v++[gQ p.1 v]:=by unfold colR;rw [List.take_add_one,hp];simp
    rw [e]
    exact (hxs.mono mup).snoc (hz.mono mup),by simp [hxl]⟩,rfl,rfl,rfl⟩
  ·have hil:i=ps.length:=by
    have:¬ (i:Int)<y.n:=by simpa using h21
    omega
   rw [hil,List.take_length] at hxs
   have hcl:(colR ps v).length=ps.length:=by unfold colR;rw [List.length_map]
   have hcs:∀ q∈colR ps v,SmQ 200 q:=fun q hq=>by
    unfold colR at hq
    obtain ⟨p,hp,rfl⟩:=List.mem_map.1 hq
    exact (hs.1 p hp).1 _ (gQ_mem (by rw [hf p hp];exact hvn))
   refine G.freezeArr 0 (xs.map FV.enc) rfl rfl (by intro r hr;obtain ⟨y,_,rfl⟩:=List.mem_map.1 hr;rfl) (by rw [List.length_map,hxl]) (fun Cf hff hsd=>?_)
   refine G.rp 3 fun R hR=>?_
   refine D.ae (.tail _ (.tail _ (.head _))) ?_
   refine D.ac ?_
   refine D.am (sum_fn _ (hT.mono mup) _ _ ms (colR ps v) 200 200 (hm.mono mup) ⟨xs,hsd,hxs.mono mup⟩ (by omega) hs.2 hcs (by omega)) rfl rfl rfl rfl rfl rfl rfl (fun _=>rfl) (fun v37 C37 hle37 hq37=>?_)
   obtain ⟨x2,rfl⟩:=hq37.fv
   refine D.aZ (v*3) rfl rfl rfl rfl rfl rfl rfl rfl rfl rfl (fun _=>⟨by omega,by omega,rfl⟩) rfl rfl ?_
   refine D.aY (j:=0) rfl rfl rfl rfl rfl rfl rfl rfl rfl rfl rfl (by show v*3+3<=_;rw [br fv_len,hol];omega) ?_
   refine D.e5 2 5 6 13 14 hR ?_
   refine G.rg fun R hR=>?_
   refine D.aw _ rfl ?_
   refine D.q5 1 2 5 6 13 14 hR ?_
   refine G.aJ (L':=[.arr (qW b12 n n) 59 3 n ((o.set v x2).map FV.enc).flatten,.obj b5 (.cells ⟨zeroFV.enc⟩ 59 (0,0)),.obj b2 (.cells ⟨y.enc⟩ 53 (0,0))]) (by rw [<- bj fv_len _ (by omega:v<o.length)];rfl) ?_
   refine G.au (m':=n-(v+1)) (by omega) mup (h_5 2 5 6 13 14) ⟨v+1,o.set v x2,⟨by omega,by simp [hol],fun k x hk hx=>by
    by_cases hkv:v=k
    ·subst hkv
     rw [List.getElem?_set_self (by omega)] at hx
     cases hx
     exact hq37.mono mup
    ·rw [List.getElem?_set_ne hkv] at hx
     exact (ho k x (by omega) hx).mono mup⟩,rfl,rfl,rfl⟩
 ·have hvn:v=n:=by
   have:¬ v<n:=by simpa using h15
   omega
  refine G.rp 2 fun R hR=>?_
  refine D.ae (.tail _ (.tail _ (.head _))) ?_
  refine D.ac ?_
  refine D.ae (.tail _ (.tail _ (.head _))) ?_
  refine D.am (sum_fn _ (hT.mono mup) _ _ ms (ps.map (·.2)) 200 200 (hm.mono mup) (hb.mono mup) (by simp [hlen]) hs.2 (fun q hq=>by obtain ⟨p,hp,rfl⟩:=List.mem_map.1 hq;exact (hs.1 p hp).2) (by omega)) rfl rfl rfl rfl rfl rfl rfl (fun _=>rfl) (fun v45 C45 hle45 hq45=>?_)
  obtain ⟨x2,rfl⟩:=hq45.fv
  refine D.ac ?_
  refine D.ag (j:=1) ?_
  refine D.e2 4 5 hR ?_
  refine G.freezeArr 1 (o.map FV.enc) rfl rfl (by intro r hr;obtain ⟨y,_,rfl⟩:=List.mem_map.1 hr;rfl) (by rw [List.length_map,hol]) (fun Cf hff hsd=>?_)
  refine G.aB (G.finC3 (.head _) rfl rfl rfl rfl rfl ?_)
  refine ⟨rfl,_,_,x2,rfl,⟨o,hsd,by rw [hol];simp [sumsR],fun i x q hi hq=>?_⟩,hq45.mono mup⟩
  have hin:i<n:=by rw [<- hol];exact (List.getElem?_eq_some_iff.1 hi).1
  unfold sumsR at hq
  rw [List.getElem?_map,List.getElem?_range hin] at hq
  cases hq
  exact (ho i x (by omega) hi).mono mup

def optM (rows:List (List Str × Str))(obj pt d:List Str):Bool :=
 match aD obj,aD pt,bw (obj.length:Int) rows d with
 | some c,some x,some (ps,ms)=>decide (x.length=c.length) && ps.all (fun p=>decide (sgn (dotR p.1 x-p.2)<=0)) && ((List.range c.length).all fun v=>sgn (dotR ms (colR ps v)+gQ c v) == 0) && sgn (dotR ms (ps.map (·.2))+dotR c x) == 0
 | _,_,_=>false
theorem rowsM_ok {n:Int}:∀ {l:List (List Str × Str)}{ps:List (List Rat × Rat)},bC n l=some ps->ps.length=l.length/\∀ p∈ps,(p.1.length:Int)=n/\(∀ q∈p.1,SmQ 200 q)/\SmQ 200 p.2
 | [],ps,h=>by simp only [bC,Option.some.injEq] at h;subst h;exact ⟨rfl,by simp⟩
 | a::l,ps,h=>by
  simp only [bC] at h
  cases ha:rowM n a with
  | none=>rw [ha] at h;cases h
  | some q =>
   cases hl:bC n l with
   | none=>rw [ha,hl] at h;cases h
   | some qs =>
    rw [ha,hl] at h
    simp only [Option.some.injEq] at h
    subst h
    obtain ⟨h1,h2⟩:=rowsM_ok hl
    refine ⟨by simp [h1],fun p hp=>?_⟩
    rcases List.mem_cons.1 hp with rfl | hp
    ·unfold rowM at ha
     cases hr:aD a.1 with
     | none=>rw [hr] at ha;cases ha
     | some f =>
      cases hb:a6 a.2 with
      | none=>rw [hr,hb] at ha;cases ha
      | some b =>
       rw [hr,hb] at ha
       simp only at ha
       split at ha
       ·cases ha
        rename_i hn
        exact ⟨hn,readsM_sm hr,readM_sm hb⟩
       ·cases ha
    ·exact h2 p hp
theorem openM_ok {n:Int}{rows:List (List Str × Str)}{d:List Str}{ps:List (List Rat × Rat)}{ms:List Rat}(h:bw n rows d=some (ps,ms)):ps.length=rows.length/\ms.length=rows.length/\SysSm 200 ps ms/\∀ p∈ps,(p.1.length:Int)=n:=by
 unfold bw at h
 cases hr:bC n rows with
 | none=>rw [hr] at h;cases h
 | some qs =>
  cases hd:aD d with
  | none=>rw [hr,hd] at h;cases h
  | some ns =>
   rw [hr,hd] at h
   simp only at h
   split at h
   ·cases h
    rename_i hc
    obtain ⟨h1,h2⟩:=rowsM_ok hr
    exact ⟨h1,hc.1,⟨fun p hp=>(h2 p hp).2,readsM_sm hd⟩,fun p hp=>(h2 p hp).1⟩
   ·cases h
theorem optimal_fn (C:Mem)(hT:Tabs C)(v vo vp:Value)(Ad:Option Addr)(nd cd:Nat)(rows:List (List Str × Str))(obj pt d:List Str)(hv:RowsIn C v rows)(ho:Sl C 1 vo (obj.map encS))(hp:Sl C 1 vp (pt.map encS))(hd:Sl C 1 (.slice Ad nd cd) (d.map encS))(hl:rows.length<=1000)(hf:∀ r∈rows,r.1.length<=1000000/\(∀ s∈r.1,s.length<1000000)/\r.2.length<1000000)(hol:obj.length<=1000)(hos:∀ s∈obj,s.length<1000000)(hpl:pt.length<=1000000)(hps:∀ s∈pt,s.length<1000000)(hdl:d.length<=1000000)(hds:∀ s∈d,s.length<1000000) :
  Gives cx.P 10 [v,vo,vp,.agg ⟨[.slice Ad nd cd]⟩] C (.bool (optM rows obj pt d)):=by
 obtain ⟨Ao,co,rfl,hox,hox2,_⟩:=id ho
 have hmx:maxLen<=9223372036854775807:=by simp [maxLen]
 simp only [List.length_map] at ho hox hox2 ⊢
 refine Fn.it (by kernel_rfl) Tryz.func10 105 fun w0=>?_
 refine G.rg fun R hR=>?_
 refine D.box rfl rfl rfl rfl rfl rfl (fun _=>rfl) (fun b7=>?_)
 refine D.q4 1 0 1 2 7 hR ?_;clear hR R
 refine G.rp 1 fun R hR=>?_
 refine D.am (readAll_fn _ _ obj (ho.mono mup) (by omega) hos) rfl rfl rfl rfl rfl rfl rfl (fun _=>rfl) (fun v22 C22 hle22 hq22=>?_)
 obtain ⟨Ac,nc,cc,rfl,hc⟩:=hq22
 refine D.q6 5 0 1 2 7 9 10 hR ?_;clear hR R
 refine G.rp 1 fun R hR=>?_
 refine D.aK (readAll_fn _ _ pt (hp.mono mup) hpl hps) (fun v27 C27 hle27 hq27=>?_)
 obtain ⟨Ax,nx,cx2,rfl,hx⟩:=hq27
 refine D.q7 5 0 1 7 9 10 11 12 hR ?_;clear hR R
 refine G.rp 3 fun R hR=>?_
 refine D.ae (.head _) ?_
 refine D.am (copen_fn _ _ (obj.length:Int) Ad nd cd rows d (hv.mono mup) (hd.mono mup) (by omega) hf hdl hds) rfl rfl rfl rfl rfl rfl rfl (fun _=>rfl) (fun v35 C35 hle35 hq35=>?_)
 obtain ⟨y,rfl,hy⟩:=hq35
 refine D.ps 3 ?_
 refine D.alloc rfl rfl rfl rfl rfl (fun _=>rfl) (fun b13=>?_)
 refine D.ag (j:=0) ?_
 refine D.q6 1 9 10 11 12 13 14 hR ?_;clear hR R
 refine G.rp 5 fun R hR=>?_
 refine D.ay rfl rfl rfl rfl rfl rfl rfl rfl ?_
 refine D.ps 3 ?_
 refine D.ay rfl rfl rfl rfl rfl rfl rfl rfl ?_
 refine D.ps 6 ?_
 refine D.ay rfl rfl rfl rfl rfl rfl rfl rfl ?_
 refine D.e4 9 11 13 54 hR ?_;clear hR R
 refine G.cd (fun h54=>?_) fun h54=>?_
 ·have hno:optM rows obj pt d=false:=by
   unfold optM
   cases h1:aD obj with
   | none=>rfl
   | some cs =>
    cases h2:aD pt with
    | none=>rfl
    | some zs =>
     cases h3:bw (obj.length:Int) rows d with
     | none=>rfl
     | some pm =>
      obtain ⟨ps,ms⟩:=pm
      obtain ⟨_,_,e⟩:=(hc cs h1).form
      injection e with e1 e2 e3
      obtain ⟨_,_,e'⟩:=(hx zs h2).form
      injection e' with e1' e2' e3'
      rw [h1,h2,h3,e2,e2'] at h54
      have h4:¬ zs.length=cs.length:=by simpa [Int.ofNat_inj] using h54
      simp [h4]
  refine G.z1 1 8 ?_
  refine G.rf ?_
  exact ⟨by rw [hno],rfl⟩
 ·obtain ⟨cs,zs,ps,ms,h1,h2,h3,h4⟩:∃ cs zs ps ms,aD obj=some cs/\aD pt=some zs/\bw (obj.length:Int) rows d=some (ps,ms)/\(nx:Int)=nc:=by
   cases h1:aD obj with
   | none=>rw [h1] at h54;simp at h54
   | some cs =>
    cases h2:aD pt with
    | none=>rw [h1,h2] at h54;simp at h54
    | some zs =>
     cases h3:bw (obj.length:Int) rows d with
     | none=>rw [h1,h2,h3] at h54;simp at h54
     | some pm =>
      obtain ⟨ps,ms⟩:=pm
      refine ⟨cs,zs,ps,ms,rfl,rfl,rfl, ?_⟩
      rw [h1,h2,h3] at h54
      simpa using h54
  have hcL:=hc cs h1
  have hxL:=hx zs h2
  obtain ⟨⟨vs,hsv,hvs⟩,hb,hm⟩:=hy ps ms h3
  have hsys:=hy ps ms h3
  obtain ⟨_,_,e⟩:=hcL.form
  injection e with e1 e2 e3
  obtain ⟨_,_,e'⟩:=hxL.form
  injection e' with e1' e2' e3'
  subst e2 e2'
  have hcl:=readsM_len h1
  obtain ⟨hpsl,hmsl,hsm,hpn⟩:=openM_ok h3
  have hvl:vs.length=ps.length:=by have:=hvs.1;simpa using this
  obtain ⟨Av,cv,hve,_⟩:=id hsv
  have hyn:y.n=vs.length:=by injection hve with e1 e2 e3;simpa using e2
  have hzsm:=readsM_sm h2
  have hcsm:=readsM_sm h1
  have hzc:zs.length=cs.length:=by omega
  obtain ⟨bs,hbs,hbr⟩:=hb
  have hopt:optM rows obj pt d=(decide (zs.length=cs.length) && ps.all (fun p=>decide (sgn (dotR p.1 zs-p.2)<=0)) && ((List.range cs.length).all fun v=>sgn (dotR ms (colR ps v)+gQ cs v) == 0) && sgn (dotR ms (ps.map (·.2))+dotR cs zs) == 0):=by
   unfold optM;rw [h1,h2,h3]
  refine G.rp 1 fun R hR=>?_
  refine D.ae (.head _) ?_
  refine D.q6 2 9 11 13 56 57 58 hR ?_;clear hR R
  refine G.loop (fun fr C' L' μ=>∃ (i:Nat),(i<=ps.length/\∀ p∈ps.take i,sgn (dotR p.1 zs-p.2)<=0)/\fr=[(9,[],.slice Ac cs.length cc),(11,[],.slice Ax zs.length cx2),(13,[],.pointer (some ⟨b13,0,none⟩)),(56,[],.slice y.A y.n y.c),(57,[],.int .i64 y.n),(58,[],.int .i64 i)]/\L'=[.obj b13 (.cells ⟨y.enc⟩ 53 (0,0)),.obj b7 (.cells ⟨[.slice Ad nd cd]⟩ 29 (0,0))]/\μ=ps.length-i) (h_6 9 11 13 56 57 58) ⟨0,⟨Nat.zero_le _,by simp⟩,rfl,rfl,rfl⟩ (fun fr C0' L0' m hle0 hI=>?_)
  obtain ⟨i,⟨hi,hall⟩,rfl,rfl,rfl⟩:=hI
  refine G.z7 1 9 11 13 56 57 58 59 ?_
  refine G.cd (fun h59=>?_) fun h59=>?_
  ·have hil:i<ps.length:=by
    have:(i:Int)<y.n:=by simpa using h59
    omega
   obtain ⟨p,hp0⟩:∃ p,ps[i]?=some p:=⟨ps[i],List.getElem?_eq_getElem hil⟩
   have hpm:=List.mem_of_getElem? hp0
   obtain ⟨sv,hsv0⟩:∃ sv,vs[i]?=some sv:=⟨vs[i]'(by omega),List.getElem?_eq_getElem _⟩
   have hrow:(vs.map SV.enc)[i]?=some sv.enc:=by rw [List.getElem?_map,hsv0];rfl
   have hfL:=hvs.2 i sv p.1 hsv0 (by rw [List.getElem?_map,hp0];rfl)
   obtain ⟨bx,hb0,hbrow,hbF⟩:=hbr.get (i:=i) (q:=p.2) (by rw [List.getElem?_map,hp0];rfl)
   have hpl:p.1.length=obj.length:=by have:=hpn p hpm;omega
   have hds1:SmQ 401001 (dotR p.1 zs):=(dotN_sm (hsm.1 p hpm).1 hzsm (by omega) _ (Nat.le_refl _)).le (by omega)
   refine G.rp 1 fun R hR=>?_
   refine D.ap (hsv.mono mup) rfl rfl rfl rfl rfl rfl rfl rfl rfl rfl (by omega) hrow (fun _=>rfl) (fun p61 hp61=>?_)
   refine D.af hp61 ?_
   refine D.q8 2 9 11 13 15 16 56 57 58 hR ?_;clear hR R
   refine G.aR [0,1,3,4,5,6,7,2,8,9] [] rfl (by kernel_rfl) (fun R hB hR=>?_)
   refine D.ps 3 ?_
   refine D.ae (.head _) ?_
   refine D.ac ?_
   refine D.ap (hbs.mono mup) rfl rfl rfl rfl rfl rfl rfl rfl rfl rfl (by omega) hbrow (fun _=>rfl) (fun p69 hp69=>?_)
   refine D.af hp69 ?_
   refine D.am (sum_fn _ (hT.mono mup) _ _ p.1 zs 200 200 (hfL.mono mup) (hxL.mono mup) (by omega) (hsm.1 p hpm).1 hzsm (by omega)) rfl rfl rfl rfl rfl rfl rfl (fun _=>rfl) (fun v65 C65 hle65 hq65=>?_)
   refine D.am (fcmp_fn (hq65.mono mup) (hbF.mono mup) hds1 (hsm.1 p hpm).2 (by omega)) rfl rfl rfl rfl rfl rfl rfl (fun _=>rfl) (fun v71 C71 hle71 hq71=>?_)
   obtain rfl:=hq71
   refine D.ac ?_
   refine D.e7 9 11 13 56 57 58 72 hR ?_;clear hR hB R
   refine G.cd (fun h72=>?_) fun h72=>?_
   ·have hno:optM rows obj pt d=false:=by
     have h5:0<sgn (dotR p.1 zs-p.2):=by simpa using h72
     have h6:(ps.all fun p=>decide (sgn (dotR p.1 zs-p.2)<=0))=false:=by
      rw [List.all_eq_false]
      refine ⟨p,hpm, ?_⟩
      simp;omega
     rw [hopt,h6];simp
    refine G.z1 1 8 ?_
    refine G.rf ?_
    exact ⟨by rw [hno],rfl⟩
   ·have h5:sgn (dotR p.1 zs-p.2)<=0:=by
     have:¬ 0<sgn (dotR p.1 zs-p.2):=by simpa using h72
     omega
    refine G.rg fun R hR=>?_
    refine D.aw _ rfl ?_
    refine D.q6 1 9 11 13 56 57 58 hR ?_;clear hR R
    refine G.au (m':=ps.length-(i+1)) (by omega) mup (h_6 9 11 13 56 57 58) ⟨i+1,⟨by omega,fun x hx=>by
     rw [List.take_add_one,hp0] at hx
     rcases List.mem_append.1 hx with h6 | h6
     ·exact hall x h6
     ·simp at h6;subst h6;exact h5⟩,rfl,rfl,rfl⟩
  ·have hil:ps.length<=i:=by
    have:¬ (i:Int)<y.n:=by simpa using h59
    omega
   rw [List.take_of_length_le hil] at hall
   have hA:(ps.all fun p=>decide (sgn (dotR p.1 zs-p.2)<=0))=true:=by
    rw [List.all_eq_true];exact fun p hp=>by simpa using hall p hp
   refine G.rg fun R hR=>?_
   refine D.ae (.head _) ?_
   refine D.ps 2 ?_
   refine D.am (sums_fn _ (hT.mono mup) y ps ms cs.length (by obtain ⟨⟨vs',a1,a2⟩,a3,a4⟩:=hsys;exact ⟨⟨vs',a1.mono mup,a2.mono mup⟩,a3.mono mup,a4.mono mup⟩) (by omega) (fun p hp=>by have:=hpn p hp;omega) hsm (by omega) (by omega)) rfl rfl rfl rfl rfl rfl rfl (fun _=>rfl) (fun v78 C78 hle78 hq78=>?_)
   obtain ⟨As,c8,x8,rfl,⟨ws,hws,hwr⟩,hworth⟩:=hq78
   refine D.ps 3 ?_
   refine D.alloc rfl rfl rfl rfl rfl (fun _=>rfl) (fun b18=>?_)
   refine D.ac ?_
   refine D.ag (j:=0) ?_
   refine D.e4 9 11 17 18 hR ?_;clear hR R
   refine G.z6 3 9 11 17 18 82 83 ?_
   refine G.loop (fun fr C' L' μ=>∃ (i:Nat),(i<=cs.length/\∀ v,v<i->sgn (dotR ms (colR ps v)+gQ cs v)=0)/\fr=[(9,[],.slice Ac cs.length cc),(11,[],.slice Ax zs.length cx2),(17,[],.slice As cs.length c8),(18,[],.pointer (some ⟨b18,0,none⟩)),(82,[],.int .i64 cs.length),(83,[],.int .i64 i)]/\L'=[.obj b18 (.cells ⟨x8.enc⟩ 59 (0,0)),.obj b13 (.cells ⟨y.enc⟩ 53 (0,0)),.obj b7 (.cells ⟨[.slice Ad nd cd]⟩ 29 (0,0))]/\μ=cs.length-i) (h_6 9 11 17 18 82 83) ⟨0,⟨Nat.zero_le _,fun v hv=>by omega⟩,rfl,rfl,rfl⟩ (fun fr C1' L1' m hle1 hI=>?_)
   obtain ⟨i,⟨hj,hcol⟩,rfl,rfl,rfl⟩:=hI
   refine G.z7 1 9 11 17 18 82 83 84 ?_
   refine G.cd (fun h84=>?_) fun h84=>?_
   ·have hjl:i<cs.length:=by simpa using h84
    have hsl:(sumsR ps ms cs.length).length=cs.length:=by simp [sumsR]
    obtain ⟨w1,hw0,hwrow,hwF⟩:=hwr.get (gQ_get (l:=sumsR ps ms cs.length) (i:=i) (by omega))
    rw [sumsR_get hjl] at hwF
    obtain ⟨ds,hdsS,hdr⟩:=hcL
    obtain ⟨w2,hw20,hw2row,hw2F⟩:=hdr.get (gQ_get hjl)
    have hcolS:∀ q∈colR ps i,SmQ 200 q:=fun q hq=>by
     unfold colR at hq
     obtain ⟨p,hp,rfl⟩:=List.mem_map.1 hq
     exact (hsm.1 p hp).1 _ (gQ_mem (by have:=hpn p hp;omega))
    have hds2:SmQ 401001 (dotR ms (colR ps i)):=(dotN_sm hsm.2 hcolS (by unfold colR;rw [List.length_map];omega) _ (Nat.le_refl _)).le (by omega)
    refine G.z7 2 9 11 17 18 19 82 83 ?_
    refine G.aR [0,1,2,3,4,5,6,7,8,9,10] [(9,1)] rfl (by kernel_rfl) (fun R hB hR=>?_)
    refine D.ps 2 ?_
    refine D.ap (hws.mono mup) rfl rfl rfl rfl rfl rfl rfl rfl rfl rfl (by omega) hwrow (fun _=>rfl) (fun p88 hp88=>?_)
    refine D.af hp88 ?_
    refine D.ps 2 ?_
    refine D.ap (hdsS.mono mup) rfl rfl rfl rfl rfl rfl rfl rfl rfl rfl (by omega) hw2row (fun _=>rfl) (fun p92 hp92=>?_)
    refine D.af hp92 ?_
    refine D.am (fadd_fn (hwF.mono mup) (hw2F.mono mup) hds2 (hcsm _ (gQ_mem hjl)) (by omega)) rfl rfl rfl rfl rfl rfl rfl (fun _=>rfl) (fun v94 C94 hle94 hq94=>?_)
    refine D.aP (fun _=>(sign_fn hq94)) rfl rfl rfl rfl rfl rfl rfl rfl rfl ?_
    refine D.ac ?_
    refine D.e7 9 11 17 18 82 83 96 hR ?_;clear hR hB R
    refine G.cd (fun h96=>?_) fun h96=>?_
    ·have hno:optM rows obj pt d=false:=by
      have h5:¬ sgn (dotR ms (colR ps i)+gQ cs i)=0:=by simpa using h96
      have h6:((List.range cs.length).all fun v=>sgn (dotR ms (colR ps v)+gQ cs v) == 0)=false:=by
       rw [List.all_eq_false]
       exact ⟨i,List.mem_range.2 hjl,by simpa using h5⟩
      rw [hopt,h6];simp
     refine G.z1 1 8 ?_
     refine G.rf ?_
     exact ⟨by rw [hno],rfl⟩
    ·have h5:sgn (dotR ms (colR ps i)+gQ cs i)=0:=by simpa using h96
     refine G.rg fun R hR=>?_
     refine D.aw _ rfl ?_
     refine D.q6 1 9 11 17 18 82 83 hR ?_;clear hR R
     refine G.au (m':=cs.length-(i+1)) (by omega) mup (h_6 9 11 17 18 82 83) ⟨i+1,⟨by omega,fun v hv=>by
      by_cases hvi:v=i
      ·rw [hvi];exact h5
      ·exact hcol v (by omega)⟩,rfl,rfl,rfl⟩
   ·have hjl:i=cs.length:=by
     have:¬ i<cs.length:=by simpa using h84
     omega
    have hB:((List.range cs.length).all fun v=>sgn (dotR ms (colR ps v)+gQ cs v) == 0)=true:=by
     rw [List.all_eq_true]
     intro v hv
     have:=hcol v (by rw [hjl];exact List.mem_range.1 hv)
     simpa using this
    have hbss:∀ q∈ps.map (·.2),SmQ 200 q:=fun q hq=>by obtain ⟨p,hp,rfl⟩:=List.mem_map.1 hq;exact (hsm.1 p hp).2
    have hds3:SmQ 401001 (dotR ms (ps.map (·.2))):=(dotN_sm hsm.2 hbss (by rw [List.length_map];omega) _ (Nat.le_refl _)).le (by omega)
    have hds4:SmQ 401001 (dotR cs zs):=(dotN_sm hcsm hzsm (by omega) _ (Nat.le_refl _)).le (by omega)
    refine G.aR [0,1,2,3,4,5,6,7] [(5,1)] rfl (by kernel_rfl) (fun R hB hR=>?_)
    refine D.ae (.head _) ?_
    refine D.ps 2 ?_
    refine D.am (sum_fn _ (hT.mono mup) _ _ cs zs 200 200 (hcL.mono mup) (hxL.mono mup) (by omega) hcsm hzsm (by omega)) rfl rfl rfl rfl rfl rfl rfl (fun _=>rfl) (fun v101 C101 hle101 hq101=>?_)
    refine D.am (fadd_fn (hworth.mono mup) (hq101.mono mup) hds3 hds4 (by omega)) rfl rfl rfl rfl rfl rfl rfl (fun _=>rfl) (fun v102 C102 hle102 hq102=>?_)
    refine D.aP (fun _=>(sign_fn hq102)) rfl rfl rfl rfl rfl rfl rfl rfl rfl ?_
    refine D.ps 2 ?_
    refine D.e1 8 hR ?_;clear hR hB R
    refine G.rf ?_
    refine ⟨?_,rfl⟩
    rw [hopt,hA,hB]
    simp [hzc]

theorem frC_parts {C:Mem}{x:FV}{q:Rat}(h:FrC C (.agg ⟨x.enc⟩) q):x.b=decide (q.num<0)/\(x.n=0 ↔ sgn q=0):=by
 obtain ⟨u,w,e,hu,_⟩:=h
 simp only [FV.enc,encF,Value.agg.injEq,Array.mk.injEq,List.cons.injEq,Value.bool.injEq,and_true] at e
 obtain ⟨e1,e2,_⟩:=e
 obtain ⟨A,k,c,e3,e4,_⟩:=NatC.form hu
 rw [<- e2] at e3
 simp only [Value.slice.injEq] at e3
 refine ⟨e1, ?_⟩
 rw [e3.2.1,e4]
 have hz:q.num=0 ↔ q=0:=Rat.num_eq_zero
 unfold sgn
 constructor
 ·intro h
  have:q=0:=hz.1 (by omega)
  rw [this];decide
 ·intro h
  have:q=0:=by
   by_cases h1:q<0
   ·rw [if_pos h1] at h;cases h
   ·rw [if_neg h1] at h
    by_cases h2:q=0
    ·exact h2
    ·rw [if_neg h2] at h;cases h
  rw [this];decide
theorem cref1_fn (C:Mem)(x:FV)(q:Rat)(h:FrC C (.agg ⟨x.enc⟩) q):Gives cx.P 15 [.agg ⟨x.enc⟩] C (.bool (!decide (x.n=0))):=by
 have hz:decide (x.n=0)=decide (sgn q=0):=by rw [decide_eq_decide];exact (frC_parts h).2
 rw [hz]
 refine Fn.it (by kernel_rfl) Tryz.func15 6 fun w0=>?_
 refine G.rg fun R hR=>?_
 refine D.box rfl rfl rfl rfl rfl rfl (fun _=>rfl) (fun b1=>?_)
 refine D.q1 1 1 hR ?_
 refine G.freeze 0 rfl (fun C1 hle1 hb1=>?_)
 refine G.rg fun R hR=>?_
 refine D.af (bkT hb1 3) ?_
 refine D.ai (sign_fn (h.mono mup)) ?_
 refine D.q1 2 2 hR ?_
 refine G.rf ?_
 exact ⟨by rfl,rfl⟩
theorem canyNz_fn (C:Mem)(v:Value)(qs:List Rat)(h:FrL C v qs) :
  Gives cx.P 14 [v,.func (.func 15) #[] #[]] C (.bool (qs.any fun q=>!decide (sgn q=0))):=by
 obtain ⟨xs,h1,h2⟩:=h
 have key:∀ (i:Nat)(x:FV),xs[i]?=some x->∃ q,qs[i]?=some q/\FrC C (.agg ⟨x.enc⟩) q:=fun i x hx=>by
  have hi:=(List.getElem?_eq_some_iff.1 hx).1
  have hi2:i<qs.length:=by rw [<- h2.1];exact hi
  exact ⟨qs[i],List.getElem?_eq_getElem hi2,h2.2 i x qs[i] hx (List.getElem?_eq_getElem hi2)⟩
 have hc:=contFr_fn C v xs 15 [] (fun x=>!decide (x.n=0)) h1 (fun x hx D hD=>by
  obtain ⟨i,hi⟩:=List.getElem?_of_mem hx
  obtain ⟨q,_,hq⟩:=key i x hi
  exact cref1_fn D x q (hq.mono hD))
 have e:(xs.any fun x=>!decide (x.n=0))=qs.any fun q=>!decide (sgn q=0):=by
  rw [Bool.eq_iff_iff,List.any_eq_true,List.any_eq_true]
  constructor
  ·rintro ⟨x,hx,h3⟩
   obtain ⟨i,hi⟩:=List.getElem?_of_mem hx
   obtain ⟨q,hq,hf⟩:=key i x hi
   refine ⟨q,List.mem_of_getElem? hq, ?_⟩
   have hz:decide (x.n=0)=decide (sgn q=0):=by rw [decide_eq_decide];exact (frC_parts hf).2
   rw [<- hz];exact h3
  ·rintro ⟨q,hq,h3⟩
   obtain ⟨i,hi⟩:=List.getElem?_of_mem hq
   have hil:=(List.getElem?_eq_some_iff.1 hi).1
   have hi2:i<xs.length:=by rw [h2.1];exact hil
   have hf:=h2.2 i xs[i] q (List.getElem?_eq_getElem hi2) hi
   refine ⟨xs[i],List.getElem_mem _, ?_⟩
   have hz:decide (xs[i].n=0)=decide (sgn q=0):=by rw [decide_eq_decide];exact (frC_parts hf).2
   rw [hz];exact h3
 rw [e] at hc
 exact hc
theorem rowsM_in {n:Int}:∀ {l:List (List Str × Str)}{ps:List (List Rat × Rat)},bC n l=some ps->∀ p∈ps,∃ r∈l,rowM n r=some p
 | [],ps,h,p,hp=>by cases h;cases hp
 | s::l,ps,h,p,hp=>by
  simp only [bC] at h
  cases h1:rowM n s with
  | none=>rw [h1] at h;cases h
  | some q =>
   cases h2:bC n l with
   | none=>rw [h1,h2] at h;cases h
   | some qs =>
    rw [h1,h2] at h
    cases h
    rcases List.mem_cons.1 hp with rfl | hp
    ·exact ⟨s,List.mem_cons_self,h1⟩
    ·obtain ⟨r,hr,e⟩:=rowsM_in h2 p hp
     exact ⟨r,List.mem_cons_of_mem _ hr,e⟩
theorem openM_parts {n:Int}{rows:List (List Str × Str)}{d:List Str}{ps:List (List Rat × Rat)}{ms:List Rat}(h:bw n rows d=some (ps,ms)):bC n rows=some ps/\aD d=some ms/\ms.length=rows.length/\ms.any (fun q=>decide (q.num<0))=false:=by
 unfold bw at h
 cases h1:bC n rows with
 | none=>rw [h1] at h;cases h
 | some qs =>
  cases h2:aD d with
  | none=>rw [h1,h2] at h;cases h
  | some ns =>
   rw [h1,h2] at h
   simp only at h
   split at h
   ·rename_i h3
    cases h
    exact ⟨rfl,rfl,h3⟩
   ·cases h
theorem rowM_len {n:Int}{r:List Str × Str}{p:List Rat × Rat}(h:rowM n r=some p):p.1.length=r.1.length:=by
 unfold rowM at h
 cases h1:aD r.1 with
 | none=>rw [h1] at h;cases h
 | some f =>
  cases h2:a6 r.2 with
  | none=>rw [h1,h2] at h;cases h
  | some b =>
   rw [h1,h2] at h
   simp only at h
   split at h
   ·cases h;exact readsM_len h1
   ·cases h
def refC (n:Int)(rows:List (List Str × Str))(d:List Str):Bool:=!decide (n<0) && !decide (rows.length=0) && (match bw n rows d with
 | none=>false
 | some (ps,ms)=>decide ((dotR ms (ps.map (·.2))).num<0) && !((sumsR ps ms n.toNat).any fun q=>!decide (sgn q=0)))
theorem crefutes_fn (C:Mem)(hT:Tabs C)(v:Value)(n:Int)(Ad:Option Addr)(nd cd:Nat)(rows:List (List Str × Str))(d:List Str)(hv:RowsIn C v rows)(hd:Sl C 1 (.slice Ad nd cd) (d.map encS))(hl:rows.length<=1000)(hf:∀ r∈rows,r.1.length<=1000000/\(∀ s∈r.1,s.length<1000000)/\r.2.length<1000000)(hdl:d.length<=1000000)(hds:∀ s∈d,s.length<1000000) :
  Gives cx.P 5 [v,.int .i64 n,.agg ⟨[.slice Ad nd cd]⟩] C (.bool (refC n rows d)):=by
 have hv0:=hv
 obtain ⟨rs,hsv,hrl,hrs⟩:=hv
 obtain ⟨A0,c0,rfl,hlx,hlx2,_⟩:=id hsv
 have hmx:maxLen<=9223372036854775807:=by simp [maxLen]
 simp only [List.length_map] at hsv hlx hlx2 hv0 ⊢
 refine Fn.it (by kernel_rfl) Tryz.func5 40 fun w0=>?_
 refine G.rg fun R hR=>?_
 refine D.box rfl rfl rfl rfl rfl rfl (fun _=>rfl) (fun b5=>?_)
 refine D.q3 1 0 1 5 hR ?_;clear hR R
 refine G.freeze 0 rfl (fun C1 hle1 hb1=>?_)
 refine G.rp 6 fun R hR=>?_
 refine D.ay rfl rfl rfl rfl rfl rfl rfl rfl ?_
 refine D.e4 0 1 5 17 hR ?_;clear hR R
 refine G.cd (fun h17=>?_) fun h17=>?_
 ·have hc:n<0∨rows.length=0:=by
   simp only [Bool.or_eq_true,decide_eq_true_eq,beq_iff_eq] at h17
   omega
  refine G.z1 1 6 ?_
  refine G.rf ?_
  exact ⟨by unfold refC;rcases hc with hc | hc <;> simp [hc],rfl⟩
 ·have hc:¬ n<0/\¬ rows.length=0:=by
   simp only [Bool.or_eq_false_iff,decide_eq_false_iff_not,beq_eq_false_iff_ne] at h17
   omega
  have hR:refC n rows d=(match bw n rows d with
   | none=>false
   | some (ps,ms)=>decide ((dotR ms (ps.map (·.2))).num<0) && !((sumsR ps ms n.toNat).any fun q=>!decide (sgn q=0))):=by
   unfold refC
   rw [decide_eq_false hc.1,decide_eq_false hc.2];rfl
  refine G.rp 2 fun R hR=>?_
  refine D.af (bkT hb1 1) ?_
  refine D.am (copen_fn _ _ n Ad nd cd rows d (hv0.mono mup) (hd.mono mup) (by omega) hf hdl hds) rfl rfl rfl rfl rfl rfl rfl (fun _=>rfl) (fun v22 C22 hle22 hq22=>?_)
  obtain ⟨y,rfl,hy⟩:=hq22
  refine D.ps 3 ?_
  refine D.alloc rfl rfl rfl rfl rfl (fun _=>rfl) (fun b7=>?_)
  refine D.ag (j:=0) ?_
  refine D.q3 1 1 7 8 hR ?_;clear hR R
  refine G.z3 2 1 7 26 ?_
  refine G.cd (fun h26=>?_) fun h26=>?_
  ·have hno:bw n rows d=none:=by
    cases h:bw n rows d with
    | none=>rfl
    | some p=>rw [h] at h26;cases h26
   refine G.z1 1 6 ?_
   refine G.rf ?_
   exact ⟨by rw [hR,hno],rfl⟩
  ·obtain ⟨ps,ms,hpm⟩:∃ ps ms,bw n rows d=some (ps,ms):=by
    cases h:bw n rows d with
    | none=>rw [h] at h26;cases h26
    | some p=>exact ⟨p.1,p.2,rfl⟩
   have hsys:=hy ps ms hpm
   obtain ⟨hpsl,hmsl,hsm,hpn⟩:=openM_ok hpm
   obtain ⟨k,hk⟩:∃ k:Nat,n=(k:Nat):=⟨n.toNat,by omega⟩
   subst hk
   have hk6:k<=1000000:=by
    cases hps:ps with
    | nil=>rw [hps] at hpsl;simp at hpsl;omega
    | cons p ps' =>
     have h1:=hpn p (by rw [hps];exact List.mem_cons_self)
     obtain ⟨r,hr,h3⟩:=rowsM_in (openM_parts hpm).1 p (by rw [hps];exact List.mem_cons_self)
     have h4:=(hf r hr).1
     have h5:p.1.length=r.1.length:=rowM_len h3
     omega
   refine G.freeze 0 rfl (fun C7 hle7 hb7=>?_)
   refine G.rg fun R hR=>?_
   refine D.af (bkT hb7 3) ?_
   refine D.ac ?_
   refine D.am (sums_fn _ (hT.mono mup) y ps ms k (by obtain ⟨⟨vs',a1,a2⟩,a3,a4⟩:=hsys;exact ⟨⟨vs',a1.mono mup,a2.mono mup⟩,a3.mono mup,a4.mono mup⟩) (by omega) (fun p hp=>by have:=hpn p hp;omega) hsm (by omega) hk6) rfl rfl rfl rfl rfl rfl rfl (fun _=>rfl) (fun v30 C30 hle30 hq30=>?_)
   obtain ⟨As,c8,x8,rfl,hws,hworth⟩:=hq30
   refine D.ps 3 ?_
   refine D.alloc rfl rfl rfl rfl rfl (fun _=>rfl) (fun b10=>?_)
   refine D.ac ?_
   refine D.ag (j:=0) ?_
   refine D.e2 9 10 hR ?_;clear hR R
   refine G.freeze 0 rfl (fun C10 hle10 hb10=>?_)
   refine G.rp 1 fun R hR=>?_
   refine D.af (bkT hb10 1) ?_
   refine D.ps 2 ?_
   refine D.aP (fun _=>(canyNz_fn _ _ _ (hws.mono mup))) rfl rfl rfl rfl rfl rfl rfl rfl rfl ?_
   refine D.ac ?_
   refine D.aE rfl rfl rfl rfl rfl rfl rfl rfl ?_
   refine D.q1 1 6 hR ?_;clear hR R
   refine G.rf ?_
   refine ⟨?_,rfl⟩
   rw [hR,hpm]
   simp only [Int.toNat_natCast]
   rw [show x8.b=decide ((dotR ms (ps.map (·.2))).num<0) from (frC_parts hworth).1]

theorem readM_qtx {q p:Rat}(h:a6 (qtx q)=some p):p=q:=by
 obtain ⟨hd,he⟩:=cut1_drop (qtx q)
 rw [cut1_qtx] at hd he
 simp only at hd he
 rw [bH] at hd
 have h1:(cut1 47 (aC 45 (qtx q)).1).1=decS q.num.natAbs:=(Prod.mk.inj hd).1.symm
 have h2:(aC 45 (qtx q)).2=decide (q.num<0):=(Prod.mk.inj hd).2.symm
 unfold a6 at h
 rw [h1,h2,<- he,(aM _).2] at h
 have e:ratB (decide (q.num<0)) q.num.natAbs q.den=q:=by
  unfold ratB
  have e2:(if decide (q.num<0)=true then -((q.num.natAbs:Nat):Int) else ((q.num.natAbs:Nat):Int))=q.num:=by
   by_cases hn:q.num<0
   ·rw [if_pos (decide_eq_true hn)];omega
   ·rw [if_neg (by rw [decide_eq_false hn];decide)];omega
  rw [e2,Rat.mkRat_self]
 split at h
 ·unfold denS at h
  split at h
  ·rename_i hb
   split at hb
   ·rename_i h1d
    cases h
    rw [<- h1d,e]
   ·cases hb
  ·rename_i b hb
   split at hb
   ·cases hb
   ·cases hb
    split at h
    ·cases h
     rw [(aM _).2,e]
    ·cases h
 ·cases h
theorem readsM_all:∀ l:List Str,(aD l).isSome=l.all aX
 | []=>rfl
 | s::l=>by
  rw [List.all_cons,ratOk_eq,<- readsM_all l]
  simp only [aD]
  cases a6 s <;> cases aD l <;> rfl
theorem readsM_qtx:∀ {ds ms:List Rat},aD (ds.map qtx)=some ms->ms=ds
 | [],ms,h=>by cases h;rfl
 | q::ds,ms,h=>by
  simp only [List.map_cons,aD] at h
  cases h1:a6 (qtx q) with
  | none=>rw [h1] at h;cases h
  | some p =>
   cases h2:aD (ds.map qtx) with
   | none=>rw [h1,h2] at h;cases h
   | some ps =>
    rw [h1,h2] at h
    cases h
    rw [readM_qtx h1,readsM_qtx h2]
theorem listZ_zero {n:Int}{l:List Str}:bg n l=0 ↔ (l.length:Int)=n/\l.all aX=true:=by
 unfold bg
 by_cases h:(l.length:Int)=n
 ·rw [if_pos h]
  rcases cJ (l.all aX) with ⟨h1,h2⟩ | ⟨h1,h2⟩
  ·rw [h1];exact ⟨fun _=>⟨h,h2⟩,fun _=>rfl⟩
  ·rw [h1,h2];exact ⟨fun h=>(by cases h),fun h=>(by cases h.2)⟩
 ·rw [if_neg h];exact ⟨fun h=>(by cases h),fun h2=>absurd h2.1 h⟩
theorem rowZ_zero {n:Int}{r:List Str × Str}:rowZ n r=0 ↔ bg n r.1=0/\aX r.2=true:=by
 unfold rowZ
 by_cases h:bg n r.1=0
 ·rw [if_neg (fun hn=>hn h)]
  rcases cJ (aX r.2) with ⟨h1,h2⟩ | ⟨h1,h2⟩
  ·rw [h1];exact ⟨fun _=>⟨h,h2⟩,fun _=>rfl⟩
  ·rw [h1,h2];exact ⟨fun h=>(by cases h),fun h=>(by cases h.2)⟩
 ·rw [if_pos h];exact ⟨fun h2=>absurd h2 h,fun h2=>absurd h2.1 h⟩
theorem rowM_some (n:Int)(r:List Str × Str):(rowM n r).isSome=true ↔ rowZ n r=0:=by
 rw [rowZ_zero,listZ_zero,<- readsM_all,ratOk_eq]
 unfold rowM
 cases e1:aD r.1 with
 | none=>exact ⟨fun h=>(by cases h),fun h=>(by cases h.1.2)⟩
 | some f =>
  have hl:=readsM_len e1
  cases e2:a6 r.2 with
  | none=>exact ⟨fun h=>(by cases h),fun h=>(by cases h.2)⟩
  | some b =>
   simp only
   by_cases hn:(f.length:Int)=n
   ·rw [if_pos hn];exact ⟨fun _=>⟨⟨by rw [<- hl];exact hn,rfl⟩,rfl⟩,fun _=>rfl⟩
   ·rw [if_neg hn];exact ⟨fun h=>(by cases h),fun h=>absurd (by rw [hl];exact h.1.1) hn⟩
theorem rowsM_some (n:Int):∀ l:List (List Str × Str),(bC n l).isSome=true ↔ cN n l=0
 | []=>⟨fun _=>rfl,fun _=>rfl⟩
 | r::l=>by
  have h1:=rowM_some n r
  have h2:=rowsM_some n l
  have e:cN n (r::l)=if rowZ n r≠0 then rowZ n r else cN n l:=rfl
  rw [e]
  simp only [bC]
  cases e1:rowM n r with
  | none =>
   rw [e1] at h1
   have hz:rowZ n r≠0:=fun h=>by have:=h1.2 h;cases this
   rw [if_pos hz]
   exact ⟨fun h=>(by cases h),fun h=>absurd h hz⟩
  | some p =>
   rw [e1] at h1
   have hz:rowZ n r=0:=h1.1 rfl
   rw [if_neg (fun hn=>hn hz),<- h2]
   cases bC n l <;> exact Iff.rfl
theorem rowsM_tx {n:Int}:∀ {rs ps:List (List Rat × Rat)},bC n (rs.map rowTx)=some ps->ps=rs
 | [],ps,h=>by cases h;rfl
 | r::rs,ps,h=>by
  simp only [List.map_cons,bC] at h
  cases h1:rowM n (rowTx r) with
  | none=>rw [h1] at h;cases h
  | some p =>
   cases h2:bC n (rs.map rowTx) with
   | none=>rw [h1,h2] at h;cases h
   | some qs =>
    rw [h1,h2] at h
    cases h
    rw [rowsM_tx h2]
    congr 1
    unfold rowM rowTx at h1
    simp only at h1
    cases h3:aD (r.1.map qtx) with
    | none=>rw [h3] at h1;cases h1
    | some f =>
     cases h4:a6 (qtx r.2) with
     | none=>rw [h3,h4] at h1;cases h1
     | some b =>
      rw [h3,h4] at h1
      simp only at h1
      split at h1
      ·cases h1
       rw [readsM_qtx h3,readM_qtx h4]
      ·cases h1
theorem dot_sum (ps qs:List Rat):∀ n,dotN ps qs n=Lp.sumN (fun k=>ps.getD k 0*qs.getD k 0) n
 | 0=>rfl
 | n+1=>by simp only [dotN,Lp.sumN,dot_sum ps qs n];rfl
theorem getD_map0 {α:Type}{f:α->Rat}{l:List α}{d:α}(hd:f d=0)(k:Nat):(l.map f).getD k 0=f (l.getD k d):=by
 rw [List.getD_eq_getElem?_getD,List.getD_eq_getElem?_getD,List.getElem?_map]
 cases l[k]? with
 | none=>exact hd.symm
 | some x=>rfl
theorem sgn_zero (q:Rat):decide (sgn q=0)=decide (q=0):=by
 rw [decide_eq_decide]
 unfold sgn
 constructor
 ·intro h
  by_cases h1:q<0
  ·rw [if_pos h1] at h;cases h
  ·rw [if_neg h1] at h
   by_cases h2:q=0
   ·exact h2
   ·rw [if_neg h2] at h;cases h
 ·rintro rfl;decide
theorem num_neg' (q:Rat):q.num<0 ↔ q<0:=by rw [Rat.lt_iff];simp
theorem ref_same (n:Nat)(rows:List (List Str × Str))(d:List Str)(rs:List (List Rat × Rat))(ds:List Rat)(hn:n<=60)(hl:rows.length<=300)
  (hrs:chkP n rows (List.replicate n [48])=0->rows=rs.map rowTx/\RowsQ n rs) (hds:d.all aX=true->d=ds.map qtx/\∀ x∈ds,QB 23 x) :
  refC n rows d=decide (refP n rows (List.replicate n [48]) d rs ds=0):=by
 have hz0:bg (n:Int) (List.replicate n ([48]:Str))=0:=by
  unfold bg
  rw [if_pos (by rw [List.length_replicate])]
  rw [show (List.replicate n ([48]:Str)).all aX=true from List.all_eq_true.2 fun s hs=>by rw [List.eq_of_mem_replicate hs];decide +kernel]
  rfl
 have hP:chkP n rows (List.replicate n [48])=cN n rows:=by
  unfold chkP
  rw [if_neg (by omega),if_neg (by omega),if_neg (fun h=>h hz0)]
 rw [hP] at hrs
 have hso:=rowsM_some n rows
 unfold refP
 rw [hP]
 by_cases hr:cN n rows=0
 ·obtain ⟨hre,hq⟩:=hrs hr
  rw [if_neg (fun h=>h hr)]
  have hrm:bC n rows=some rs:=by
   cases h:bC n rows with
   | none=>rw [h] at hso;have:=hso.2 hr;cases this
   | some ps=>rw [hre] at h;rw [rowsM_tx h]
  have hrl:rs.length=rows.length:=by rw [hre,List.length_map]
  by_cases hs:sumE rs.length d ds=0
  ·rw [if_neg (fun h=>h hs)]
   have h1:bg (rs.length:Nat) d=0:=by
    unfold sumE at hs
    split at hs
    ·rename_i h;exact absurd hs h
    ·rename_i h;simpa using h
   have h2:ds.any (fun q=>decide (q<0))=false:=by
    unfold sumE at hs
    rw [if_neg (fun h=>h h1)] at hs
    cases h:ds.any (fun q=>decide (q<0)) with
    | false=>rfl
    | true=>rw [h,if_pos rfl] at hs;cases hs
   have hdl:d.length=rs.length:=by
    unfold bg at h1
    split at h1
    ·omega
    ·cases h1
   have hall:d.all aX=true:=by
    unfold bg at h1
    rw [if_pos (by omega)] at h1
    rcases cJ (d.all aX) with ⟨_,h4⟩ | ⟨h3,_⟩
    ·exact h4
    ·rw [h3] at h1;cases h1
   obtain ⟨hdd,hdq⟩:=hds hall
   have hdsl:ds.length=rs.length:=by rw [<- hdl,hdd,List.length_map]
   have hdm:aD d=some ds:=by
    have h3:=readsM_all d
    rw [hall] at h3
    cases h:aD d with
    | none=>rw [h] at h3;cases h3
    | some ms=>rw [hdd] at h;rw [readsM_qtx h]
   have hno:ds.any (fun q=>decide (q.num<0))=false:=by
    rw [<- h2]
    congr 1
    funext q
    rw [decide_eq_decide];exact num_neg' q
   have ho:bw n rows d=some (rs,ds):=by
    unfold bw
    rw [hrm,hdm]
    simp only
    rw [if_pos ⟨by omega,hno⟩]
   have hb:dotR ds (rs.map (·.2))=bndS rs ds rs.length:=by
    unfold dotR bndS
    rw [dot_sum,hdsl]
    exact Lp.sumN_congr fun k _=>by rw [getD_map0 (d:=(([]:List Rat),(0:Rat))) rfl]
   have hf:sumsR rs ds n=midF n rs ds rs.length 0:=by
    unfold sumsR midF
    refine List.map_congr_left fun v _=>?_
    rw [if_neg (by omega)]
    unfold dotR facS colR
    rw [dot_sum,hdsl]
    exact Lp.sumN_congr fun k _=>by rw [getD_map0 (f:=fun p:List Rat × Rat=>gQ p.1 v) (d:=(([]:List Rat),(0:Rat))) rfl];rfl
   have hrc:refC n rows d=(!decide (rows.length=0) && (decide (bndS rs ds rs.length<0) && !((midF n rs ds rs.length 0).any fun q=>!decide (q=0)))):=by
    unfold refC
    rw [ho,decide_eq_false (by omega:¬ (n:Int)<0)]
    simp only [Int.toNat_natCast]
    rw [hb,hf]
    have e:((midF n rs ds rs.length 0).any fun q=>!decide (sgn q=0))=(midF n rs ds rs.length 0).any fun q=>!decide (q=0):=by
     congr 1
     funext q
     rw [sgn_zero]
    rw [e,show decide ((bndS rs ds rs.length).num<0)=decide (bndS rs ds rs.length<0) by rw [decide_eq_decide];exact num_neg' _]
    rfl
   rw [hrc]
   by_cases h0:rows.length=0
   ·have hb0:bndS rs ds rs.length=0:=by rw [hrl,h0];rfl
    rw [hb0,decide_eq_true h0,if_pos (.inl Rat.le_refl)]
    rfl
   ·rw [decide_eq_false h0]
    by_cases hbn:0<=bndS rs ds rs.length
    ·rw [if_pos (.inl hbn),decide_eq_false (by grind:¬ bndS rs ds rs.length<0)]
     rfl
    ·rw [decide_eq_true (by grind:bndS rs ds rs.length<0)]
     cases ha:(midF n rs ds rs.length 0).any fun q=>!decide (q=0) with
     | true=>rw [if_pos (.inr rfl)];rfl
     | false =>
      rw [if_neg]
      ·rfl
      ·rintro (h | h)
       ·exact hbn h
       ·cases h
  ·rw [if_pos hs,decide_eq_false hs]
   have ho:bw n rows d=none:=by
    cases ho:bw n rows d with
    | none=>rfl
    | some pm =>
     exfalso
     obtain ⟨h1,h2,h3,h4⟩:=openM_parts (ps:=pm.1) (ms:=pm.2) ho
     have hall:d.all aX=true:=by rw [<- readsM_all,h2];rfl
     obtain ⟨hdd,hdq⟩:=hds hall
     rw [hdd] at h2
     have hms:=readsM_qtx h2
     rw [hms] at h3 h4
     refine hs ?_
     have hz:bg (rs.length:Nat) d=0:=by
      unfold bg
      rw [if_pos (by rw [hdd,List.length_map];omega),hall];rfl
     unfold sumE
     rw [if_neg (fun h=>h hz)]
     have hno:ds.any (fun q=>decide (q<0))=false:=by
      rw [<- h4]
      congr 1
      funext q
      rw [decide_eq_decide];exact (num_neg' q).symm
     rw [hno];rfl
   unfold refC
   rw [ho,Bool.and_false]
 ·rw [if_pos hr,decide_eq_false hr]
  have ho:bw n rows d=none:=by
   unfold bw
   cases h:bC n rows with
   | none=>rfl
   | some ps=>rw [h] at hso;exact absurd (hso.1 rfl) hr
  unfold refC
  rw [ho,Bool.and_false]

theorem mul_gives (x y:Nat)(hx:x<18446744073709551616)(hy:y<18446744073709551616)(C:Mem):Gives cx.P 95 [.int .u64 x,.int .u64 y] C (.tuple #[.int .u64 ((x*y / 18446744073709551616:Nat):Int),.int .u64 ((x*y % 18446744073709551616:Nat):Int)]) :=
 Gives.ofCalls (by kernel_rfl) (fun w=>Any.bits_Mul Tryz.mul x y hx hy w) C

theorem replicate_storeInto {a:Value}{n k m:Nat}{tl:List Value}(_hn:k+m<=n)(hk:m<=k)(_htl:tl.length=n-k) :
  aj (List.replicate k a++tl) ((List.replicate k a++tl).take m) k=List.replicate (k+m) a++tl.drop m:=by
 have h1:(List.replicate k a++tl).take m=List.replicate m a:=by
  rw [List.take_append_of_le_length (by simpa using hk),List.take_replicate,Nat.min_eq_left hk]
 have h2:(List.replicate k a++tl).take k=List.replicate k a:=by
  rw [List.take_append_of_le_length (by simp),List.take_replicate,Nat.min_self]
 have h3:(List.replicate k a++tl).drop (k+m)=tl.drop m:=by
  rw [List.drop_append,List.length_replicate,List.drop_eq_nil_of_le (by simp),List.nil_append]
  congr 1;omega
 unfold aj
 rw [h1,h2,List.length_replicate,h3,List.replicate_append_replicate]

theorem zrow_rep (a:Value)(n:Nat):zrow [a] n=List.replicate n a:=by
 rw [bh]
 induction n with
 | zero=>rfl
 | succ n ih=>rw [List.replicate_succ,List.flatten_cons,ih,List.replicate_succ];rfl
theorem mul_one_gives (n:Nat)(hn:n<18446744073709551616)(C:Mem):Gives cx.P 95 [.int .u64 (1:Int),.int .u64 n] C (.tuple #[.int .u64 0,.int .u64 n]):=by
 have h:=mul_gives 1 n (by omega) hn C
 have e1:1*n / 18446744073709551616=0:=by omega
 have e2:1*n % 18446744073709551616=n:=by omega
 rw [e1,e2] at h
 exact h
theorem repeat_fn (C:Mem)(v:Value)(n:Nat)(z:Int)(hv:Sl C 1 v [[.int .i64 z]])(hn:n<=1000000):Jog.Fn cx.P 66 [v,.int .i64 n] C [] fun u _C' L'=>∃ b,u=.slice (some ⟨b,0,none⟩) n n/\L'=[.arr u 3 1 n (List.replicate n (.int .i64 z))]:=by
 have hv0:=hv
 obtain ⟨A,c,rfl,_⟩:=hv0
 refine Fn.it (by kernel_rfl) Tryz.func66 48 fun w0=>?_
 refine G.z2 1 0 1 ?_
 refine G.z3 2 0 1 10 ?_
 refine G.cd (fun h10=>?_) fun h10=>?_
 ·simp at h10;omega
 ·refine G.rp 2 fun R hR=>?_
  refine D.bK (c:=1) rfl rfl rfl rfl rfl rfl rfl rfl rfl (fun _=>rfl) ?_
  refine D.ac ?_
  refine D.bK (c:=(n:Int)) rfl rfl rfl rfl rfl rfl rfl rfl (by rw [IntKind.wrap_u64];omega) (fun _=>rfl) ?_
  refine D.aq (mul_one_gives n (by omega) _) rfl rfl rfl rfl rfl rfl rfl (fun _=>rfl) ?_
  refine D.q3 5 0 5 6 hR ?_
  refine G.rp 5 fun R hR=>?_
  refine D.ay rfl rfl rfl rfl rfl rfl rfl rfl ?_
  refine D.e3 0 6 26 hR ?_
  refine G.cd (fun h26=>?_) fun h26=>?_
  ·simp at h26;omega
  ·refine G.rp 1 fun R hR=>?_
   refine D.bK (c:=(n:Int)) rfl rfl rfl rfl rfl rfl rfl rfl (by rw [IntKind.wrap_i64];omega) (fun _=>rfl) ?_
   refine D.aS rfl rfl rfl rfl rfl rfl rfl rfl rfl (Nat.le_refl _) (by show 8*n<=281474976710656;omega) (by simp only [maxLen];omega) (fun _=>rfl) (fun b30=>?_)
   refine D.q2 1 0 7 hR ?_
   refine G.rp 2 fun R hR=>?_
   refine D.copyC (j:=0) (q:=min 1 n) rfl rfl rfl rfl rfl rfl rfl rfl rfl rfl rfl rfl hv rfl rfl (by rw [bu];show 0+min 1 n*1<=n*1;omega) (fun _=>rfl) ?_
   refine D.q2 1 7 8 hR ?_
   have hst0:aj (zrow [Value.int .i64 0] n) (([[Value.int .i64 z]]:List (List Value)).take (min 1 n)).flatten 0=List.replicate (min 1 n) (.int .i64 z)++List.replicate (n-min 1 n) (.int .i64 0):=by
    rw [zrow_rep]
    cases n with
    | zero=>rfl
    | succ n=>rw [show min 1 (n+1)=1 by omega,List.replicate_succ];rfl
   refine G.aJ (L':=[.arr (.slice (some ⟨b30,0,none⟩) n n) 3 1 n (List.replicate (min 1 n) (.int .i64 z)++List.replicate (n-min 1 n) (.int .i64 0))]) (by rw [<- hst0];rfl) ?_
   refine G.loop (fun fr C' L' μ=>∃ (k:Nat),(k<=n/\min 1 n<=k)/\fr=[(7,[],.slice (some ⟨b30,0,none⟩) n n),(8,[],.int .i64 k)]/\L'=[.arr (.slice (some ⟨b30,0,none⟩) n n) 3 1 n (List.replicate k (.int .i64 z)++List.replicate (n-k) (.int .i64 0))]/\μ=n-k) (h_2 7 8) ⟨min 1 n,⟨Nat.min_le_right _ _,Nat.le_refl _⟩,rfl,rfl,rfl⟩ (fun fr C0' L0' m hle0 hI=>?_)
   obtain ⟨k,⟨hk,hk1⟩,rfl,rfl,rfl⟩:=hI
   refine G.z3 4 7 8 37 ?_
   refine G.cd (fun h37=>?_) fun h37=>?_
   ·simp only [decide_eq_true_eq] at h37
    have hkn:k<n:=by omega
    have hk2:1<=k:=by omega
    refine G.aR [0,1,2,3,4,5,6,7,8,9] [] rfl (by kernel_rfl) (fun R hB hR=>?_)
    refine D.ps 3 ?_
    refine D.db k n n rfl rfl rfl rfl rfl rfl rfl rfl rfl rfl rfl rfl (fun _=>⟨.inr ⟨_,rfl⟩,.inl ⟨rfl,rfl⟩,.inl ⟨rfl,rfl⟩,hk,Nat.le_refl _,Nat.le_refl _⟩) rfl rfl ?_
    refine D.ps 2 ?_
    refine D.db 0 k n rfl rfl rfl rfl rfl rfl rfl rfl rfl rfl rfl rfl (fun _=>⟨.inl ⟨rfl,rfl⟩,.inr ⟨_,rfl⟩,.inl ⟨rfl,rfl⟩,Nat.zero_le _,hk,Nat.le_refl _⟩) rfl rfl ?_
    refine D.copyS (j:=0) (off:=k) (g0:=b30) (dl:=n-k) (dc:=n-k) (sl:=k-0) (sc:=n-0) (q:=min k (n-k)) rfl rfl rfl rfl rfl rfl rfl rfl (by show some (Value.slice (if n=k then some (⟨b30,0,none⟩:Addr) else (some (⟨b30,0,none⟩:Addr)).map (·.add (k*1))) (n-k) (n-k))=_;rw [if_neg (by omega)];simp [Addr.add_lit]) (by show some (Value.slice (if n=0 then some (⟨b30,0,none⟩:Addr) else (some (⟨b30,0,none⟩:Addr)).map (·.add (0*1))) (k-0) (n-0))=_;split <;> simp [Addr.add_lit]) rfl rfl (by simp [oneB]) (by simp;omega) (fun _=>rfl) ?_
    refine D.cL (((k+min k (n-k):Nat):Int)) rfl rfl rfl rfl (by omega) (by omega) (by omega) rfl rfl ?_
    refine D.q2 1 7 8 hR ?_
    refine G.aJ (L':=[.arr (.slice (some ⟨b30,0,none⟩) n n) 3 1 n (List.replicate (k+min k (n-k)) (.int .i64 z)++List.replicate (n-(k+min k (n-k))) (.int .i64 0))]) (by rw [replicate_storeInto (n:=n) (by omega) (Nat.min_le_left _ _) (by simp),List.drop_replicate,Nat.sub_sub];rfl) ?_
    refine G.au (m':=n-(k+min k (n-k))) (by omega) hle0 (h_2 7 8) ⟨k+min k (n-k),⟨by omega,by omega⟩,rfl,rfl,rfl⟩
   ·simp only [decide_eq_false_iff_not] at h37
    have hkn:k=n:=by omega
    subst hkn
    refine G.z1 2 4 ?_
    refine G.aB (G.fin1 rfl rfl ?_)
    exact ⟨b30,rfl,by simp⟩

theorem indexN_fn (C:Mem)(A:Option Addr)(c:Nat)(g:FuncId):Gives cx.P 92 [.slice A 0 c,.func (.func g) #[] #[]] C (.int .i64 (-1)):=by
 refine Fn.it (by kernel_rfl) Tryz.func92 19 fun w0=>?_
 refine G.z2 1 0 1 ?_
 refine G.z4 3 0 1 7 8 ?_
 refine G.loop (fun fr C' L' μ=>∃ (k:Nat),(k=0)/\fr=[(0,[],.slice A 0 c),(1,[],.func (.func g) #[] #[]),(7,[],.int .i64 0),(8,[],.int .i64 k)]/\L'=[]/\μ=k) (h_4 0 1 7 8) ⟨0,rfl,rfl,rfl,rfl⟩ (fun fr C0' L0' m hle0 hI=>?_)
 obtain ⟨k,hk,rfl,rfl,rfl⟩:=hI
 refine G.z5 1 0 1 7 8 9 ?_
 refine G.cd (fun h9=>?_) fun h9=>?_
 ·subst hk;exact absurd h9 (by decide)
 ·refine G.z1 1 4 ?_
  refine G.rf ?_
  exact ⟨rfl,rfl⟩
theorem contN_fn (C:Mem)(A:Option Addr)(c:Nat)(g:FuncId):Gives cx.P 58 [.slice A 0 c,.func (.func g) #[] #[]] C (.bool false):=by
 refine Fn.it (by kernel_rfl) Tryz.func58 9 fun w0=>?_
 refine G.z2 1 0 1 ?_
 refine G.rp 2 fun R hR=>?_
 refine D.ai (indexN_fn _ A c g) ?_
 refine D.q1 2 4 hR ?_
 refine G.rf ?_
 exact ⟨rfl,rfl⟩
theorem indexB_fn (C:Mem)(A:Option Addr)(c:Nat)(b:Bool):Gives cx.P 71 [.slice A 0 c,.bool b] C (.int .i64 (-1)):=by
 refine Fn.it (by kernel_rfl) Tryz.func71 19 fun w0=>?_
 refine G.z2 1 0 1 ?_
 refine G.z4 3 0 1 7 8 ?_
 refine G.loop (fun fr C' L' μ=>∃ (k:Nat),(k=0)/\fr=[(0,[],.slice A 0 c),(1,[],.bool b),(7,[],.int .i64 0),(8,[],.int .i64 k)]/\L'=[]/\μ=k) (h_4 0 1 7 8) ⟨0,rfl,rfl,rfl,rfl⟩ (fun fr C0' L0' m hle0 hI=>?_)
 obtain ⟨k,hk,rfl,rfl,rfl⟩:=hI
 refine G.z5 1 0 1 7 8 9 ?_
 refine G.cd (fun h9=>?_) fun h9=>?_
 ·subst hk;exact absurd h9 (by decide)
 ·refine G.z1 1 4 ?_
  refine G.rf ?_
  exact ⟨rfl,rfl⟩
theorem containsB_fn (C:Mem)(A:Option Addr)(c:Nat)(b:Bool):Gives cx.P 34 [.slice A 0 c,.bool b] C (.bool false):=by
 refine Fn.it (by kernel_rfl) Tryz.func34 9 fun w0=>?_
 refine G.z2 1 0 1 ?_
 refine G.rp 2 fun R hR=>?_
 refine D.ai (indexB_fn _ A c b) ?_
 refine D.q1 2 4 hR ?_
 refine G.rf ?_
 exact ⟨rfl,rfl⟩
def keyI:KeyT (.int .i64) Int where
 enc n:=.int .i64 n
 isKey _:=rfl
 same a b:=by
  simp only [Instr.sameNow]
  congr 1
def nil3:List Value:=[.slice none 0 0,.slice none 0 0,.slice none 0 0]
def Sheet0 (D:Mem)(p:Value):Prop:=∃ b b2,p=.pointer (some ⟨b,0,none⟩)/\D b=some (.cells ⟨[.slice none 0 0,.slice none 0 0,.slice (some ⟨b2,0,none⟩) 0 0]⟩ 99 (0,0))
theorem plain_fn (C:Mem):Pur cx.P 28 [.agg ⟨nil3⟩] C fun u D=>∃ p,u=.tuple #[p,.bool true]/\Sheet0 D p:=by
 refine Fn.it (by kernel_rfl) Tryz.func28 217 fun w0=>?_
 refine G.rg fun R hR=>?_
 refine D.box rfl rfl rfl rfl rfl rfl (fun _=>rfl) (fun b1=>?_)
 refine D.q1 2 1 hR ?_
 refine G.rp 1 fun R hR=>?_
 refine D.ae (.head _) ?_
 refine D.ps 4 ?_
 refine D.ae (.head _) ?_
 refine D.ps 2 ?_
 refine D.ay rfl rfl rfl rfl rfl rfl rfl rfl ?_
 refine D.ps 2 ?_
 refine D.ae (.head _) ?_
 refine D.ps 2 ?_
 refine D.ay rfl rfl rfl rfl rfl rfl rfl rfl ?_
 refine D.e2 1 26 hR ?_
 refine G.cd (fun h26=>?_) fun h26=>?_
 ·exact absurd h26 (by decide)
 ·refine G.rp 1 fun R hR=>?_
  refine D.ae (.head _) ?_
  refine D.ac ?_
  refine D.aS rfl rfl rfl rfl rfl rfl rfl rfl rfl (Nat.le_refl _) (by decide) (by decide) (fun _=>rfl) (fun b30=>?_)
  refine D.build [.slice none 0 0,.slice none 0 0,.slice (some ⟨b30,0,none⟩) 0 0] rfl rfl rfl rfl rfl rfl rfl rfl ?_
  refine D.box rfl rfl rfl rfl rfl rfl (fun _=>rfl) (fun b32=>?_)
  refine D.q2 1 1 4 hR ?_
  refine G.rp 1 fun R hR=>?_
  refine D.ae (.tail _ (.tail _ (.head _))) ?_
  refine D.q5 2 1 4 34 35 36 hR ?_
  refine G.freezeArr 1 [] rfl rfl (fun r hr=>by cases hr) rfl (fun Cf hf hsd=>?_)
  refine G.loop (fun fr C' L' μ=>∃ (k:Nat),(k=0)/\fr=[(1,[],.pointer (some ⟨b1,0,none⟩)),(4,[],.pointer (some ⟨b32,0,none⟩)),(34,[],.slice none 0 0),(35,[],.int .i64 0),(36,[],.int .i64 k)]/\L'=[.obj b32 (.cells ⟨[.slice none 0 0,.slice none 0 0,.slice (some ⟨b30,0,none⟩) 0 0]⟩ 99 (0,0)),.obj b1 (.cells ⟨nil3⟩ 49 (0,0))]/\μ=k) (h_5 1 4 34 35 36) ⟨0,rfl,rfl,rfl,rfl⟩ (fun fr C0' L0' m hle0 hI=>?_)
  obtain ⟨k,hk,rfl,rfl,rfl⟩:=hI
  refine G.z6 1 1 4 34 35 36 37 ?_
  refine G.cd (fun h37=>?_) fun h37=>?_
  ·subst hk;exact absurd h37 (by decide)
  ·refine G.rg fun R hR=>?_
   refine D.makeMap keyS rfl rfl rfl rfl (fun _=>rfl) (fun b71=>?_)
   refine D.q3 1 1 4 7 hR ?_
   refine G.rp 1 fun R hR=>?_
   refine D.ae (.tail _ (.tail _ (.head _))) ?_
   refine D.q6 2 1 4 7 73 74 75 hR ?_
   refine G.loop (fun fr C' L' μ=>∃ (k:Nat),(k=0)/\fr=[(1,[],.pointer (some ⟨b1,0,none⟩)),(4,[],.pointer (some ⟨b32,0,none⟩)),(7,[],.map (some b71)),(73,[],.slice none 0 0),(74,[],.int .i64 0),(75,[],.int .i64 k)]/\L'=[.obj b71 (bF keyS.enc []),.obj b32 (.cells ⟨[.slice none 0 0,.slice none 0 0,.slice (some ⟨b30,0,none⟩) 0 0]⟩ 99 (0,0)),.obj b1 (.cells ⟨nil3⟩ 49 (0,0))]/\μ=k) (h_6 1 4 7 73 74 75) ⟨0,rfl,rfl,rfl,rfl⟩ (fun fr C1' L1' m hle1 hI=>?_)
   obtain ⟨k,hk2,rfl,rfl,rfl⟩:=hI
   refine G.z7 1 1 4 7 73 74 75 76 ?_
   refine G.cd (fun h76=>?_) fun h76=>?_
   ·subst hk2;exact absurd h76 (by decide)
   ·refine G.rp 4 fun R hR=>?_
    refine D.ae (.tail _ (.head _)) ?_
    refine D.ai (contN_fn _ _ _ _) ?_
    refine D.q2 3 2 3 hR ?_
    refine G.freeze 1 rfl (fun Cg hg hb=>?_)
    refine G.aB (G.dropAll (G.bO rfl rfl rfl ?_))
    exact ⟨rfl,_,rfl,b32,b30,rfl,hb⟩
theorem crossed_fn (C:Mem)(p:Value)(h:Sheet0 C p):Gives cx.P 29 [p] C (.bool false):=by
 obtain ⟨b,b2,rfl,hb⟩:=h
 refine Fn.it (by kernel_rfl) Tryz.func29 123 fun w0=>?_
 refine G.z1 1 0 ?_
 refine G.z2 1 0 3 ?_
 refine G.loop (fun fr C' L' μ=>∃ (k:Nat),(k=0)/\fr=[(0,[],.pointer (some ⟨b,0,none⟩)),(3,[],.int .i64 k)]/\L'=[]/\μ=k) (h_2 0 3) ⟨0,rfl,rfl,rfl,rfl⟩ (fun fr C0' L0' m hle0 hI=>?_)
 obtain ⟨k,hk,rfl,rfl,rfl⟩:=hI
 refine G.rp 4 fun R hR=>?_
 refine D.af (PtrTo.block (Mem.get hb mup) _) ?_
 refine D.q3 2 0 3 15 hR ?_
 refine G.cd (fun h15=>?_) fun h15=>?_
 ·subst hk;exact absurd h15 (by decide)
 ·refine G.z1 1 2 ?_
  refine G.rf ?_
  exact ⟨rfl,rfl⟩
theorem cycles_fn (C:Mem)(p:Value)(h:Sheet0 C p):Pur cx.P 30 [p] C fun u _=>∃ A,u=.tuple #[.slice A 0 0,.slice none 0 0]:=by
 obtain ⟨b,b2,rfl,hb⟩:=h
 refine Fn.it (by kernel_rfl) Tryz.func30 102 fun w0=>?_
 refine G.rg fun R hR=>?_
 refine D.box rfl rfl rfl rfl rfl rfl (fun _=>rfl) (fun b1=>?_)
 refine D.q2 2 1 3 hR ?_
 refine G.rg fun R hR=>?_
 refine D.ae (.head _) ?_
 refine D.ps 2 ?_
 refine D.af (PtrTo.block (Mem.get hb mup) _) ?_
 refine D.q5 2 1 3 15 16 17 hR ?_
 refine G.loop (fun fr C' L' μ=>∃ (k:Nat),(k=0)/\fr=[(1,[],.pointer (some ⟨b1,0,none⟩)),(3,[],.slice none 0 0),(15,[],.slice (some ⟨b2,0,none⟩) 0 0),(16,[],.int .i64 0),(17,[],.int .i64 k)]/\L'=[.obj b1 (.cells ⟨[.pointer (some ⟨b,0,none⟩)]⟩ 80 (0,0))]/\μ=k) (h_5 1 3 15 16 17) ⟨0,rfl,rfl,rfl,rfl⟩ (fun fr C0' L0' m hle0 hI=>?_)
 obtain ⟨k,hk,rfl,rfl,rfl⟩:=hI
 refine G.z6 1 1 3 15 16 17 18 ?_
 refine G.cd (fun h18=>?_) fun h18=>?_
 ·subst hk;exact absurd h18 (by decide)
 ·refine G.aH [(6,3)] rfl (fun R hR=>?_)
  refine D.ah [[.int .i64 (-1)]] (fun p33 C33 hle33 hs33=>?_)
  refine D.ae (.head _) ?_
  refine D.ps 2 ?_
  refine D.af (PtrTo.block (Mem.get hb mup) _) ?_
  refine D.ac ?_
  refine D.call (repeat_fn _ _ 0 (-1) (hs33.mono mup) (by omega)) rfl (.inr (by decide)) rfl rfl rfl rfl rfl rfl (List.Perm.refl _) (fun _=>rfl) (fun v39 C39 L39 hle39 hq39=>?_)
  obtain ⟨b9,rfl,rfl⟩:=hq39
  refine D.q3 1 1 2 3 hR ?_
  refine G.freezeArr 0 [] rfl rfl (fun r hr=>by cases hr) rfl (fun Cf hf hsd=>?_)
  refine G.rg fun R hR=>?_
  refine D.ae (.head _) ?_
  refine D.ps 2 ?_
  refine D.af (PtrTo.block (Mem.get hb mup) _) ?_
  refine D.q5 2 1 2 3 44 45 hR ?_
  refine G.loop (fun fr C' L' μ=>∃ (k:Nat),(k=0)/\fr=[(1,[],.pointer (some ⟨b1,0,none⟩)),(2,[],.slice (some ⟨b9,0,none⟩) 0 0),(3,[],.slice none 0 0),(44,[],.int .i64 0),(45,[],.int .i64 k)]/\L'=[.obj b1 (.cells ⟨[.pointer (some ⟨b,0,none⟩)]⟩ 80 (0,0))]/\μ=k) (h_5 1 2 3 44 45) ⟨0,rfl,rfl,rfl,rfl⟩ (fun fr C1' L1' m hle1 hI=>?_)
  obtain ⟨k,hk2,rfl,rfl,rfl⟩:=hI
  refine G.z6 1 1 2 3 44 45 46 ?_
  refine G.cd (fun h46=>?_) fun h46=>?_
  ·subst hk2;exact absurd h46 (by decide)
  ·refine G.z2 4 2 3 ?_
   refine G.aB (G.dropAll (G.bO rfl rfl rfl ?_))
   exact ⟨rfl,_,rfl⟩
theorem map0_fn (C:Mem):Gives cx.P 11 [.agg ⟨nil3⟩] C (.bool true):=by
 refine Fn.it (by kernel_rfl) Tryz.func11 100 fun w0=>?_
 refine G.rg fun R hR=>?_
 refine D.box rfl rfl rfl rfl rfl rfl (fun _=>rfl) (fun b1=>?_)
 refine D.q1 1 1 hR ?_
 refine G.rg fun R hR=>?_
 refine D.ae (.head _) ?_
 refine D.aK (plain_fn _) (fun v20 C20 hle20 hq20=>?_)
 obtain ⟨p,rfl,hp⟩:=hq20
 obtain ⟨b,b2,rfl,hb⟩:=id hp
 refine D.ps 3 ?_
 refine D.alloc rfl rfl rfl rfl rfl (fun _=>rfl) (fun b3=>?_)
 refine D.ag (j:=0) ?_
 refine D.q3 1 1 3 4 hR ?_
 refine G.rp 3 fun R hR=>?_
 refine D.ae (.head _) ?_
 refine D.aP (fun _=>(crossed_fn _ _ (by obtain ⟨b,b2,e,hb⟩:=hp;exact ⟨b,b2,e,Mem.get hb mup⟩))) rfl rfl rfl rfl rfl rfl rfl rfl rfl ?_
 refine D.ay rfl rfl rfl rfl rfl rfl rfl rfl ?_
 refine D.e3 1 3 28 hR ?_
 refine G.cd (fun h28=>?_) fun h28=>?_
 ·exact absurd h28 (by decide)
 ·refine G.rg fun R hR=>?_
  refine D.ae (.head _) ?_
  refine D.am (cycles_fn _ _ (by obtain ⟨b,b2,e,hb⟩:=hp;exact ⟨b,b2,e,Mem.get hb mup⟩)) rfl rfl rfl rfl rfl rfl rfl (fun _=>rfl) (fun v31 C31 hle31 hq31=>?_)
  obtain ⟨A9,rfl⟩:=hq31
  refine D.ps 3 ?_
  refine D.alloc rfl rfl rfl rfl rfl (fun _=>rfl) (fun b5=>?_)
  refine D.alloc rfl rfl rfl rfl rfl (fun _=>rfl) (fun b6=>?_)
  refine D.ag (j:=1) ?_
  refine D.ag (j:=1) ?_
  refine D.e4 1 3 5 6 hR ?_
  refine G.rg fun R hR=>?_
  refine D.alloc rfl rfl rfl rfl rfl (fun _=>rfl) (fun b7=>?_)
  refine D.e5 1 3 5 6 7 hR ?_
  refine G.rp 1 fun R hR=>?_
  refine D.ag (j:=0) ?_
  refine D.e4 1 3 6 7 hR ?_
  refine G.rg fun R hR=>?_
  refine D.makeMap keyI rfl rfl rfl rfl (fun _=>rfl) (fun b35=>?_)
  refine D.insert keyI (j:=0) rfl rfl rfl rfl rfl rfl rfl rfl rfl rfl (by kernel_rfl) ?_
  refine D.q5 2 1 3 6 7 8 hR ?_
  refine G.rp 1 fun R hR=>?_
  refine D.ae (.tail _ (.tail _ (.tail _ (.tail _ (.tail _ (.head _)))))) ?_
  refine D.ac ?_
  refine D.aS rfl rfl rfl rfl rfl rfl rfl rfl rfl (Nat.le_refl _) (by decide) (by decide) (fun _=>rfl) (fun b40=>?_)
  refine D.q5 1 3 6 7 8 9 hR ?_
  refine G.rg fun R hR=>?_
  refine D.ae (.tail _ (.tail _ (.tail _ (.head _)))) ?_
  refine D.q7 2 3 7 8 9 41 42 43 hR ?_
  refine G.dropAll ?_
  refine G.loop (fun fr C' L' μ=>∃ (k:Nat),(k=0)/\fr=[(3,[],.pointer (some ⟨b3,0,none⟩)),(7,[],.pointer (some ⟨b7,0,none⟩)),(8,[],.map (some b35)),(9,[],.slice (some ⟨b40,0,none⟩) 0 0),(41,[],.slice none 0 0),(42,[],.int .i64 0),(43,[],.int .i64 k)]/\L'=[]/\μ=k) (h_7 3 7 8 9 41 42 43) ⟨0,rfl,rfl,rfl,rfl⟩ (fun fr C0' L0' m hle0 hI=>?_)
  obtain ⟨k,hk,rfl,rfl,rfl⟩:=hI
  refine G.z8 1 3 7 8 9 41 42 43 44 ?_
  refine G.cd (fun h44=>?_) fun h44=>?_
  ·subst hk;exact absurd h44 (by decide)
  ·refine G.rp 1 fun R hR=>?_
   refine D.ai (containsB_fn _ _ _ _) ?_
   refine D.q1 2 2 hR ?_
   refine G.rf ?_
   exact ⟨rfl,rfl⟩

def posS:List Str->Str->Nat
 | [],_=>0
 | x::l,s=>if x=s then 0 else posS l s+1
def atM:List Str->Nat->List (Str × Value)
 | [],_=>[]
 | s::l,i=>(s,.int .i64 i)::atM l (i+1)
theorem mget_atM:∀ {N:List Str}{i:Nat}{s:Str},mget (atM N i) s=if s∈N then some (.int .i64 ((i+posS N s:Nat):Int)) else none
 | [],i,s=>by simp [atM,mget]
 | x::N,i,s=>by
  simp only [atM,mget,posS]
  by_cases e:x=s
  ·subst e;simp
  ·rw [if_neg e,if_neg e,mget_atM]
   have e':¬ s=x:=fun h=>e h.symm
   by_cases h:s∈N
   ·rw [if_pos h,if_pos (by simp [h])]
    congr 3
    omega
   ·rw [if_neg h,if_neg (by simp [h,e'])]
theorem mset_atM:∀ {N:List Str}{i:Nat}{s:Str},s ∉ N->mset (atM N i) s (.int .i64 ((i+N.length:Nat):Int))=atM (N++[s]) i
 | [],i,s,_=>by simp [atM,mset]
 | x::N,i,s,h=>by
  simp only [List.mem_cons,not_or] at h
  simp only [List.cons_append,atM,mset,if_neg (Ne.symm h.1)]
  congr 1
  rw [<- mset_atM h.2]
  congr 3
  simp;omega
end Go.Proofs.YtoliaheocaoncaaGreatDoor
