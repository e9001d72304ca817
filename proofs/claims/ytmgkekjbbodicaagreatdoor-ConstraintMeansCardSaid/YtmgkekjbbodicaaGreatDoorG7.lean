/- Laws that the proofs of this seat share, part 7. -/
import Derived.Test.YtmgkekjbbodicaaGreatDoorG6
import Derived.Test.YtmgkekjbbodicaaGreatDoorShelf
set_option maxHeartbeats 4000000
namespace Go.Jog
open Go Go.MapKept

def encI2 (p:Int × Int):Value:=.agg ⟨[.int .i64 p.1,.int .i64 p.2]⟩
theorem checkKey_arr2 {P:Program}{kt e:TypeId}(hu:P.underlying kt=some (.array 2 e))(he:P.underlying e=some (.int .i64)){i:TypeInfo}(hi:P.info? e=some i)(hs:i.size=1)(p:Int × Int)(em:Bool)(w:World) :
  (Instr.checkKey em 10000 kt (encI2 p)).run P w=.ok () w:=by
 have hk:∀ z:Int,(Instr.checkKey em (9998+1) e (.int .i64 z)).run P w=.ok () w:=fun z=>run_checkKey he (by simp [IsKey]) em 9998
 show (Instr.checkKey em (9999+1) kt (encI2 p)).run P w=_
 unfold Instr.checkKey
 simp only [Sem.run_bind,run_underlying hu,Result.andThen_ok,encI2]
 have hpart:∀ (z:Int)(xs:Array Value)(j:Nat),xs[j]?=some (.int .i64 z)->(part e xs j).run P w=.ok (.int .i64 z) w:=fun z xs j h=>by
  unfold part
  simp only [Sem.run_bind,dW he rfl w,Result.andThen_ok,Bool.false_eq_true,if_false,h,Sem.run_pure]
 have hsz:(sizeOf e).run P w=.ok 1 w:=by simp [sizeOf,typeInfo,hi,hs]
 have q0:=hpart p.1 ⟨[.int .i64 p.1,.int .i64 p.2]⟩ 0 rfl
 have q1:=hpart p.2 ⟨[.int .i64 p.1,.int .i64 p.2]⟩ 1 rfl
 rw [Std.Legacy.Range.forIn_eq_forIn_range']
 simp [Std.Legacy.Range.size,List.range',hsz,q0,q1,hk]
theorem stays_row {xs:List Value}(h:Instr.sameBits 10000 (.agg ⟨xs⟩) (.agg ⟨xs⟩)=true){P:Program}(w:World):(Instr.keyThatStays (.agg ⟨xs⟩) (.agg ⟨xs⟩)).run P w=.ok (.agg ⟨xs⟩) w:=by
 simp [Instr.keyThatStays,h]
theorem wide_ask {P:Program}{kt:TypeId}(hw:(match P.underlying kt with | some (.array _ _) | some (.struct _)=>true | _=>false)=true)(x:Value)(es:List MapEntry)(w:World):(Instr.findKey kt x es).run P w=(Instr.findAsking kt x es).run P w:=run_findKey_eq w hw x es
def keyI2 {P:Program}{kt e:TypeId}(hu:P.underlying kt=some (.array 2 e))(he:P.underlying e=some (.int .i64))(hi:(P.info? e).map (·.size)=some 1)(ht:flatArr P kt=true):KeyP P kt (Int × Int) where
 enc:=encI2
 check p em w:=by
  obtain ⟨i,h1,h2⟩:=Option.map_eq_some_iff.1 hi
  exact checkKey_arr2 hu he h1 h2 p em w
 ask x es w:=wide_ask (by rw [hu]) x es w
 same a b w:=by
  have h:=run_eq_arr (P:=P) ht (xs:=[.int .i64 a.1,.int .i64 a.2]) (ys:=[.int .i64 b.1,.int .i64 b.2]) (by unfold fitE;rw [hu];show (Nat.beq 2 2 && List.all _ (fun x=>fitOne (P.underlying e) x))=true;rw [he];rfl) (b:=decide (a=b)) (by
   obtain ⟨a1,a2⟩:=a
   obtain ⟨b1,b2⟩:=b
   simp [eqRow,scal]
   by_cases h1:a1=b1 <;> by_cases h2:a2=b2 <;> simp [h1,h2]) w
  exact h
 stays a w:=stays_row (by simp [Instr.sameBits]) w
def encS2 (p:List UInt8 × List UInt8):Value:=.agg ⟨[strV p.1,strV p.2]⟩
theorem checkKey_str2 {P : Program} {kt : TypeId} {f0 f1 : Field} (hu : P.underlying kt = some (.struct #[f0, f1])) (h0 : P.underlying f0.type = some .string) (h1 : P.underlying f1.type = some .string) (hn0 : f0.name ≠ "_") (hn1 : f1.name ≠ "_") (ho0 : f0.offset = 0) (ho1 : f1.offset = 1) (p : List UInt8 × List UInt8) (em : Bool) (w : World) :
  (Instr.checkKey em 10000 kt (encS2 p)).run P w=.ok () w:=by
 have hk:∀ (f:Field)(s:List UInt8),P.underlying f.type=some .string->(Instr.checkKey em (9998+1) f.type (strV s)).run P w=.ok () w:=fun f s h=>run_checkKey h (by simp [IsKey,strV]) em 9998
 have hpart:∀ (f:Field)(s:List UInt8)(xs:Array Value)(j:Nat),P.underlying f.type=some .string->xs[j]?=some (strV s)->(part f.type xs j).run P w=.ok (strV s) w:=fun f s xs j hf h=>by
  unfold part
  simp only [Sem.run_bind,dW hf rfl w,Result.andThen_ok,Bool.false_eq_true,if_false,h,Sem.run_pure]
 have q0:=hpart f0 p.1 ⟨[strV p.1,strV p.2]⟩ 0 h0 rfl
 have q1:=hpart f1 p.2 ⟨[strV p.1,strV p.2]⟩ 1 h1 rfl
 have k0:=hk f0 p.1 h0
 have k1:=hk f1 p.2 h1
 show (Instr.checkKey em (9999+1) kt (encS2 p)).run P w=_
 unfold Instr.checkKey
 simp only [Sem.run_bind,run_underlying hu,Result.andThen_ok,encS2]
 simp [hn0,hn1,ho0,ho1,q0,q1,k0,k1]
def keyS2 {P : Program} {kt : TypeId} {f0 f1 : Field} (hu : P.underlying kt = some (.struct #[f0, f1])) (h0 : P.underlying f0.type = some .string) (h1 : P.underlying f1.type = some .string) (hn0 : f0.name ≠ "_") (hn1 : f1.name ≠ "_") (ho0 : f0.offset = 0) (ho1 : f1.offset = 1) (ht : flatEq P kt = true) : KeyP P kt (List UInt8 × List UInt8) where
 enc:=encS2
 check p em w:=checkKey_str2 hu h0 h1 hn0 hn1 ho0 ho1 p em w
 ask x es w:=wide_ask (by rw [hu]) x es w
 same a b w:=by
  have h:=run_eq_flat (P:=P) ht (xs:=[strV a.1,strV a.2]) (ys:=[strV b.1,strV b.2]) (by unfold fitB;rw [hu];show fitF P [f0,f1] _=true;unfold fitF;rw [h0];unfold fitF;rw [h1];rfl) (b:=decide (a=b)) (by
   obtain ⟨a1,a2⟩:=a
   obtain ⟨b1,b2⟩:=b
   simp [eqRow,scal,strV]
   by_cases h1:a1=b1 <;> by_cases h2:a2=b2 <;> simp [h1,h2]) w
  exact h
 stays a w:=stays_row (by simp [Instr.sameBits,strV,str_beq]) w
section
variable {cx:Cx} {n:Nat} {ds:List (Option Nat)} {R:Rg n ds} {its:List It} {fr:Fr} {C:Mem} {L:List Ent} {i k d:Nat} {o:Oper} {g:GL} {v:Value} {κ:Type} [DecidableEq κ]
theorem D.makeMapP {t kt:Nat}(K:KeyP cx.P kt κ)(hk:Nat.ble k 1=false)(hd:o.dst=some d)(hg:gOn ds fr o.guard=true)(hop:o.op=.makeMap t none)(hp:∀ v,aH n ds ((d,[],v)::fr) d=true)
  (h:∀ b,D cx R its ((d,[],.map (some b))::fr) C (.obj b (aF K.enc [])::L)):D cx R ((i,k,o)::its) fr C L :=
 D.newObj (f:=fun b=>.map (some b)) (ob:=aF K.enc []) hk hd hg hp (fun a _ w=>by
  have e1:execOp a.eval o=(do Pure.pure (.value (<- Instr.makeMap t none)):Sem Next):=by unfold execOp;rw [hop];rfl
  rw [e1]
  rfl) h
end
end Go.Jog
namespace Go.Jog
open Go

section
variable {F:Fx} {k:List KI} {fr:Fr} {C:Mem} {L:List Ent}
theorem G.assignEndA {cx:Cx}{fn:Func}{n:Nat}{W1:World}{C C':Mem}{L' LA:List Ent}{post:Value->Mem->List Ent->Prop}{W:Cw cx.P}{fr':Fr}{A:Fr->List Ent->Prop}(hs:Has fr fr')(h:A fr' LA) :
  G ⟨cx,fn,n,⟨W1,C,L'⟩,post,W,[],fun e a w'=>e=.normal/\∃ frA LA,A frA LA/\FrOk n [] [] frA a/\St W1 C L' C LA w'⟩ [] .normal fr C' LA:=fun hle _ _ ha hw =>
 ⟨rfl,fr',LA,h,ha.weaken hs.sub,St.less hw (Mem.le.refl _) hle⟩
end
end Go.Jog
namespace Go.Jog
open Go

section
variable {F:Fx} {k:List KI} {fr:Fr} {C:Mem} {L:List Ent}
def IAD (F:Fx)(I:List Deferred->Fr->Mem->List Ent->Nat->Prop)(C:Mem)(m:Nat)(a:Act)(w:World):Prop :=
 ∃ dd fr C' L',C.le C'/\I dd fr C' L' m/\FrOk F.n [] dd fr a/\F.b.cls (C',L') w
theorem G.loopD {c:Code}(I:List Deferred->Fr->Mem->List Ent->Nat->Prop){m:Nat}{fr':Fr}(hs:Has fr fr')(hI:I F.dd fr' C L m)
  (hr:∀ dd fr C' L' m,C.le C'->I dd fr C' L' m->G { F with dd:=dd } (norm 64 (.code c::.inv (fun a w=>∃ m',m'<m/\IAD F I C m' a w)::k)) .normal fr C' L'):G F (.code (.loop c)::k) .normal fr C L:=fun h0 a w ha hw=>by
 simp only [Kq]
 refine wp_loop_ex F.W (IAD F I C) ⟨F.dd,fr',C,L,Mem.le.refl _,hI,ha.weaken hs.sub,hw⟩ (fun m a w ⟨dd1,fr1,C1,L1,hle,hI1,ha1,hw1⟩=>?_)
 have h1:=G.bV 64 (hr dd1 fr1 C1 L1 m hle hI1) (h0.trans hle) a w ha1 hw1
 rw [Kq_dd] at h1
 refine F.W.mono (fun e a w q=>?_) h1
 cases e <;> exact q
theorem G.againD {dd:List Deferred}{I:List Deferred->Fr->Mem->List Ent->Nat->Prop}{C0:Mem}{m m':Nat}{fr':Fr}(hlt:m'<m)(hle:C0.le C)(hs:Has fr fr')(hI:I dd fr' C L m') :
  G { F with dd:=dd } (.inv (fun a w=>∃ m',m'<m/\IAD F I C0 m' a w)::k) .normal fr C L:=fun _ _a _w ha hw =>
 ⟨m',hlt,dd,fr',C,L,hle,hI,ha.weaken hs.sub,hw⟩
theorem G.rangeFuncD {g:Operand}{p0 p1:Nat}{assign body:Code}{gf:FuncId}{lb:Array Value}{vss:List (Value × Value)}(hW:F.W=Cw.plain F.cx.P)
  (hg:ev fr [] g=some (.func (.func gf) #[] lb)) (hen:Enters F.cx.P gf=true) (hseq:Iter F.cx.P gf lb C vss) (I:Nat->List Ent->Prop) (h0:I 0 L) (_hp:fr.all (fun x=>x.2.1.isEmpty)=true)
  (hok:∀ u v,(aH F.n [] ((p0,[],u)::fr) p0 && aH F.n [] ((p1,[],v)::(p0,[],u)::fr) p1)=true) (A:Nat->List Ent->Fr->List Ent->Prop)
  (hassign:∀ l j u v L' W1,I j L'->vss[j]?=some (u,v)->G ⟨F.cx,F.fn,F.n,⟨W1,C,L'⟩,F.post,Cw.round F.cx.P l 1,[],fun e a w'=>e=.normal/\∃ frA LA,A j L' frA LA/\FrOk F.n [] [] frA a/\St W1 C L' C LA w'⟩ (norm 64 [.code assign]) .normal ((p1,[],v)::(p0,[],u)::fr) C L')
  (hbody:∀ l j u v L' frA LA W1,I j L'->vss[j]?=some (u,v)->A j L' frA LA ->
   G ⟨F.cx,F.fn,F.n,⟨W1,C,LA⟩,F.post,Cw.round F.cx.P l 1,[],fun e _ w'=>e=.normal/\∃ L1,I (j+1) L1/\St W1 C LA C L1 w'⟩ (norm 64 [.code body]) .normal frA C LA)
  (hdone:∀ D L',I vss.length L'->G { F with dd:={ target:=.collected D,args:=#[] }::F.dd } (norm 64 k) .normal fr C (.obj D (.deferred (some []))::L')) :
  G F (.code (.rangeFunc g #[p0,p1] assign body)::k) .normal fr C L:=fun hle a w ha hw=>by
 simp only [Kq,hW]
 show (Code.rangeFunc g #[p0,p1] assign body).wp F.cx.P (Kq F k) a w
 refine (wpIn_wide (n:=3)).1 (wpIn_rangeFunc fun fn _=>?_)
 have hga:a.eval g=.func (.func gf) #[] lb:=bK ha (fun p hp=>by cases hp) hg
 obtain ⟨rec,hrec⟩:∃ rec:LoopState->Loop,rec=fun st=>{ state:=st,pending:=none,fn,tmps:=a.tmps,params:=#[p0,p1],assign,body,defers:=w.heap.size }:=⟨_,rfl⟩
 obtain ⟨W1,hW1⟩:∃ W1,(w.alloc (.deferred (some []))).alloc (.loop (rec .ready))=W1:=⟨_,rfl⟩
 have hS1:St F.b.w0 F.b.C0 F.b.L0 C (.obj (w.heap.size+1) (.loop (rec .ready))::.obj w.heap.size (.deferred (some []))::L) W1:=by
  have:=St.alloc (St.alloc hw (.deferred (some []))) (.loop (rec .ready))
  rw [World.size_alloc] at this
  rw [<- hW1];exact this
 refine ⟨w.heap.size+1,[{ target:=.collected w.heap.size,args:=#[] }],W1,{ target:=.fn (.func gf) lb,args:=#[.func (.yield (w.heap.size+1)) #[] #[]] },W1,gf,
  #[.func (.yield (w.heap.size+1)) #[] #[]]++lb,W1, ?_, ?_,fun _ _=>trivial, ?_,fun _=>by decide, ?_⟩
 ·rw [<- hW1,hrec];exact run_enterLoop_outer _ _ _ _ _
 ·simp only [resolve,hga]
  simp [go_sem]
 ·simp [invoke,go_sem,run_callFunc hen]
 ·refine (hseq (w.heap.size+1) (fun j W=>∃ L',I j L'/\St F.b.w0 F.b.C0 F.b.L0 C (.obj (w.heap.size+1) (.loop (rec .ready))::.obj w.heap.size (.deferred (some []))::L') W) W1
   (fun j W ⟨L',_,hs⟩=>hs.sep.c) (fun j W ⟨L',hi,hs⟩=>⟨L',hi,hs.drew⟩) ?_ ⟨L,h0,hS1⟩).mono ?_
  ·rintro j ⟨u,v⟩ W ⟨L',hi,hs⟩ hj
   have hl:W.heap[w.heap.size+1]?=some (.loop (rec .ready)):=hs.sep.e _ (List.mem_cons_self ..)
   have hy:=run_yield (P:=F.cx.P) (args:=#[u,v]) hl (by rw [hrec];rfl)
   rw [hrec] at hy
   have hz:(#[p0,p1].zip #[u,v]).foldl (fun tmps (x:Nat × Value)=>match x with | (t,a)=>tmps.setIfInBounds t a) a.tmps=(a.tmps.setIfInBounds p0 u).setIfInBounds p1 v:=by simp
   dsimp only at hy
   rw [hz] at hy
   refine ⟨fn,_,assign,body,hy,roundIn_of_wpIn trivial ?_⟩
   have hfr:FrOk F.n [] [] ((p1,[],v)::(p0,[],u)::fr) { tmps:=(a.tmps.setIfInBounds p0 u).setIfInBounds p1 v,defers:=[] }:=by
    have hk:=hok u v
    rw [Bool.and_eq_true] at hk
    have h1:=FrOk.put (u:=u) (FrOk.mk (dd:=F.dd) ha.size ha.defers ha.ent:FrOk F.n [] F.dd fr a) hk.1 ⟨fun _=>rfl,fun hn=>absurd (fun p hp=>by cases hp) hn⟩
    have h2:=FrOk.put (u:=v) h1 hk.2 ⟨fun _=>rfl,fun hn=>absurd (fun p hp=>by cases hp) hn⟩
    exact ⟨h2.size,rfl,h2.ent⟩
   have hA:=G.asIn (hassign (w.heap.size+1) j u v L' W hi hj) (Mem.le.refl _) hfr (St.start hs.drop.drop.sep)
   refine wpIn_mono hA (fun e a1 W2 q=>?_)
   obtain ⟨rfl,frA,LA,hAA,hfr1,hs1⟩:=q
   have hs2a:=St.call (Lp:=L') (Lr:=[.obj (w.heap.size+1) (.loop (rec .ready)),.obj w.heap.size (.deferred (some []))]) (St.perm hs (List.perm_append_comm (l₁:=[_,_]))) hs1
   have hs2:St F.b.w0 F.b.C0 F.b.L0 C (.obj (w.heap.size+1) (.loop (rec .ready))::.obj w.heap.size (.deferred (some []))::LA) W2:=St.perm hs2a (List.perm_append_comm (l₂:=[_,_]))
   have hl2:W2.heap[w.heap.size+1]?=some (.loop (rec .ready)):=hs2.sep.e _ (List.mem_cons_self ..)
   refine ⟨_,run_beginRound hl2 (by rw [hrec]), ?_⟩
   have hs3:St F.b.w0 F.b.C0 F.b.L0 C (.obj (w.heap.size+1) (.loop (rec .busy))::.obj w.heap.size (.deferred (some []))::LA) (W2.putObj (w.heap.size+1) (.loop { rec .ready with state:=.busy })):=by
    have:=St.putObj (o':=.loop { rec .ready with state:=.busy }) hs2
    rw [hrec] at this ⊢
    exact this
   have hB:=G.asIn (hbody (w.heap.size+1) j u v L' frA LA (W2.putObj (w.heap.size+1) (.loop { rec .ready with state:=.busy })) hi hj hAA) (Mem.le.refl _) hfr1 (St.start hs3.drop.drop.sep)
   refine wpIn_mono hB (fun e a2 W4 q=>?_)
   obtain ⟨rfl,L1,hi1,hs4⟩:=q
   have hs5:=St.call (Lp:=LA) (Lr:=[.obj (w.heap.size+1) (.loop (rec .busy)),.obj w.heap.size (.deferred (some []))]) (St.perm hs3 (List.perm_append_comm (l₁:=[_,_]))) hs4
   have hs6:St F.b.w0 F.b.C0 F.b.L0 C (.obj (w.heap.size+1) (.loop (rec .busy))::.obj w.heap.size (.deferred (some []))::L1) W4:=St.perm hs5 (List.perm_append_comm (l₂:=[_,_]))
   have hl4:W4.heap[w.heap.size+1]?=some (.loop (rec .busy)):=hs6.sep.e _ (List.mem_cons_self ..)
   refine ⟨_,_,run_endRound none hl4,rfl,L1,hi1, ?_⟩
   have:=St.putObj (o':=.loop { rec .busy with state:=if (none:Option Code).isNone then .ready else .done,pending:=none }) hs6
   rw [hrec] at this ⊢
   exact this
  ·rintro e W2 ⟨⟨v,rfl⟩,L',hi,hs⟩
   have hl:W2.heap[w.heap.size+1]?=some (.loop (rec .ready)):=hs.sep.e _ (List.mem_cons_self ..)
   refine ⟨none,_,by have:=run_endLoop (P:=F.cx.P) hl (by rw [hrec];simp);rw [hrec] at this;exact this, ?_⟩
   have hs2:St F.b.w0 F.b.C0 F.b.L0 C (.obj w.heap.size (.deferred (some []))::L') (W2.putObj (w.heap.size+1) (.loop { rec .ready with state:=.exhausted })):=(St.putObj hs).drop
   have:=G.bV 64 (hdone w.heap.size L' hi) hle { a with defers:=[{ target:=.collected w.heap.size,args:=#[] }]++a.defers } _ ⟨ha.size,by rw [ha.defers];rfl,ha.ent⟩ hs2
   rw [Kq_dd] at this
   rw [hrec] at this
   exact this

theorem res_cc {cx:Cx}{fn:Func}{n s t b u t2 b2:Nat}{fr:Fr}{C:Mem}{L:List Ent}{dd:List Deferred}{w0:World}{C0:Mem}{L0:List Ent}{tb tb2:TypeId}{fz fz2:Nat × Nat}{cs cs2:List Value}{ti ti2:TI}{y z:Value}(hm:Ent.obj b (.cells ⟨cs⟩ tb fz)∈L)(hm2:Ent.obj b2 (.cells ⟨cs2⟩ tb2 fz2)∈L)(hres:fn.results=#[.cell s t,.cell u t2])
  (hs:ev fr [] (.tmp s)=some (.pointer (some ⟨b,0,none⟩))) (hu:ev fr [] (.tmp u)=some (.pointer (some ⟨b2,0,none⟩))) (ht:cx.T.get t=some ti) (hv:cC ti (cs.take ti.size)=some y) (ht2:cx.T.get t2=some ti2) (hv2:cC ti2 (cs2.take ti2.size)=some z) :
  ∀ a w,FrOk n [] dd fr a->St w0 C0 L0 C L w->(results fn a.tmps).run cx.P w=.ok (.tuple #[y,z]) w:=fun a w ha hw=>by
 have hs':=bK ha (fun p hp=>by cases hp) hs
 have hu':=bK ha (fun p hp=>by cases hp) hu
 simp only [Act.eval] at hs' hu'
 have hl:=run_cell (F:=⟨cx,fn,n,⟨w0,C0,L0⟩,fun _ _ _=>True,Cw.plain cx.P,dd,fun _ _ _=>True⟩) ht (hw.sep.e _ hm) hv
 have hl2:=run_cell (F:=⟨cx,fn,n,⟨w0,C0,L0⟩,fun _ _ _=>True,Cw.plain cx.P,dd,fun _ _ _=>True⟩) ht2 (hw.sep.e _ hm2) hv2
 simp only [Array.getD_eq_getD_getElem?] at hs' hu'
 simp [results,hres,hs',hu',asAddr,hl,hl2]
def collD (D:Nat):Deferred:={ target:=.collected D,args:=#[] }
def collO (D:Nat):Ent:=.obj D (.deferred (some []))
theorem G.finMD {cx:Cx}{fn:Func}{n:Nat}{Ds:List Nat}{b:Bs}{post:Value->Mem->List Ent->Prop}{v:Value}
  (hr:∀ a w,FrOk n [] (Ds.map collD) fr a->St b.w0 b.C0 b.L0 C L w->(results fn a.tmps).run cx.P w=.ok v w) (h:post v C []) (hne:Ds≠[]) :
  G ⟨cx,fn,n,b,post,Cw.plain cx.P,Ds.map collD,bodyPostM Fence.wide 3 cx.P fn (finOf b post)⟩ [] .ret fr C (Ds.map collO++L):=fun hle a w ha hw=>by
 show LeavesInM _ _ _ _ _ _ a.defers _ _
 have ha':=ha
 rw [ha.defers]
 have key:∀ (Es:List Nat)(w:World),Es≠[]->St b.w0 b.C0 b.L0 C (Es.map collO++L) w->LeavesInM Fence.wide 3 cx.P fn a.tmps (finOf b post) (Es.map collD) .returning w:=by
  intro Es
  induction Es with
  | nil=>exact fun _ h0=>absurd rfl h0
  | cons D Es ih =>
   intro w _ hw
   have hD:w.heap[D]?=some (.deferred (some [])):=hw.sep.e _ (List.mem_cons_self ..)
   have hs:=(St.putObj (o':=.deferred none) hw).drop
   cases Es with
   | nil=>exact ⟨by simp,.inl ⟨D,_,rfl,run_takeDeferred hD,v,hr a _ ha' hs,v,C,[],rfl,St.dropAll hs,h⟩⟩
   | cons E Es=>exact ⟨by simp,.inl ⟨D,_,rfl,run_takeDeferred hD,ih _ (by simp) hs⟩⟩
 exact key Ds w hne hw
end
end Go.Jog
namespace Go.Proofs.YtmgkekjbbodicaaGreatDoor
open Go Go.Jog
set_option maxRecDepth 100000

def sideK (t:Tri)(k:Nat):Int × Int:=(triZ t k,triZ t ((k+1) % 3))
abbrev OwnM:=List ((Int × Int) × Value)
def ownT (m:OwnM)(i:Nat)(t:Tri):Nat->OwnM
 | 0=>m
 | k+1=>mset (ownT m i t k) (sideK t k) (.int .i64 (i:Nat))
def ownN (tris:List Tri):Nat->OwnM
 | 0=>[]
 | n+1=>ownT (ownN tris n) n (tris.getD n (0,0,0)) 3
noncomputable def kI2:KeyP cx.P 158 (Int × Int):=keyI2 rfl rfl rfl (by kernel_rfl)
theorem owners_fn (C:Mem)(v1 v2:Value)(tris:List Tri)(h0:tris≠[])(h2:Sl C 3 v2 (tris.map encT))(hd:∀ i t k,tris[i]?=some t->k<3->mget (ownT (ownN tris i) i t k) (sideK t k)=none) :
  Pur cx.P 178 [.agg ⟨[v1,v2]⟩] C fun u D=>∃ b,u=.tuple #[.map (some b),.bool true]/\D b=some (aF encI2 (ownN tris tris.length)):=by
 obtain ⟨A2,c2,rfl,hq3,hq4,_⟩:=id h2
 have hmx:maxLen<=9223372036854775807:=by simp [maxLen]
 simp only [List.length_map] at h2 hq3 ⊢
 refine Fn.introM (by kernel_rfl) Tryz.func178 rfl 36 rfl rfl (fun w0=>?_)
 refine G.rg fun R hR=>?_
 refine D.aE (fun b1=>?_)
 refine D.aq (fun b2=>?_)
 refine D.aq (fun b3=>?_)
 refine D.e3 1 2 3 hR ?_
 refine G.rg fun R hR=>?_
 refine D.makeMapP kI2 rfl rfl rfl rfl (fun _=>rfl) (fun b11=>?_)
 refine D.aq (fun b4=>?_)
 refine D.aj (j:=0) ?_
 refine D.e4 1 2 3 4 hR ?_
 refine G.rp 1 fun R hR=>?_
 refine D.ag (.tail _ (.tail _ (.tail _ (.tail _ (.head _))))) ?_
 refine D.q6 2 2 3 4 13 14 15 hR ?_
 refine G.perm (L':=[.obj b4 (.cells ⟨[.map (some b11)]⟩ 246 (0,0)),.obj b11 (aF encI2 []),.obj b3 (.cells ⟨[.bool false]⟩ 4 (0,0)),.obj b2 (.cells ⟨[.map none]⟩ 246 (0,0)),.obj b1 (.cells ⟨[v1,.slice A2 tris.length c2]⟩ 37 (0,0))]) (List.Perm.refl _) ?_
 refine G.loopD (fun dd fr C' L' μ=>∃ (i:Nat)(Ds:List Nat),(i<=tris.length/\Ds.length=i)/\dd=Ds.map collD/\fr=[(2,[],.pointer (some ⟨b2,0,none⟩)),(3,[],.pointer (some ⟨b3,0,none⟩)),(4,[],.pointer (some ⟨b4,0,none⟩)),(13,[],.slice A2 tris.length c2),(14,[],.int .i64 tris.length),(15,[],.int .i64 i)]/\L'=[.obj b4 (.cells ⟨[.map (some b11)]⟩ 246 (0,0)),.obj b11 (aF encI2 (ownN tris i)),.obj b3 (.cells ⟨[.bool false]⟩ 4 (0,0)),.obj b2 (.cells ⟨[.map none]⟩ 246 (0,0)),.obj b1 (.cells ⟨[v1,.slice A2 tris.length c2]⟩ 37 (0,0))]++Ds.map collO/\μ=tris.length-i) (h_6 2 3 4 13 14 15) ⟨0,[],⟨Nat.zero_le _,rfl⟩,rfl,rfl,rfl,rfl⟩ (fun dd fr C0' L0' m hle0 hI=>?_)
 obtain ⟨i,Ds,⟨hi,hDs⟩,rfl,rfl,rfl,rfl⟩:=hI
 refine G.z7 1 2 3 4 13 14 15 16 ?_
 refine G.cd (fun h16=>?_) fun h16=>?_
 ·have hil:i<tris.length:=by simpa using h16
  obtain ⟨t,ht⟩:∃ t,tris[i]?=some t:=⟨tris[i],List.getElem?_eq_getElem hil⟩
  refine G.rp 1 fun R hR=>?_
  refine D.ap (h2.mono mup) rfl rfl rfl rfl rfl rfl rfl rfl rfl rfl (by omega) (by rw [List.getElem?_map,ht];rfl:(tris.map encT)[i]?=some (encT t)) (fun _=>rfl) (fun p18 hp18=>?_)
  refine D.aa hp18 ?_
  refine D.aq (fun b5=>?_)
  refine D.aq (fun b6=>?_)
  refine D.aj (j:=1) ?_
  refine D.aj (j:=1) ?_
  refine D.e8 2 3 4 5 6 13 14 15 hR ?_
  refine G.rg fun R hR=>?_
  refine D.ag (.head _) ?_
  refine D.aU (sides_fn _ t) (fun v21 C21 hle21 hq21=>?_)
  refine D.e8 2 3 4 5 13 14 15 21 hR ?_
  obtain ⟨bb,rfl,hbb⟩:=hq21
  refine G.rangeFuncD rfl rfl (by kernel_rfl) (sides_iter _ bb _ t hbb) (fun j L'=>∃ (z:Unit),(j<=3)/\L'=[.obj b6 (.cells ⟨encT t⟩ 121 (0,0)),.obj b5 (.cells ⟨[.int .i64 i]⟩ 3 (0,0)),.obj b4 (.cells ⟨[.map (some b11)]⟩ 246 (0,0)),.obj b11 (aF encI2 (ownT (ownN tris i) i t j)),.obj b3 (.cells ⟨[.bool false]⟩ 4 (0,0)),.obj b2 (.cells ⟨[.map none]⟩ 246 (0,0)),.obj b1 (.cells ⟨[v1,.slice A2 tris.length c2]⟩ 37 (0,0))]++Ds.map collO) ⟨(),Nat.zero_le _,rfl⟩ rfl (fun _ _=>rfl) (fun j L' fr LA=>∃ (b8:Nat),fr=[(2,[],.pointer (some ⟨b2,0,none⟩)),(3,[],.pointer (some ⟨b3,0,none⟩)),(4,[],.pointer (some ⟨b4,0,none⟩)),(5,[],.pointer (some ⟨b5,0,none⟩)),(8,[],.pointer (some ⟨b8,0,none⟩))]/\LA=.obj b8 (.cells ⟨[.int .i64 (sideK t j).1,.int .i64 (sideK t j).2]⟩ 158 (0,0))::L') (fun l j u v L' W1 hI hj=>?_) (fun l j u v L' frA LA W1 hI hj hA=>?_) (fun bD L' hI=>?_)
  ·obtain ⟨z,hj3,rfl⟩:=hI
   have hjl:j<3:=by have:=(List.getElem?_eq_some_iff.1 hj).1;rwa [sidesV_len] at this
   rw [sidesV_at hjl] at hj
   cases hj
   refine G.rg fun R hR=>?_
   refine D.aq (fun b8=>?_)
   refine D.aj (j:=0) ?_
   refine D.e5 2 3 4 5 8 hR ?_
   exact G.assignEndA (h_5 2 3 4 5 8) ⟨b8,rfl,rfl⟩
  ·obtain ⟨z,hj3,rfl⟩:=hI
   obtain ⟨b8,rfl,rfl⟩:=hA
   have hjl:j<3:=by have:=(List.getElem?_eq_some_iff.1 hj).1;rwa [sidesV_len] at this
   refine G.rg fun R hR=>?_
   refine D.ag (.tail _ (.tail _ (.tail _ (.head _)))) ?_
   refine D.ag (.head _) ?_
   refine D.lookupLP kI2 (.tail _ (.tail _ (.tail _ (.tail _ (.head _))))) rfl rfl rfl rfl rfl rfl rfl rfl rfl (congrArg (lookV _ true) (hd i t j ht hjl)) rfl rfl ?_
   refine D.q6 5 2 3 4 5 8 10 hR ?_
   refine G.z6 1 2 3 4 5 8 30 ?_
   refine G.cd (fun h30=>?_) fun h30=>?_
   ·exact absurd h30 (by decide)
   ·refine G.rg fun R hR=>?_
    refine D.ag (.tail _ (.tail _ (.tail _ (.head _)))) ?_
    refine D.ag (.head _) ?_
    refine D.ag (.tail _ (.tail _ (.head _))) ?_
    refine D.fP kI2 (j:=4) rfl rfl rfl rfl rfl rfl rfl rfl rfl rfl ?_
    refine D.done [] trivial (hR _ _ _ rfl ?_)
    refine G.cS 1 rfl ?_
    exact G.fN (R:=fun L'=>∃ (z:Unit),((j+1)<=3)/\L'=[.obj b6 (.cells ⟨encT t⟩ 121 (0,0)),.obj b5 (.cells ⟨[.int .i64 i]⟩ 3 (0,0)),.obj b4 (.cells ⟨[.map (some b11)]⟩ 246 (0,0)),.obj b11 (aF encI2 (ownT (ownN tris i) i t (j+1))),.obj b3 (.cells ⟨[.bool false]⟩ 4 (0,0)),.obj b2 (.cells ⟨[.map none]⟩ 246 (0,0)),.obj b1 (.cells ⟨[v1,.slice A2 tris.length c2]⟩ 37 (0,0))]++Ds.map collO) (List.perm_middle (l₁:=[_,_,_])).symm ⟨(),(by omega),rfl⟩
  ·obtain ⟨z,hj3,rfl⟩:=hI
   refine G.rg fun R hR=>?_
   refine D.am _ ?_
   refine D.q6 1 2 3 4 13 14 15 hR ?_
   refine G.cS 1 rfl ?_
   refine G.cS 1 rfl ?_
   refine G.perm (L':=[.obj b4 (.cells ⟨[.map (some b11)]⟩ 246 (0,0)),.obj b11 (aF encI2 (ownN tris (i+1))),.obj b3 (.cells ⟨[.bool false]⟩ 4 (0,0)),.obj b2 (.cells ⟨[.map none]⟩ 246 (0,0)),.obj b1 (.cells ⟨[v1,.slice A2 tris.length c2]⟩ 37 (0,0))]++(bD::Ds).map collO) (by
    rw [show ownN tris (i+1)=ownT (ownN tris i) i t (sidesV t).length by rw [sidesV_len,ownN,List.getD_eq_getElem?_getD,ht];rfl]
    exact (List.perm_middle (l₁:=[_,_,_,_,_])).symm) ?_
   refine G.againD (m':=tris.length-(i+1)) (by omega) mup (h_6 2 3 4 13 14 15) ⟨i+1,bD::Ds,⟨by omega,by simp [hDs]⟩,rfl,rfl,rfl,rfl⟩
 ·have hil:i=tris.length:=by
   have:¬ i<tris.length:=by simpa using h16
   omega
  refine G.rg fun R hR=>?_
  refine D.ag (.head _) ?_
  refine D.aj (j:=3) ?_
  refine D.aj (j:=3) ?_
  refine D.e2 2 3 hR ?_
  refine G.freeze 3 rfl (fun Cf hlef hbf=>?_)
  refine G.perm (L':=Ds.map collO++[_,_,_,_]) (List.perm_append_comm (l₁:=[_,_,_,_])) ?_
  refine G.aA (G.finMD (res_cc (.tail _ (.head _)) (.head _) rfl rfl rfl rfl rfl rfl rfl) ?_ ?_)
  ·exact ⟨rfl,b11,rfl,by rw [<- hil];exact hbf⟩
  ·intro e
   rw [e] at hDs
   have:=List.length_pos_iff.2 h0
   simp at hDs
   omega

theorem divS_one (z:Int):divS z 1=(z:Rat):=by
 unfold divS
 rw [if_neg (by decide),show (1:Int).natAbs=1 from rfl]
 exact (Rat.mkRat_one z)
theorem at_fn (C:Mem)(hT:Tabs C)(x y:Int)(hx:x.natAbs<9000000000000000000)(hy:y.natAbs<9000000000000000000):Gives cx.P 76 [.int .i64 x,.int .i64 y] C (ptV ((x:Rat),(y:Rat))):=by
 refine Fn.it (by kernel_rfl) Tryz.func76 10 fun w0=>?_
 refine G.rg fun R hR=>?_
 refine D.aq (fun b4=>?_)
 refine D.e3 0 1 4 hR ?_
 refine G.rp 1 fun R hR=>?_
 refine D.af (of2_fn _ (hT.mono mup) x 1 hx (by decide) (by decide)) rfl rfl rfl rfl rfl rfl rfl (fun _=>rfl) ?_
 refine D.ae ?_
 refine D.af (of2_fn _ (hT.mono mup) y 1 hy (by decide) (by decide)) rfl rfl rfl rfl rfl rfl rfl (fun _=>rfl) ?_
 rw [divS_one,divS_one]
 refine D.ak (encP ((x:Rat),(y:Rat))) ?_
 refine D.aj (j:=0) ?_
 refine D.e1 4 hR ?_
 refine G.aA (G.ee (.head _) rfl rfl rfl rfl ?_)
 exact ⟨rfl,rfl⟩
theorem vec_fn (C:Mem)(hT:Tabs C)(x y z:Int)(hx:x.natAbs<9000000000000000000)(hy:y.natAbs<9000000000000000000)(hz:z.natAbs<9000000000000000000):Gives cx.P 77 [.int .i64 x,.int .i64 y,.int .i64 z] C (.agg ⟨[strV (qtx (x:Rat)),strV (qtx (y:Rat)),strV (qtx (z:Rat))]⟩):=by
 refine Fn.it (by kernel_rfl) Tryz.func77 14 fun w0=>?_
 refine G.rg fun R hR=>?_
 refine D.aq (fun b6=>?_)
 refine D.e4 0 1 2 6 hR ?_
 refine G.rp 1 fun R hR=>?_
 refine D.af (of2_fn _ (hT.mono mup) x 1 hx (by decide) (by decide)) rfl rfl rfl rfl rfl rfl rfl (fun _=>rfl) ?_
 refine D.ae ?_
 refine D.af (of2_fn _ (hT.mono mup) y 1 hy (by decide) (by decide)) rfl rfl rfl rfl rfl rfl rfl (fun _=>rfl) ?_
 refine D.ae ?_
 refine D.af (of2_fn _ (hT.mono mup) z 1 hz (by decide) (by decide)) rfl rfl rfl rfl rfl rfl rfl (fun _=>rfl) ?_
 rw [divS_one,divS_one,divS_one]
 refine D.ak [strV (qtx (x:Rat)),strV (qtx (y:Rat)),strV (qtx (z:Rat))] ?_
 refine D.aj (j:=0) ?_
 refine D.e1 6 hR ?_
 refine G.aA (G.ee (.head _) rfl rfl rfl rfl ?_)
 exact ⟨rfl,rfl⟩

theorem str_row {l:List Str}{i:Nat}{s:Str}(h:l[i]?=some s):(l.map dM)[i]?=some (dM s):=by rw [List.getElem?_map,h];rfl
theorem same13_fn (C:Mem)(v w:Value)(l m:List Str)(hv:Sl C 1 v (l.map dM))(hw:Sl C 1 w (m.map dM)):Gives cx.P 24 [v,w] C (.bool (decide (l=m))):=by
 obtain ⟨A0,c0,rfl,hc1,hc2,_⟩:=id hv
 obtain ⟨A1,c1,rfl,hd1,hd2,_⟩:=id hw
 have hmx:maxLen<=9223372036854775807:=by simp [maxLen]
 simp only [List.length_map] at hv hw hc1 hd1 ⊢
 refine Fn.it (by kernel_rfl) Tryz.func24 26 fun w0=>?_
 refine G.z2 1 0 1 ?_
 refine G.z3 5 0 1 10 ?_
 refine G.cd (fun h10=>?_) fun h10=>?_
 ·have hne:l.length≠m.length:=by
   intro e
   rw [e] at h10
   simp at h10
  refine G.z1 1 4 ?_
  refine G.rf ?_
  refine ⟨?_,rfl⟩
  rw [decide_eq_false (fun e:l=m=>hne (by rw [e]))]
 ·have hlen:l.length=m.length:=by
   have h:(l.length:Int)=(m.length:Int):=by simpa using h10
   omega
  refine G.z3 1 0 1 5 ?_
  refine G.loop (fun fr C' L' μ=>∃ (i:Nat),(i<=l.length/\l.take i=m.take i)/\fr=[(0,[],.slice A0 l.length c0),(1,[],.slice A1 m.length c1),(5,[],.int .i64 i)]/\L'=[]/\μ=l.length-i) (h_3 0 1 5) ⟨0,⟨Nat.zero_le _,rfl⟩,rfl,rfl,rfl⟩ (fun fr C0' L0' m hle0 hI=>?_)
  obtain ⟨i,⟨hi,he⟩,rfl,rfl,rfl⟩:=hI
  refine G.z4 4 0 1 5 14 ?_
  refine G.cd (fun h14=>?_) fun h14=>?_
  ·have hil:i<l.length:=by simpa using h14
   obtain ⟨s,hs⟩:∃ s,l[i]?=some s:=⟨l[i],List.getElem?_eq_getElem hil⟩
   obtain ⟨t,ht⟩:∃ t,m[i]?=some t:=⟨m[i]'(by omega),List.getElem?_eq_getElem (by omega)⟩
   refine G.aI [0,1,2,3,4,5,6,7,8] [] rfl (by kernel_rfl) (fun R hB hR=>?_)
   refine D.ps 2 ?_
   refine D.ap (hv.mono mup) rfl rfl rfl rfl rfl rfl rfl rfl rfl rfl (by omega) (str_row hs) (fun _=>rfl) (fun p19 hp19=>?_)
   refine D.aa hp19 ?_
   refine D.ps 2 ?_
   refine D.ap (hw.mono mup) rfl rfl rfl rfl rfl rfl rfl rfl rfl rfl (by omega) (str_row ht) (fun _=>rfl) (fun p23 hp23=>?_)
   refine D.aa hp23 ?_
   refine D.q4 1 0 1 5 25 hR ?_
   refine G.cd (fun h25=>?_) fun h25=>?_
   ·have hne:s≠t:=by
     intro e
     subst e
     simp at h25
    refine G.z1 1 4 ?_
    refine G.rf ?_
    refine ⟨?_,rfl⟩
    rw [decide_eq_false (fun e:l=m=>hne (by rw [e,ht] at hs;exact (Option.some.inj hs).symm))]
   ·have heq:s=t:=by simpa using h25
    refine G.rp 1 fun R hR=>?_
    refine D.am _ ?_
    refine D.q3 1 0 1 5 hR ?_
    refine G.au (m':=l.length-(i+1)) (by omega) hle0 (h_3 0 1 5) ⟨i+1,⟨by omega,by rw [List.take_add_one,List.take_add_one,hs,ht,he,heq]⟩,rfl,rfl,rfl⟩
  ·have hil:i=l.length:=by
    have:¬ i<l.length:=by simpa using h14
    omega
   refine G.z1 1 4 ?_
   refine G.rf ?_
   refine ⟨?_,rfl⟩
   rw [hil,List.take_length,hlen,List.take_length] at he
   rw [decide_eq_true he]

def sheetV (kd a b:Int)(h:Bool):Value:=.agg ⟨[.int .u8 kd,.int .i8 a,.int .i8 b,.bool h]⟩
def cM (h:Bool):Int:=if h then 2 else 1
def cB (a b:Int)(h:Bool)(x y by':Int):Pt:=(divS (x+a.tmod 8*by') (cM h*by'),divS (y+b.tmod 8*by') (cM h*by'))
theorem tmod8 (a:Int):-8<a.tmod 8/\a.tmod 8<8:=by
 have h:(a.tmod 8).natAbs=a.natAbs % 8:=Int.natAbs_tmod a 8
 omega
theorem place_fn (C:Mem)(hT:Tabs C)(kd a b:Int)(h:Bool)(x y n:Int)(hn:0<n)(hn4:n<=4)(hx:-128<=x/\x<=127)(hy:-128<=y/\y<=127) :
  Gives cx.P 79 [sheetV kd a b h,.agg ⟨[.int .i8 x,.int .i8 y]⟩,.int .i64 n] C (ptV (cB a b h x y n)):=by
 have ha:=tmod8 a
 have hb:=tmod8 b
 have hprod:∀ z:Int, -8<z->z<8->-32<z*n/\z*n<32:=fun z h1 h2=>by
  rcases (by omega:n=1∨n=2∨n=3∨n=4) with e | e | e | e <;> subst e <;> omega
 have hpa:=hprod _ ha.1 ha.2
 have hpb:=hprod _ hb.1 hb.2
 have hh:cM h=1∨cM h=2:=by cases h <;> simp [cM]
 have hd:0<cM h*n/\cM h*n<=8:=by rcases hh with e | e <;> rw [e] <;> omega
 refine Fn.it (by kernel_rfl) Tryz.func79 53 fun w0=>?_
 refine G.rg fun R hR=>?_
 refine D.aE (fun b3=>?_)
 refine D.aE (fun b4=>?_)
 refine D.aq (fun b6=>?_)
 refine D.e4 2 3 4 6 hR ?_
 refine G.z5 1 2 3 4 6 7 ?_
 refine G.rp 1 fun R hR=>?_
 refine D.ag (.tail _ (.tail _ (.head _))) ?_
 refine D.e6 2 3 4 6 7 13 hR ?_
 refine G.cut (fun fr C' L' μ=>(True)/\fr=[(2,[],.int .i64 n),(3,[],.pointer (some ⟨b3,0,none⟩)),(4,[],.pointer (some ⟨b4,0,none⟩)),(6,[],.pointer (some ⟨b6,0,none⟩)),(7,[],.int .i64 (cM h))]/\L'=[.obj b6 (.cells ⟨[strV [],strV []]⟩ 91 (0,0)),.obj b4 (.cells ⟨[.int .i8 x,.int .i8 y]⟩ 23 (0,0)),.obj b3 (.cells ⟨[.int .u8 kd,.int .i8 a,.int .i8 b,.bool h]⟩ 25 (0,0))]) ?_ (fun fr C13 L13 μ hle13 hI=>?_)
 ·refine G.cd (fun h13=>?_) fun h13=>?_
  ·have h1:h=true:=h13
   subst h1
   refine G.z5 1 2 3 4 6 7 ?_
   refine G.ax 0 (Mem.le.refl _) (h_5 2 3 4 6 7) ⟨trivial,rfl,rfl⟩
  ·have h1:h=false:=by simpa using h13
   subst h1
   refine G.ax 0 (Mem.le.refl _) (h_5 2 3 4 6 7) ⟨trivial,rfl,rfl⟩
 ·obtain ⟨_,rfl,rfl⟩:=hI
  refine G.rg fun R hR=>?_
  refine D.aw (0) rfl rfl rfl rfl rfl rfl rfl rfl rfl (fun _=>⟨by decide,by decide,rfl⟩) rfl rfl ?_
  refine D.ag (.tail _ (.head _)) ?_
  refine D.cY (c:=x) rfl rfl rfl rfl rfl rfl rfl rfl (wrap_i64 (by omega) (by omega)) (fun _=>rfl) ?_
  refine D.ae ?_
  refine D.aw (1) rfl rfl rfl rfl rfl rfl rfl rfl rfl (fun _=>⟨by decide,by decide,rfl⟩) rfl rfl ?_
  refine D.ag (.tail _ (.tail _ (.head _))) ?_
  refine D.fA (a.tmod 8) rfl rfl rfl rfl rfl rfl (by decide) rfl rfl rfl ?_
  refine D.cY (c:=a.tmod 8) rfl rfl rfl rfl rfl rfl rfl rfl (wrap_i64 (by omega) (by omega)) (fun _=>rfl) ?_
  refine D.ae ?_
  refine D.am _ ?_
  refine D.am _ ?_
  refine D.ps 2 ?_
  refine D.am _ ?_
  refine D.af (rof_fn _ (hT.mono mup) (x+a.tmod 8*n) (cM h*n) (by omega) (by omega) (by omega)) rfl rfl rfl rfl rfl rfl rfl (fun _=>rfl) ?_
  refine D.q6 5 2 3 4 6 7 8 hR ?_
  refine G.rg fun R hR=>?_
  refine D.aw (1) rfl rfl rfl rfl rfl rfl rfl rfl rfl (fun _=>⟨by decide,by decide,rfl⟩) rfl rfl ?_
  refine D.ag (.tail _ (.head _)) ?_
  refine D.cY (c:=y) rfl rfl rfl rfl rfl rfl rfl rfl (wrap_i64 (by omega) (by omega)) (fun _=>rfl) ?_
  refine D.ae ?_
  refine D.aw (2) rfl rfl rfl rfl rfl rfl rfl rfl rfl (fun _=>⟨by decide,by decide,rfl⟩) rfl rfl ?_
  refine D.ag (.tail _ (.tail _ (.head _))) ?_
  refine D.fA (b.tmod 8) rfl rfl rfl rfl rfl rfl (by decide) rfl rfl rfl ?_
  refine D.cY (c:=b.tmod 8) rfl rfl rfl rfl rfl rfl rfl rfl (wrap_i64 (by omega) (by omega)) (fun _=>rfl) ?_
  refine D.ae ?_
  refine D.am _ ?_
  refine D.am _ ?_
  refine D.ps 2 ?_
  refine D.am _ ?_
  refine D.af (rof_fn _ (hT.mono mup) (y+b.tmod 8*n) (cM h*n) (by omega) (by omega) (by omega)) rfl rfl rfl rfl rfl rfl rfl (fun _=>rfl) ?_
  refine D.q3 5 6 8 10 hR ?_
  refine G.rp 2 fun R hR=>?_
  refine D.ak (encP (cB a b h x y n)) ?_
  refine D.aj (j:=0) ?_
  refine D.e1 6 hR ?_
  refine G.aA (G.ee (.head _) rfl rfl rfl rfl ?_)
  exact ⟨rfl,rfl⟩

def eJ (s p:Nat):Value:=.agg ⟨[.int .i64 (s:Nat),.int .i64 (p:Nat)]⟩
theorem scount_fn (C:Mem)(s p:Nat)(h:s*p<=1000000000):Gives cx.P 40 [eJ s p] C (.int .i64 ((s*p:Nat):Int)):=by
 refine Fn.it (by kernel_rfl) Tryz.func40 8 fun w0=>?_
 refine G.rg fun R hR=>?_
 refine D.aE (fun b1=>?_)
 refine D.q1 1 1 hR ?_
 refine G.rp 1 fun R hR=>?_
 refine D.ag (.head _) ?_
 refine D.ae ?_
 refine D.ag (.head _) ?_
 refine D.am _ ?_
 refine D.q1 1 2 hR ?_
 refine G.rf ?_
 exact ⟨rfl,rfl⟩
theorem sat_fn (C:Mem)(s p:Nat)(i k:Int)(h:-1000000000000<=i*p/\i*p<=1000000000000)(hk:-1000000000<=k/\k<=1000000000):Gives cx.P 41 [eJ s p,.int .i64 i,.int .i64 k] C (.int .i64 (i*p+k)):=by
 refine Fn.it (by kernel_rfl) Tryz.func41 13 fun w0=>?_
 refine G.rg fun R hR=>?_
 refine D.aE (fun b3=>?_)
 refine D.q3 1 1 2 3 hR ?_
 refine G.rp 2 fun R hR=>?_
 refine D.ag (.head _) ?_
 refine D.am _ ?_
 refine D.ae ?_
 refine D.am _ ?_
 refine D.q1 1 6 hR ?_
 refine G.rf ?_
 exact ⟨rfl,rfl⟩
end Go.Proofs.YtmgkekjbbodicaaGreatDoor
namespace Go.Jog
open Go Go.MapKept

section
variable {cx:Cx} {n:Nat} {ds:List (Option Nat)} {R:Rg n ds} {its:List It} {fr:Fr} {C:Mem} {L:List Ent} {i k d:Nat} {o:Oper} {g:GL} {v:Value}
variable {κ:Type} (enc:κ->Value)

theorem run_lenMap {P:Program}{T:Tab}(hT:tabB P T=true){t kt et:Nat}{ti:TI}(ht:T.get t=some ti)(htk:ti.k=.map kt et){a:Act}{o:Oper}{x:Operand}{b:Nat}{m:List (κ × Value)}(hop:o.op=.call ⟨.builtin .len,#[x],#[t]⟩)(hx:a.eval x=.map (some b)){w:World}(hb:w.heap[b]?=some (aF enc m)) :
  (execOp a.eval o).run P w=.ok (.value (.int .i64 (m.length:Nat))) w:=by
 have hu:=eh hT ht htk
 have e1:execOp a.eval o=(do let dd <- resolve a.eval ⟨.builtin .len,#[x],#[t]⟩ o.type;invoke dd.target dd.args:Sem Next):=by unfold execOp;rw [hop]
 have h1:(getObj b).run P w=.ok (.map ⟨aW enc m 0⟩ m.length) w:=Go.MapKept.run_getObj_map hb
 have hc:(Builtin.len_ #[t] o.type #[.map (some b)]).run P w=.ok (.int .i64 (m.length:Nat)) w:=by
  simp [Builtin.len_,run_underlying hu,h1,mapEs_length,goInt]
 rw [e1]
 simp only [resolve,invoke,builtin,Sem.run_bind,Sem.run_pure,Result.andThen_ok,List.map_toArray,List.map_cons,List.map_nil,hx,hc]

theorem D.lenMapL {b t kt et:Nat}{x:Operand}{m:List (κ × Value)}{ti:TI}(hm:Ent.obj b (aF enc m)∈L)(hk:k=1)(hd:o.dst=some d)(hop:o.op=.call ⟨.builtin .len,#[x],#[t]⟩)(hg:gOf ds fr o.guard=some g)(hx:ev fr g x=some (.map (some b)))
  (ht:cx.T.get t=some ti) (htk:ti.k=.map kt et) (hp:aH n ds ((d,g,.int .i64 (m.length:Nat))::fr) d=true) (hwf:wfG ds fr g=true)
  (h:D cx R its ((d,g,.int .i64 (m.length:Nat))::fr) C L):D cx R ((i,k,o)::its) fr C L :=
 D.det (by subst hk;rfl) hd hg hp hwf (fun _ a hs κ' hκ w hw=>by
  have hb:w.heap[b]?=some (aF enc m):=hw.sep.e _ ((hκ hk).2 _ hm)
  unfold Oper.quietAt
  rw [run_lenMap enc cx.hT ht htk hop (hs _ _ hx) hb]
  exact ⟨rfl,rfl⟩) h
end
end Go.Jog
namespace Go.Jog
open Go Go.MapKept

def keyZ:KeyT (.int .i64) Int where
 enc z:=.int .i64 z
 isKey _:=rfl
 same a b:=by
  simp only [Instr.sameNow,if_true]
  congr 1
section
variable {κ β:Type} [DecidableEq κ]
theorem bH:∀ {m:List (κ × β)}{k:κ},mget m k=none ↔ k ∉ m.map (·.1)
 | [],k=>by simp [mget]
 | (k',v)::m,k=>by
  simp only [mget,List.map_cons,List.mem_cons,not_or]
  by_cases h:k'=k
  ·simp [h]
  ·rw [if_neg h,bH (m:=m)]
   exact ⟨fun h2=>⟨fun e=>h e.symm,h2⟩,fun h2=>h2.2⟩
theorem mset_new:∀ {m:List (κ × β)}{k:κ}{v:β},mget m k=none->mset m k v=m++[(k,v)]
 | [],k,v,_=>rfl
 | (k',v')::m,k,v,h=>by
  simp only [mget] at h
  split at h
  ·cases h
  ·rename_i hne
   simp only [mset,if_neg hne,List.cons_append,mset_new h]
theorem el:∀ {m:List (κ × β)}{k:κ}{v:β},mget m k=some v->(k,v)∈m
 | (k',v')::m,k,v,h=>by
  simp only [mget] at h
  split at h
  ·rename_i e;cases h;subst e;exact List.mem_cons_self
  ·exact List.mem_cons_of_mem _ (el h)
theorem d7:∀ {m:List (κ × β)}{k:κ}{v:β},(m.map (·.1)).Nodup->(k,v)∈m->mget m k=some v
 | (k',v')::m,k,v,hn,h=>by
  simp only [List.map_cons,List.nodup_cons] at hn
  rcases List.mem_cons.1 h with h | h
  ·cases h;simp [mget]
  ·have:k'≠k:=fun e=>hn.1 (e ▸ List.mem_map_of_mem (f:=(·.1)) h)
   simp only [mget,if_neg this]
   exact d7 hn.2 h
theorem mget_perm {m m':List (κ × β)}(h:m.Perm m')(hn:(m.map (·.1)).Nodup)(k:κ):mget m k=mget m' k:=by
 have hn':(m'.map (·.1)).Nodup:=(h.map (·.1)).nodup_iff.1 hn
 cases hg:mget m k with
 | some v=>exact (d7 hn' (h.mem_iff.1 (el hg))).symm
 | none =>
  cases hg':mget m' k with
  | none=>rfl
  | some v=>rw [d7 hn (h.mem_iff.2 (el hg'))] at hg;cases hg
end
abbrev Side:=Int × Int
def swapI (s:Side):Side:=(s.2,s.1)
def bordB (ks:List Side)(s:Side):Bool:=!(decide (swapI s∈ks))
def nxtV (B:List Side):List (Int × Value):=B.map fun s=>(s.1,.int .i64 s.2)
theorem nxtV_len (B:List Side):(nxtV B).length=B.length:=by simp [nxtV]
theorem fc (B:List Side)(p:Int):mget (nxtV B) p=(mget B p).map (.int .i64):=mget_map (fun z:Int=>Value.int .i64 z) B p
theorem nxtV_new {B:List Side}{p q:Int}(h:mget B p=none):mset (nxtV B) p (.int .i64 q)=nxtV (B++[(p,q)]):=by
 rw [mset_new (by rw [fc,h];rfl)]
 simp [nxtV]
def leastP (B:List Side)(f:Int):Prop:=(B=[]/\f=-1)∨(0<=f/\f∈B.map (·.1)/\∀ s∈B,f<=s.1)
def firstM (B:List Side):Int:=B.foldl (fun f s=>if f<0∨s.1<f then s.1 else f) (-1)
theorem leastP_snoc {B:List Side}{f:Int}(h:leastP B f)(s:Side)(hs:0<=s.1):leastP (B++[s]) (if f<0∨s.1<f then s.1 else f):=by
 right
 rcases h with ⟨rfl,rfl⟩ | ⟨h1,h2,h3⟩
 ·rw [if_pos (.inl (by decide))]
  exact ⟨hs,by simp,by simp⟩
 ·by_cases hlt:s.1<f
  ·rw [if_pos (.inr hlt)]
   refine ⟨hs,by simp,fun t ht=>?_⟩
   rcases List.mem_append.1 ht with ht | ht
   ·have:=h3 t ht;omega
   ·rw [List.mem_singleton.1 ht];exact Int.le_refl _
  ·rw [if_neg (by omega)]
   refine ⟨h1,by rw [List.map_append];exact List.mem_append_left _ h2,fun t ht=>?_⟩
   rcases List.mem_append.1 ht with ht | ht
   ·exact h3 t ht
   ·rw [List.mem_singleton.1 ht];omega
theorem leastP_first {B:List Side}(h:∀ s∈B,0<=s.1):leastP B (firstM B):=by
 have key:∀ (B2 B1:List Side)(f:Int),(∀ s∈B2,0<=s.1)->leastP B1 f->leastP (B1++B2) (B2.foldl (fun f s=>if f<0∨s.1<f then s.1 else f) f):=by
  intro B2
  induction B2 with
  | nil=>intro B1 f _ h;simpa using h
  | cons s B2 ih =>
   intro B1 f h1 h2
   have:=ih (B1++[s]) _ (fun t ht=>h1 t (List.mem_cons_of_mem _ ht)) (leastP_snoc h2 s (h1 s List.mem_cons_self))
   simpa using this
 exact key B [] (-1) h (.inl ⟨rfl,rfl⟩)
theorem leastP_perm {B B':List Side}{f f':Int}(hp:B.Perm B')(h:leastP B f)(h':leastP B' f'):f=f':=by
 rcases h with ⟨rfl,rfl⟩ | ⟨h1,h2,h3⟩
 ·rcases h' with ⟨_,rfl⟩ | ⟨_,h5,_⟩
  ·rfl
  ·rw [<- hp.nil_eq] at h5;simp at h5
 ·rcases h' with ⟨rfl,_⟩ | ⟨h4,h5,h6⟩
  ·rw [hp.eq_nil] at h2;simp at h2
  ·obtain ⟨s,hs,rfl⟩:=List.mem_map.1 h2
   obtain ⟨t,ht,rfl⟩:=List.mem_map.1 h5
   have a:=h3 t (hp.mem_iff.2 ht)
   have b:=h6 s (hp.mem_iff.1 hs)
   omega
def walkM (B:List Side)(first:Int):Nat->Int->List Int->Option (List Int)
 | 0,_,out=>some out
 | k+1,p,out=>match mget B p with
  | none=>none
  | some q=>if p=first/\out≠[] then none else walkM B first k q (out++[p])
theorem walkM_perm {B B':List Side}(hp:B.Perm B')(hn:(B.map (·.1)).Nodup)(first:Int):∀ (k:Nat)(p:Int)(out:List Int),walkM B first k p out=walkM B' first k p out
 | 0,_,_=>rfl
 | k+1,p,out=>by
  simp only [walkM,mget_perm hp hn]
  cases mget B' p with
  | none=>rfl
  | some q=>simp only [walkM_perm hp hn first k]
def outM (ks:List Side):Option (List Int) :=
 if ((ks.filter (bordB ks)).map (·.1)).Nodup then walkM (ks.filter (bordB ks)) (firstM (ks.filter (bordB ks))) (ks.filter (bordB ks)).length (firstM (ks.filter (bordB ks))) [] else none
def outL (ks:List Side):List Int:=(outM ks).getD []
theorem outM_twice {ks B:List Side}{s t:Side}(hB:(B++[s]).Nodup)(hsub:∀ x∈B++[s],x∈ks.filter (bordB ks))(ht:t∈B)(he:t.1=s.1):outM ks=none:=by
 unfold outM
 rw [if_neg]
 intro hn
 have h1:=hsub s (by simp)
 have h2:=hsub t (by simp [ht])
 have hne:t≠s:=by
  rintro rfl
  rw [List.nodup_append] at hB
  exact hB.2.2 t ht t (by simp) rfl
 have h3:=d7 hn (k:=s.1) (v:=s.2) h1
 have h4:=d7 hn (k:=t.1) (v:=t.2) h2
 rw [he,h3] at h4
 exact hne (Prod.ext he (Option.some.inj h4).symm)
theorem outM_all {ks B:List Side}{f:Int}(hp:B.Perm (ks.filter (bordB ks)))(hn:(B.map (·.1)).Nodup)(hk:∀ s∈ks,0<=s.1)(hf:leastP B f):outM ks=walkM B f B.length f []:=by
 unfold outM
 rw [if_pos ((hp.map (·.1)).nodup_iff.1 hn),<- walkM_perm hp hn,<- hp.length_eq,<- leastP_perm hp hf (leastP_first fun s hs=>hk s (List.mem_filter.1 hs).1)]
theorem walkM_none {B:List Side}{first:Int}{k:Nat}{p:Int}{out:List Int}(h:mget B p=none∨(p=first/\out≠[])):walkM B first (k+1) p out=none:=by
 simp only [walkM]
 rcases h with h | h
 ·rw [h]
 ·cases mget B p with
  | none=>rfl
  | some q=>simp [h]
theorem walkM_some {B:List Side}{first:Int}{k:Nat}{p q:Int}{out:List Int}(h:mget B p=some q)(h2:¬ (p=first/\out≠[])):walkM B first (k+1) p out=walkM B first k q (out++[p]):=by
 simp only [walkM,h]
 rw [if_neg h2]
def dJ (ks:List Side)(seen:List Nat):List Side:=(seen.map fun j=>ks.getD j (0,0)).filter (bordB ks)
theorem seen_perm {α:Type}{d:α}{seen:List Nat}{ks:List α}(hn:seen.Nodup)(hl:∀ j∈seen,j<ks.length)(hall:∀ j,j<ks.length->j∈seen):(seen.map fun j=>ks.getD j d).Perm ks:=by
 have hp:seen.Perm (List.range ks.length):=(List.perm_ext_iff_of_nodup hn List.nodup_range).2 (fun j=>by
  rw [List.mem_range]
  exact ⟨fun h=>hl j h,fun h=>hall j h⟩)
 refine (hp.map _).trans (List.Perm.of_eq ?_)
 refine List.ext_getElem? (fun i=>?_)
 rw [List.getElem?_map]
 rcases Nat.lt_or_ge i ks.length with h | h
 ·rw [List.getElem?_range h]
  simp [List.getD_eq_getElem?_getD,List.getElem?_eq_getElem h]
 ·rw [List.getElem?_eq_none (by simpa using h),List.getElem?_eq_none h];rfl
theorem seenB_snoc {ks:List Side}{seen:List Nat}{j:Nat}{s:Side}(h:ks[j]?=some s):dJ ks (seen++[j])=dJ ks seen++if bordB ks s then [s] else []:=by
 unfold dJ
 rw [List.map_append,List.filter_append]
 congr 1
 rw [List.map_cons,List.map_nil,List.getD_eq_getElem?_getD,h,List.filter_cons]
 rfl
theorem seenB_sub {ks:List Side}{seen:List Nat}(hl:∀ j∈seen,j<ks.length):∀ x∈dJ ks seen,x∈ks.filter (bordB ks):=by
 intro x hx
 rw [dJ,List.mem_filter] at hx
 obtain ⟨j,hj,rfl⟩:=List.mem_map.1 hx.1
 rw [List.mem_filter]
 refine ⟨?_,hx.2⟩
 rw [List.getD_eq_getElem?_getD,List.getElem?_eq_getElem (hl j hj)]
 exact List.getElem_mem _
theorem seenB_nodup {ks:List Side}(hk:ks.Nodup):∀ {seen:List Nat},seen.Nodup->(∀ j∈seen,j<ks.length)->(dJ ks seen).Nodup:=by
 intro seen hn hl
 unfold dJ
 refine List.Pairwise.filter _ ?_
 rw [List.pairwise_map]
 refine List.Pairwise.imp_of_mem ?_ hn
 intro a b ha hb hab e
 rw [List.getD_eq_getElem?_getD,List.getD_eq_getElem?_getD,List.getElem?_eq_getElem (hl a ha),List.getElem?_eq_getElem (hl b hb)] at e
 exact hab ((List.getElem_inj hk).1 e)
theorem PtrTo.blockT {C:Mem}{b:Nat}{cs:List Value}{t:TypeId}{fz:Nat × Nat}(h:C b=some (.cells ⟨cs⟩ t fz))(off n:Nat):PtrTo C (.pointer (some ⟨b,off,none⟩)) ((cs.drop off).take n) :=
 let ⟨a,h1,h2,h3⟩:=PtrTo.block h off
 ⟨a,h1,h2,fun j v hj=>h3 j v (by
  rw [List.getElem?_take] at hj
  split at hj
  ·exact hj
  ·cases hj)⟩
theorem bkT {C D:Mem}{b:Nat}{cs:List Value}{t:TypeId}{fz:Nat × Nat}(h:C b=some (.cells ⟨cs⟩ t fz))(n:Nat){off:Nat}(hl:C.le D:=by (repeat (first | exact Mem.le.refl _ | assumption | (apply Mem.le.trans;rotate_left;assumption)))):PtrTo D (.pointer (some ⟨b,off,none⟩)) ((cs.drop off).take n):=PtrTo.blockT (Mem.get h hl) off n
theorem lookV_tup (z:Value)(o:Option Value):lookV z true o=.tuple #[o.getD z,.bool o.isSome]:=by cases o <;> rfl
section
variable {F:Fx} {k:List KI} {fr:Fr} {C:Mem} {L:List Ent}
theorem G.formS {e:Exit}{v:Value}{t size len:Nat}{xs:List Value}(hm:Ent.arr v t size len xs∈L)(h:∀ A c,v=.slice A len c->xs.length=len*size->len<=c->c<=maxLen->G F k e fr C L):G F k e fr C L :=
 G.form hm fun hf hx=>by
  rcases hf with ⟨h1,h2⟩ | ⟨g,c,h1,h2,h3⟩
  ·exact h none 0 (by rw [h1,h2]) hx (by omega) (Nat.zero_le _)
  ·exact h _ c h1 hx h2 h3
end
end Go.Jog
namespace Go.Proofs.YtmgkekjbbodicaaGreatDoor
open Go Go.Jog
set_option maxRecDepth 100000

theorem opp_none {m:OwnM}{s:Side}:(mget m (s.2,s.1)).isSome=!bordB (m.map (·.1)) s:=by
 unfold bordB swapI
 rw [Bool.not_not]
 cases h:mget m (s.2,s.1) with
 | none=>rw [bH] at h;simp [h]
 | some v =>
  have:=List.mem_map_of_mem (f:=(·.1)) (el h)
  simp only [Option.isSome_some]
  exact (decide_eq_true this).symm
theorem outer_fn (C:Mem)(v1 v2:Value)(b:Nat)(m:OwnM)(hb:C b=some (aF encI2 m))(hn:(m.map (·.1)).Nodup)(h0:∀ s∈m.map (·.1),0<=s.1)(hml:m.length<=1000000) :
  Pur cx.P 179 [.agg ⟨[v1,v2]⟩,.map (some b)] C fun u D=>∃ v,u=.tuple #[v,.bool (decide (outL (m.map (·.1))≠[]))]/\Sl D 1 v ((outL (m.map (·.1))).map encI):=by
 have hmx:maxLen<=9223372036854775807:=by simp [maxLen]
 have hopp:=fun s:Side=>opp_none (m:=m) (s:=s)
 obtain ⟨ks,hks⟩:∃ ks,m.map (·.1)=ks:=⟨_,rfl⟩
 rw [hks] at hn h0 ⊢
 simp only [hks] at hopp
 have hkl:ks.length=m.length:=by rw [<- hks];simp
 refine Fn.it (by kernel_rfl) Tryz.func179 93 fun w0=>?_
 refine G.rg fun R hR=>?_
 refine D.aE (fun b2=>?_)
 refine D.q1 2 1 hR ?_;clear hR R
 refine G.rg fun R hR=>?_
 refine D.makeMap keyZ rfl rfl rfl rfl (fun _=>rfl) (fun b17=>?_)
 refine D.q2 1 1 6 hR ?_;clear hR R
 refine G.z3 1 1 6 7 ?_
 refine G.rp 1 fun R hR=>?_
 refine D.rangeMapE kI2.enc (Mem.get hb mup) rfl rfl rfl rfl rfl rfl rfl (fun _=>rfl) (fun b19=>?_)
 refine D.e4 1 6 7 19 hR ?_;clear hR R
 refine G.cS 2 rfl ?_
 refine G.loop (fun fr C' L' μ=>∃ (seen:List Nat)(f:Int),(seen.Nodup/\(∀ j∈seen,j<ks.length)/\((dJ ks seen).map (·.1)).Nodup/\leastP (dJ ks seen) f)/\fr=[(1,[],.map (some b)),(6,[],.map (some b17)),(7,[],.int .i64 f),(19,[],.pointer (some ⟨b19,0,none⟩))]/\L'=[.obj b19 (aT b m.length seen),.obj b17 (aF keyZ.enc (nxtV (dJ ks seen)))]/\μ=ks.length-seen.length) (h_4 1 6 7 19) ⟨[], -1,⟨List.nodup_nil,by simp,by simp [dJ],.inl ⟨rfl,rfl⟩⟩,rfl,rfl,rfl⟩ (fun fr C0' L0' m hle0 hI=>?_)
 obtain ⟨seen,f,⟨hsn,hsl,hbn,hle⟩,rfl,rfl,rfl⟩:=hI
 refine G.rg fun R hR=>?_
 refine D.nextMapE kI2.enc (q:=0) (Mem.get hb mup) rfl rfl rfl rfl rfl rfl (fun _=>rfl) (fun go20 rs20 sn20 hn20=>?_)
 refine D.q5 1 1 6 7 19 21 hR ?_;clear hR R
 refine G.cd (fun h21=>?_) fun h21=>?_
 ·obtain ⟨hgo1,j,hj,hjs,rfl⟩:go20=true/\∃ j,j<m.length/\j ∉ seen/\sn20=seen++[j]:=by
   rcases hn20 with ⟨h1,_⟩ | h1
   ·rw [h1] at h21;cases h21
   ·exact h1
  rw [<- hkl] at hj
  obtain ⟨⟨s,bv⟩,hs⟩:∃ p,m[j]?=some p:=⟨m[j]'(by omega),List.getElem?_eq_getElem (by omega)⟩
  have hsk:ks[j]?=some s:=by rw [<- hks,List.getElem?_map,hs];rfl
  have hsn2:(seen++[j]).Nodup:=by
   rw [List.nodup_append]
   exact ⟨hsn,by simp,fun a ha b hb e=>by rw [List.mem_singleton.1 hb] at e;subst e;exact hjs ha⟩
  have hsl2:∀ i∈seen++[j],i<ks.length:=fun i hi=>by
   rcases List.mem_append.1 hi with h | h
   ·exact hsl i h
   ·rw [List.mem_singleton.1 h];exact hj
  have hslen:(seen++[j]).length<=ks.length:=by
   have:=List.Nodup.length_le_of_subset hsn2 (l₂:=List.range ks.length) (fun i hi=>List.mem_range.2 (hsl2 i hi))
   simpa using this
  have hslen3:(seen++[j]).length=seen.length+1:=by simp
  have hB:=seenB_snoc hsk (seen:=seen)
  have hs0:0<=s.1:=h0 s (List.mem_of_getElem? hsk)
  refine G.rg fun R hR=>?_
  refine D.entryMapE kI2.enc (Mem.get hb mup) hs (.head _) rfl rfl rfl rfl rfl rfl rfl ?_
  refine D.ae ?_
  refine D.aq (fun b8=>?_)
  refine D.aj (j:=0) ?_
  refine D.e5 1 6 7 8 19 hR ?_;clear hR R
  refine G.rp 1 fun R hR=>?_
  refine D.aw (1) rfl rfl rfl rfl rfl rfl rfl rfl rfl (fun _=>⟨by decide,by decide,rfl⟩) rfl rfl ?_
  refine D.ag (.head _) ?_
  refine D.aw (0) rfl rfl rfl rfl rfl rfl rfl rfl rfl (fun _=>⟨by decide,by decide,rfl⟩) rfl rfl ?_
  refine D.ag (.head _) ?_
  refine D.ak [.int .i64 s.2,.int .i64 s.1] ?_
  refine D.lookupCP kI2 (fun _=>(Mem.get hb mup)) rfl rfl rfl rfl rfl rfl rfl rfl rfl (lookV_tup _ (mget m (s.2,s.1))) rfl rfl ?_
  refine D.q6 5 1 6 7 8 10 19 hR ?_;clear hR R
  refine G.z6 1 1 6 7 8 19 34 ?_
  refine G.cd (fun h34=>?_) fun h34=>?_
  ·have hbd:bordB ks s=false:=by
    have h:(mget m (s.2,s.1)).isSome=true:=h34
    rw [hopp] at h
    simpa using h
   rw [hbd] at hB
   simp only [Bool.false_eq_true,if_false,List.append_nil] at hB
   refine G.cS 0 rfl ?_
   refine G.ba (L':=[.obj b19 (aT b m.length (seen++[j])),.obj b17 (aF keyZ.enc (nxtV (dJ ks (seen++[j]))))]) (by rw [hB];rfl) ?_
   refine G.au (m':=ks.length-(seen++[j]).length) (by omega) mup (h_4 1 6 7 19) ⟨seen++[j],f,⟨hsn2,hsl2,by rw [hB];exact hbn,by rw [hB];exact hle⟩,rfl,rfl,rfl⟩
  ·have hbd:bordB ks s=true:=by
    have h:(mget m (s.2,s.1)).isSome=false:=h34
    rw [hopp] at h
    simpa using h
   rw [hbd] at hB
   simp only [if_true] at hB
   refine G.rp 1 fun R hR=>?_
   refine D.aw (0) rfl rfl rfl rfl rfl rfl rfl rfl rfl (fun _=>⟨by decide,by decide,rfl⟩) rfl rfl ?_
   refine D.ag (.head _) ?_
   refine D.fH keyZ (.tail _ (.tail _ (.head _))) rfl rfl rfl rfl rfl rfl rfl rfl (by kernel_rfl) rfl (lookV_tup _ (mget (nxtV (dJ ks seen)) s.1)) rfl rfl ?_
   refine D.q6 5 1 6 7 8 12 19 hR ?_;clear hR R
   refine G.z6 1 1 6 7 8 19 42 ?_
   refine G.cd (fun h42=>?_) fun h42=>?_
   ·have h42':(mget (nxtV (dJ ks seen)) s.1).isSome=true:=h42
    rw [fc] at h42'
    have hno:outM ks=none:=by
     cases hq:mget (dJ ks seen) s.1 with
     | none=>rw [hq] at h42';cases h42'
     | some q=>exact outM_twice (B:=dJ ks seen) (s:=s) (t:=(s.1,q)) (by rw [<- hB];exact seenB_nodup hn hsn2 hsl2) (by rw [<- hB];exact seenB_sub hsl2) (el hq) rfl
    have hnl:outL ks=[]:=by unfold outL;rw [hno];rfl
    refine G.z2 2 4 5 ?_
    refine G.aA (G.dropAll (G.aP rfl rfl rfl ?_))
    exact ⟨rfl,.slice none 0 0,by rw [hnl];rfl,by rw [hnl];exact Sl.nil _ _⟩
   ·have h42':(mget (nxtV (dJ ks seen)) s.1).isSome=false:=h42
    have hnone:mget (dJ ks seen) s.1=none:=by
     rw [fc] at h42'
     cases hq:mget (dJ ks seen) s.1 with
     | none=>rfl
     | some q=>rw [hq] at h42';cases h42'
    have hbn2:((dJ ks (seen++[j])).map (·.1)).Nodup:=by
     rw [hB,List.map_append,List.nodup_append]
     refine ⟨hbn,by simp,fun a ha b hb e=>?_⟩
     rw [List.map_singleton,List.mem_singleton] at hb
     subst hb
     subst e
     exact (bH.1 hnone) ha
    have hle2:=leastP_snoc hle s hs0
    refine G.rp 1 fun R hR=>?_
    refine D.aw (0) rfl rfl rfl rfl rfl rfl rfl rfl rfl (fun _=>⟨by decide,by decide,rfl⟩) rfl rfl ?_
    refine D.ag (.head _) ?_
    refine D.aw (1) rfl rfl rfl rfl rfl rfl rfl rfl rfl (fun _=>⟨by decide,by decide,rfl⟩) rfl rfl ?_
    refine D.ag (.head _) ?_
    refine D.mapUpdate keyZ (j:=2) rfl rfl rfl rfl rfl rfl rfl rfl rfl rfl (by kernel_rfl) ?_
    refine D.e5 1 6 7 8 19 hR ?_;clear hR R
    refine G.rp 3 fun R hR=>?_
    refine D.aw (0) rfl rfl rfl rfl rfl rfl rfl rfl rfl (fun _=>⟨by decide,by decide,rfl⟩) rfl rfl ?_
    refine D.ag (.tail _ (.head _)) ?_
    refine D.ps 2 ?_
    refine D.aB ?_
    refine D.e6 1 6 7 8 19 55 hR ?_;clear hR R
    refine G.cd (fun h55=>?_) fun h55=>?_
    ·have h55':f<0∨s.1<f:=by simpa using h55
     rw [if_pos h55'] at hle2
     refine G.rg fun R hR=>?_
     refine D.aw (0) rfl rfl rfl rfl rfl rfl rfl rfl rfl (fun _=>⟨by decide,by decide,rfl⟩) rfl rfl ?_
     refine D.ag (.tail _ (.head _)) ?_
     refine D.q4 1 1 6 7 19 hR ?_;clear hR R
     refine G.cS 1 rfl ?_
     refine G.perm (L':=[.obj b19 (aT b m.length (seen++[j])),.obj b17 (aF keyZ.enc (nxtV (dJ ks (seen++[j]))))]) (by
      rw [hB,<- nxtV_new hnone]
      exact List.Perm.swap _ _ _) ?_
     refine G.au (m':=ks.length-(seen++[j]).length) (by omega) mup (h_4 1 6 7 19) ⟨seen++[j],s.1,⟨hsn2,hsl2,hbn2,by rw [hB];exact hle2⟩,rfl,rfl,rfl⟩
    ·have h55':¬ (f<0∨s.1<f):=by simpa using h55
     rw [if_neg h55'] at hle2
     refine G.cS 1 rfl ?_
     refine G.perm (L':=[.obj b19 (aT b m.length (seen++[j])),.obj b17 (aF keyZ.enc (nxtV (dJ ks (seen++[j]))))]) (by
      rw [hB,<- nxtV_new hnone]
      exact List.Perm.swap _ _ _) ?_
     refine G.au (m':=ks.length-(seen++[j]).length) (by omega) mup (h_4 1 6 7 19) ⟨seen++[j],f,⟨hsn2,hsl2,hbn2,by rw [hB];exact hle2⟩,rfl,rfl,rfl⟩
 ·obtain ⟨hgo0,rfl,hall⟩:go20=false/\sn20=seen/\∀ j,j<m.length->j∈seen:=by
   rcases hn20 with h1 | ⟨h1,_⟩
   ·exact h1
   ·rw [h1] at h21;cases h21
  rw [<- hkl] at hall
  have hp:(dJ ks sn20).Perm (ks.filter (bordB ks)):=(seen_perm hsn hsl hall).filter _
  obtain ⟨B,hB⟩:∃ B,dJ ks sn20=B:=⟨_,rfl⟩
  rw [hB] at hp hbn hle
  have hO:=outM_all hp hbn h0 hle
  have hBl:B.length<=ks.length:=by rw [hp.length_eq];exact List.length_filter_le _ _
  refine G.z3 1 6 7 13 ?_
  refine G.z4 2 6 7 13 14 ?_
  refine G.cS 0 rfl ?_
  refine G.nilArr 3 1 ?_
  refine G.ba (L':=[.arr (.slice none 0 0) 3 1 0 [],.obj b17 (aF keyZ.enc (nxtV B))]) (by rw [hB];rfl) ?_
  refine G.loop (fun fr C' L' μ=>∃ (out:List Int)(w:Value)(p:Int),(out.length<=B.length/\walkM B f (B.length-out.length) p out=outM ks)/\fr=[(6,[],.map (some b17)),(7,[],.int .i64 f),(13,[],w),(14,[],.int .i64 p)]/\L'=[.arr w 3 1 out.length (out.map (Value.int .i64)),.obj b17 (aF keyZ.enc (nxtV B))]/\μ=B.length-out.length) (h_4 6 7 13 14) ⟨[],_,f,⟨Nat.zero_le _,hO.symm⟩,rfl,rfl,rfl⟩ (fun fr C1' L1' m hle1 hI=>?_)
  obtain ⟨out,w,p,⟨hol,hwk⟩,rfl,rfl,rfl⟩:=hI
  refine G.formS (.head _) (fun Aw cw hw hxl hlw hcw=>?_)
  subst hw
  refine G.aO [(3,1)] rfl (fun R hR=>?_)
  refine D.ps 3 ?_
  refine D.lenMapL keyZ.enc (.tail _ (.head _)) rfl rfl rfl rfl rfl rfl rfl rfl rfl ?_
  refine D.q5 1 6 7 13 14 63 hR ?_;clear hR R
  refine G.cd (fun h63=>?_) fun h63=>?_
  ·have hlt:out.length<B.length:=by
    simp only [decide_eq_true_eq,nxtV_len] at h63
    omega
   obtain ⟨r,hr⟩:∃ r,B.length-out.length=r+1:=⟨B.length-out.length-1,by omega⟩
   rw [hr] at hwk
   refine G.rp 2 fun R hR=>?_
   refine D.fH keyZ (.tail _ (.head _)) rfl rfl rfl rfl rfl rfl rfl rfl (by kernel_rfl) rfl (lookV_tup _ (mget (nxtV B) p)) rfl rfl ?_
   refine D.q5 5 6 7 13 14 16 hR ?_;clear hR R
   refine G.rp 10 fun R hR=>?_
   refine D.ay ?_
   refine D.aB ?_
   refine D.e5 6 7 13 14 84 hR ?_;clear hR R
   refine G.cd (fun h84=>?_) fun h84=>?_
   ·have hno:outM ks=none:=by
     rw [<- hwk]
     refine walkM_none ?_
     rw [fc] at h84
     cases hq:mget B p with
     | none=>exact .inl rfl
     | some q =>
      rw [hq] at h84
      simp only [Option.map_some,Option.isSome_some,Bool.not_true,Bool.false_or,Bool.and_eq_true,beq_iff_eq,decide_eq_true_eq] at h84
      exact .inr ⟨h84.1,fun e=>by rw [e] at h84;simp at h84⟩
    have hnl:outL ks=[]:=by unfold outL;rw [hno];rfl
    refine G.z2 2 4 5 ?_
    refine G.aA (G.dropAll (G.aP rfl rfl rfl ?_))
    exact ⟨rfl,.slice none 0 0,by rw [hnl];rfl,by rw [hnl];exact Sl.nil _ _⟩
   ·obtain ⟨q,hq⟩:∃ q,mget B p=some q:=by
     rw [fc] at h84
     cases hq:mget B p with
     | some q=>exact ⟨q,rfl⟩
     | none=>rw [hq] at h84;simp at h84
    have hpf:¬ (p=f/\out≠[]):=by
     rintro ⟨e1,e2⟩
     rw [fc,hq] at h84
     have:=List.length_pos_iff.2 e2
     simp [e1] at h84
     exact e2 h84
    rw [walkM_some hq hpf] at hwk
    have hol3:(out++[p]).length=out.length+1:=by simp
    refine G.rp 2 fun R hR=>?_
    refine D.ai [encI p] (fun p87 C87 hle87 hs87=>?_)
    refine D.append (j:=0) rfl rfl rfl rfl rfl rfl rfl rfl rfl rfl rfl hs87 rfl (by simp only [List.length_singleton,maxLen];omega) (by simp only [List.length_singleton];omega) (fun _=>rfl) (fun v88=>?_)
    refine D.q4 1 6 7 13 14 hR ?_;clear hR R
    refine G.rp 2 fun R hR=>?_
    refine D.fH keyZ (.tail _ (.head _)) rfl rfl rfl rfl rfl rfl rfl rfl (by kernel_rfl) rfl (by rw [fc,hq];rfl:lookV _ false (mget (nxtV B) p)=.int .i64 q) rfl rfl ?_
    refine D.q4 1 6 7 13 14 hR ?_;clear hR R
    refine G.ba (L':=[.arr v88 3 1 (out++[p]).length ((out++[p]).map (Value.int .i64)),.obj b17 (aF keyZ.enc (nxtV B))]) (by simp [encI]) ?_
    refine G.au (m':=B.length-(out++[p]).length) (by omega) mup (h_4 6 7 13 14) ⟨out++[p],v88,q,⟨by omega,by rw [show B.length-(out++[p]).length=r by omega];exact hwk⟩,rfl,rfl,rfl⟩
  ·have hle3:B.length<=out.length:=by
    simp only [decide_eq_false_iff_not,nxtV_len] at h63
    omega
   have hfin:outL ks=out:=by
    rw [show B.length-out.length=0 by omega] at hwk
    unfold outL
    rw [<- hwk]
    rfl
   refine G.z2 6 4 5 ?_
   refine G.ba (L':=[.arr (.slice Aw out.length cw) 3 1 out.length (out.map encI).flatten,.obj b17 (aF keyZ.enc (nxtV B))]) (by rw [show (out.map encI).flatten=out.map (Value.int .i64) from er _ _]) ?_
   refine G.freezeArr 0 (out.map encI) rfl rfl (by intro r hr;obtain ⟨y,_,rfl⟩:=List.mem_map.1 hr;rfl) (by simp) (fun Cg hg hsl3=>?_)
   refine G.aA (G.dropAll (G.aP rfl rfl rfl ?_))
   refine ⟨rfl,_, ?_,by rw [hfin];exact hsl3⟩
   rw [hfin]
   have:decide ((out.length:Int) > 0)=decide (out≠[]):=by
    rw [decide_eq_decide,<- List.length_pos_iff]
    omega
   rw [<- this]

def cycP (pts:List Pt)(cyc:List Nat)(i:Nat):Pt:=pts.getD (cyc.getD (i % cyc.length) 0) (0,0)
def upB (p q:Pt):Bool:=decide (p.2<q.2) || (decide (p.2=q.2) && decide (p.1<q.1))
def flipB (pts:List Pt)(cyc:List Nat)(i:Nat):Bool:=!upB (cycP pts cyc i) (cycP pts cyc (i+1)) && upB (cycP pts cyc (i+1)) (cycP pts cyc (i+1+1))
def leftB (pts:List Pt)(cyc:List Nat)(i:Nat):Bool:=decide (0<=bY (cycP pts cyc i) (cycP pts cyc (i+1)) (cycP pts cyc (i+2)))
def onceB (pts:List Pt)(cyc:List Nat):Bool:=(List.range cyc.length).all (leftB pts cyc) && decide (((List.range cyc.length).filter (flipB pts cyc)).length=1)
structure OnceC (C:Mem)(b2 b3 b5:Nat)(pts:List Pt)(cyc:List Nat):Prop where
 ex:∃ v1 v2,C b2=some (.cells ⟨[v1,v2]⟩ 37 (0,0))/\Sl C 2 v1 (pts.map encP)
 ey:∃ cv,C b3=some (.cells ⟨[cv]⟩ 74 (0,0))/\Sl C 1 cv (cyc.map encN)
 ez:C b5=some (.cells ⟨[.int .i64 (cyc.length:Nat)]⟩ 3 (0,0))
 ne:0<cyc.length
 ins:∀ z∈cyc,z<pts.length
 q:∀ p∈pts,QP 1 p
theorem OnceC.mono {C D:Mem}{b2 b3 b5:Nat}{pts:List Pt}{cyc:List Nat}(h:OnceC C b2 b3 b5 pts cyc)(hl:C.le D):OnceC D b2 b3 b5 pts cyc:=by
 obtain ⟨v1,v2,h1,h2⟩:=h.ex
 obtain ⟨cv,h3,h4⟩:=h.ey
 exact ⟨⟨v1,v2,hl _ _ h1,h2.mono hl⟩,⟨cv,hl _ _ h3,h4.mono hl⟩,hl _ _ h.ez,h.ne,h.ins,h.q⟩
theorem cyc_at {pts:List Pt}{cyc:List Nat}(h:0<cyc.length)(hin:∀ z∈cyc,z<pts.length)(i:Nat):∃ z,cyc[i % cyc.length]?=some z/\pts[z]?=some (cycP pts cyc i):=by
 have hi:=Nat.mod_lt i h
 refine ⟨cyc[i % cyc.length],List.getElem?_eq_getElem hi, ?_⟩
 have hz:=hin _ (List.getElem_mem hi)
 simp [cycP,List.getD_eq_getElem?_getD,List.getElem?_eq_getElem hi,List.getElem?_eq_getElem hz]
theorem cyc_qp {pts:List Pt}{cyc:List Nat}(h:0<cyc.length)(hin:∀ z∈cyc,z<pts.length)(hq:∀ p∈pts,QP 1 p)(i:Nat):QP 1 (cycP pts cyc i):=by
 obtain ⟨z,_,h2⟩:=cyc_at h hin i
 exact hq _ (List.mem_of_getElem? h2)
theorem pt1_fn (C:Mem)(b2 b3 b5:Nat)(pts:List Pt)(cyc:List Nat)(h:OnceC C b2 b3 b5 pts cyc)(i:Nat) :
  Gives cx.P 214 [.int .i64 i,.pointer (some ⟨b2,0,none⟩),.pointer (some ⟨b3,0,none⟩),.pointer (some ⟨b5,0,none⟩)] C (ptV (cycP pts cyc i)):=by
 obtain ⟨v1,v2,hb2,h1⟩:=h.ex
 obtain ⟨cv,hb3,h3⟩:=h.ey
 have hb5:=h.ez
 have hne:=h.ne
 obtain ⟨z,hz,hp⟩:=cyc_at h.ne h.ins i
 obtain ⟨A1,c1,rfl,hq1,hq2,_⟩:=id h1
 obtain ⟨A3,c3,rfl,hq3,hq4,_⟩:=id h3
 simp only [List.length_map] at h1 h3 hb2 hb3
 refine Fn.it (by kernel_rfl) Tryz.func214 16 fun w0=>?_
 refine G.rg fun R hR=>?_
 refine D.aq (fun b5=>?_)
 refine D.e5 0 1 2 3 5 hR ?_
 refine G.aI [0,1,2,3,4,5,6,7,8,9,10] [] rfl (by kernel_rfl) (fun R hB hR=>?_)
 refine D.ae ?_
 refine D.aa (PtrTo.block (Mem.get hb2 mup) _) ?_
 refine D.aa (PtrTo.block (Mem.get hb3 mup) _) ?_
 refine D.ae ?_
 refine D.aa (PtrTo.block (Mem.get hb5 mup) _) ?_
 refine D.eu (i) (cyc.length) rfl rfl rfl rfl rfl rfl (by omega) rfl rfl ?_
 refine D.ap (h3.mono mup) rfl rfl rfl rfl rfl rfl rfl rfl rfl rfl (by omega) (by rw [List.getElem?_map,show ((i % cyc.length:Nat):Int).toNat=i % cyc.length from rfl,hz];rfl:(cyc.map encN)[((i % cyc.length:Nat):Int).toNat]?=some (encN z)) (fun _=>rfl) (fun p12 hp12=>?_)
 refine D.aa hp12 ?_
 refine D.ap (h1.mono mup) rfl rfl rfl rfl rfl rfl rfl rfl rfl rfl (by omega) (by rw [List.getElem?_map,show ((z:Nat):Int).toNat=z from rfl,hp];rfl:(pts.map encP)[((z:Nat):Int).toNat]?=some (encP (cycP pts cyc i))) (fun _=>rfl) (fun p14 hp14=>?_)
 refine D.aa hp14 ?_
 refine D.aj (j:=0) ?_
 refine D.e1 5 hR ?_
 refine G.aA (G.ee (.head _) rfl rfl rfl rfl ?_)
 exact ⟨rfl,rfl⟩
def fn1V (b2 b3 b5:Nat):Value:=.func (.func 214) #[] #[.pointer (some ⟨b2,0,none⟩),.pointer (some ⟨b3,0,none⟩),.pointer (some ⟨b5,0,none⟩)]
theorem cmpQ_gt (a b:Rat):decide (cmpQ a b > 0)=decide (b<a):=by
 unfold cmpQ
 by_cases h1:a<b
 ·have:¬ b<a:=by grind
  simp [h1,this]
 ·by_cases h2:b<a <;> simp [h1,h2]
theorem cmpQ_eq (a b:Rat):(cmpQ a b == 0)=decide (b=a):=by
 unfold cmpQ
 by_cases h1:a<b
 ·have:¬ b=a:=by grind
  simp [h1,this]
 ·by_cases h2:b<a
  ·have:¬ b=a:=by grind
   simp [h1,h2,this]
  ·have:b=a:=by grind
   subst this
   simp [h1]
theorem up2_fn (C:Mem)(hT:Tabs C)(b2 b3 b5 b6:Nat)(pts:List Pt)(cyc:List Nat)(h:OnceC C b2 b3 b5 pts cyc)(hb6:C b6=some (.cells ⟨[fn1V b2 b3 b5]⟩ 291 (0,0)))(i:Nat)(hi:i<=1000000) :
  Gives cx.P 215 [.int .i64 i,.pointer (some ⟨b6,0,none⟩)] C (.bool (upB (cycP pts cyc i) (cycP pts cyc (i+1)))):=by
 have hP:=fun i=>cyc_qp h.ne h.ins h.q i
 unfold fn1V at hb6
 refine Fn.it (by kernel_rfl) Tryz.func215 34 fun w0=>?_
 refine G.z2 1 0 1 ?_
 refine G.aI [0,1,2,3,4,5,6,7,8,9,10] [(3,1),(7,1),(9,1)] rfl (by kernel_rfl) (fun R hB hR=>?_)
 refine D.aa (PtrTo.block (Mem.get hb6 mup) _) ?_
 refine D.ae ?_
 refine D.am _ ?_
 refine D.bd (fun _=>(pt1_fn _ b2 b3 b5 pts cyc (h.mono mup) (i+1))) ?_
 refine D.fE rfl rfl rfl rfl rfl rfl rfl rfl rfl rfl rfl rfl ?_
 refine D.aa (PtrTo.block (Mem.get hb6 mup) _) ?_
 refine D.ae ?_
 refine D.bd (fun _=>(pt1_fn _ b2 b3 b5 pts cyc (h.mono mup) i)) ?_
 refine D.fE rfl rfl rfl rfl rfl rfl rfl rfl rfl rfl rfl rfl ?_
 refine D.aD (fun _=>(fb _ (hT.mono mup) (cycP pts cyc (i+1)).2 (cycP pts cyc i).2 1 (by decide) (by decide) (hP (i+1)).2 (hP i).2)) rfl rfl rfl rfl rfl rfl rfl rfl rfl ?_
 refine D.q3 1 0 1 4 hR ?_
 refine G.aI [0,1,2,3,4,5,6,7,8,9,10,11,12,13,14,15,16,17,18,19] [] rfl (by kernel_rfl) (fun R hB hR=>?_)
 refine D.ps 6 ?_
 refine D.aY rfl rfl rfl rfl rfl rfl (fun _=>PtrTo.block (Mem.get hb6 mup) _) rfl rfl rfl ?_
 refine D.ae ?_
 refine D.am _ ?_
 refine D.bd (fun _=>(pt1_fn _ b2 b3 b5 pts cyc (h.mono mup) (i+1))) ?_
 refine D.fE rfl rfl rfl rfl rfl rfl rfl rfl rfl rfl rfl rfl ?_
 refine D.aY rfl rfl rfl rfl rfl rfl (fun _=>PtrTo.block (Mem.get hb6 mup) _) rfl rfl rfl ?_
 refine D.ae ?_
 refine D.bd (fun _=>(pt1_fn _ b2 b3 b5 pts cyc (h.mono mup) i)) ?_
 refine D.fE rfl rfl rfl rfl rfl rfl rfl rfl rfl rfl rfl rfl ?_
 refine D.aD (fun _=>(fb _ (hT.mono mup) (cycP pts cyc (i+1)).1 (cycP pts cyc i).1 1 (by decide) (by decide) (hP (i+1)).1 (hP i).1)) rfl rfl rfl rfl rfl rfl rfl rfl rfl ?_
 refine D.ae ?_
 refine D.ay ?_
 refine D.aB ?_
 refine D.q1 1 3 hR ?_
 refine G.rf ?_
 refine ⟨?_,rfl⟩
 rw [cmpQ_gt,cmpQ_eq,cmpQ_gt]
 rfl
theorem sgn_neg (q:Rat):decide (sgnZ q.num<0)=!decide (0<=q):=by
 rw [<- decide_not,decide_eq_decide,<- Rat.num_nonneg]
 rcases cU q.num with h | h | h <;> omega
theorem once_fn (C:Mem)(hT:Tabs C)(v1 v2 cv:Value)(pts:List Pt)(cyc:List Nat)(h1:Sl C 2 v1 (pts.map encP))(h3:Sl C 1 cv (cyc.map encN))(hne:0<cyc.length)(hins:∀ z∈cyc,z<pts.length)(hq:∀ p∈pts,QP 1 p)(hlen:cyc.length<=100000) :
  Gives cx.P 180 [.agg ⟨[v1,v2]⟩,cv] C (.bool (onceB pts cyc)):=by
 obtain ⟨A3,c3,rfl,hq3,hq4,_⟩:=id h3
 simp only [List.length_map] at h3 ⊢
 refine Fn.it (by kernel_rfl) Tryz.func180 46 fun w0=>?_
 refine G.rg fun R hR=>?_
 refine D.aE (fun b2=>?_)
 refine D.aE (fun b3=>?_)
 refine D.q2 1 2 3 hR ?_
 refine G.rg fun R hR=>?_
 refine D.ag (.head _) ?_
 refine D.ae ?_
 refine D.aq (fun b5=>?_)
 refine D.aj (j:=0) ?_
 refine D.e3 2 3 5 hR ?_
 refine G.rp 1 fun R hR=>?_
 refine D.aq (fun b6=>?_)
 refine D.aj (j:=0) ?_
 refine D.e2 5 6 hR ?_
 refine G.freeze 0 rfl (fun C6 hle6 hb6=>?_)
 refine G.freeze 0 rfl (fun C5 hle5 hb5=>?_)
 refine G.freeze 0 rfl (fun C3 hle3 hb3=>?_)
 refine G.freeze 0 rfl (fun C2 hle2 hb2=>?_)
 have hO:OnceC C2 b2 b3 b5 pts cyc:=⟨⟨v1,v2,hb2,h1.mono mup⟩,⟨_,Mem.get hb3 mup,h3.mono mup⟩,Mem.get hb5 mup,hne,hins,hq⟩
 have hP:=fun i=>cyc_qp hO.ne hO.ins hO.q i
 refine G.z3 2 5 6 7 ?_
 refine G.z4 1 5 6 7 8 ?_
 refine G.rg fun R hR=>?_
 refine D.aa (PtrTo.block (Mem.get hb5 mup) _) ?_
 refine D.q5 1 6 7 8 14 15 hR ?_
 refine G.loop (fun fr C' L' μ=>∃ (i k:Nat),(i<=cyc.length/\(List.range i).all (leftB pts cyc)=true/\((List.range i).filter (flipB pts cyc)).length=k)/\fr=[(6,[],.pointer (some ⟨b6,0,none⟩)),(7,[],.func (.func 215) #[] #[.pointer (some ⟨b6,0,none⟩)]),(8,[],.int .i64 k),(14,[],.int .i64 cyc.length),(15,[],.int .i64 i)]/\L'=[]/\μ=cyc.length-i) (h_5 6 7 8 14 15) ⟨0,0,⟨Nat.zero_le _,rfl,rfl⟩,rfl,rfl,rfl⟩ (fun fr C0' L0' m hle0 hI=>?_)
 obtain ⟨i,k,⟨hi,hall,hk⟩,rfl,rfl,rfl⟩:=hI
 refine G.z6 1 6 7 8 14 15 16 ?_
 refine G.cd (fun h16=>?_) fun h16=>?_
 ·have hil:i<cyc.length:=by simpa using h16
  have hkl:k<=i:=by
   rw [<- hk]
   exact Nat.le_trans (List.length_filter_le _ _) (by simp)
  refine G.z6 2 6 7 8 9 14 15 ?_
  refine G.aI [0,1,2,3,4,5,6,7,8,9,10,11,12] [(2,1),(6,1),(10,1),(11,1)] rfl (by kernel_rfl) (fun R hB hR=>?_)
  refine D.aa (PtrTo.block (Mem.get hb6 mup) _) ?_
  refine D.ae ?_
  refine D.bd (fun _=>(pt1_fn _ b2 b3 b5 pts cyc (hO.mono mup) i)) ?_
  refine D.aa (PtrTo.block (Mem.get hb6 mup) _) ?_
  refine D.ae ?_
  refine D.am _ ?_
  refine D.bd (fun _=>(pt1_fn _ b2 b3 b5 pts cyc (hO.mono mup) (i+1))) ?_
  refine D.aa (PtrTo.block (Mem.get hb6 mup) _) ?_
  refine D.ae ?_
  refine D.am _ ?_
  refine D.bd (fun _=>(pt1_fn _ b2 b3 b5 pts cyc (hO.mono mup) (i+2))) ?_
  refine D.aD (fun _=>(turn_fn _ (hT.mono mup) (cycP pts cyc i) (cycP pts cyc (i+1)) (cycP pts cyc (i+2)) 1 (by decide) (by decide) (hP i) (hP (i+1)) (hP (i+2)))) rfl rfl rfl rfl rfl rfl rfl rfl rfl ?_
  refine D.q7 1 6 7 8 9 14 15 30 hR ?_
  refine G.cd (fun h30=>?_) fun h30=>?_
  ·have hno:leftB pts cyc i=false:=by
    rw [sgn_neg] at h30
    simpa [leftB] using h30
   refine G.z1 1 4 ?_
   refine G.rf ?_
   refine ⟨?_,rfl⟩
   have:(List.range cyc.length).all (leftB pts cyc)=false:=List.all_eq_false.2 ⟨i,List.mem_range.2 hil,by rw [hno];decide⟩
   unfold onceB
   rw [this]
   rfl
  ·have hyes:leftB pts cyc i=true:=by
    rw [sgn_neg] at h30
    simpa [leftB] using h30
   have hall2:(List.range (i+1)).all (leftB pts cyc)=true:=by rw [List.range_succ,List.all_append,hall];simp [hyes]
   refine G.rp 2 fun R hR=>?_
   refine D.af (up2_fn _ (hT.mono mup) b2 b3 b5 b6 pts cyc (hO.mono mup) (Mem.get hb6 mup) i (by omega)) rfl rfl rfl rfl rfl rfl rfl (fun _=>rfl) ?_
   refine D.ps 4 ?_
   refine D.am _ ?_
   refine D.aD (fun _=>(up2_fn _ (hT.mono mup) b2 b3 b5 b6 pts cyc (hO.mono mup) (Mem.get hb6 mup) (i+1) (by omega))) rfl rfl rfl rfl rfl rfl rfl rfl rfl ?_
   refine D.ay ?_
   refine D.e6 6 7 8 14 15 40 hR ?_
   refine G.cd (fun h40=>?_) fun h40=>?_
   ·have hf:flipB pts cyc i=true:=h40
    refine G.rp 1 fun R hR=>?_
    refine D.am _ ?_
    refine D.q5 1 6 7 8 14 15 hR ?_
    refine G.rg fun R hR=>?_
    refine D.am _ ?_
    refine D.q5 1 6 7 8 14 15 hR ?_
    refine G.au (m':=cyc.length-(i+1)) (by omega) hle0 (h_5 6 7 8 14 15) ⟨i+1,k+1,⟨by omega,hall2,by rw [List.range_succ,List.filter_append,List.length_append,hk];simp [hf]⟩,rfl,rfl,rfl⟩
   ·have hf:flipB pts cyc i=false:=h40
    refine G.rg fun R hR=>?_
    refine D.am _ ?_
    refine D.q5 1 6 7 8 14 15 hR ?_
    refine G.au (m':=cyc.length-(i+1)) (by omega) hle0 (h_5 6 7 8 14 15) ⟨i+1,k,⟨by omega,hall2,by rw [List.range_succ,List.filter_append,List.length_append,hk];simp [hf]⟩,rfl,rfl,rfl⟩
 ·have hil:i=cyc.length:=by
   have:¬ i<cyc.length:=by simpa using h16
   omega
  refine G.z1 3 4 ?_
  refine G.rf ?_
  refine ⟨?_,rfl⟩
  rw [hil] at hall hk
  unfold onceB
  rw [hall,hk,Bool.true_and]
  congr 1
  rw [Bool.eq_iff_iff,decide_eq_true_eq]
  simp
  omega

/-! The sides of triangles, in order. -/
def side3 (t:Tri):List Side:=[sideK t 0,sideK t 1,sideK t 2]
def bT (tris:List Tri):List Side:=tris.flatMap side3
theorem side3_at (t:Tri){k:Nat}(hk:k<3):(side3 t)[k]?=some (sideK t k):=by
 rcases (by omega:k=0∨k=1∨k=2) with rfl | rfl | rfl <;> rfl
theorem ownT_keys (m:OwnM)(i:Nat)(t:Tri):∀ k,k<=3->(m.map (·.1)++(side3 t).take k).Nodup->(ownT m i t k).map (·.1)=m.map (·.1)++(side3 t).take k
 | 0,_,_=>by simp [ownT]
 | k+1,hk,hn=>by
  have h3:=side3_at t (show k<3 by omega)
  rw [List.take_add_one,h3,Option.toList_some,<- List.append_assoc] at hn ⊢
  have hn0:=(List.nodup_append.1 hn)
  have ih:=ownT_keys m i t k (by omega) hn0.1
  have hnone:mget (ownT m i t k) (sideK t k)=none:=by
   rw [bH,ih]
   intro h
   exact hn0.2.2 _ h _ (by simp) rfl
  rw [ownT,mset_new hnone,List.map_append,ih]
  rfl
theorem sidesK_take {tris:List Tri}{n:Nat}{t:Tri}(h:tris[n]?=some t):bT (tris.take (n+1))=bT (tris.take n)++side3 t:=by
 unfold bT
 rw [List.take_add_one,h,List.flatMap_append]
 simp
theorem take_nodup {tris:List Tri}(h:(bT tris).Nodup)(n:Nat):(bT (tris.take n)).Nodup:=by
 have:bT tris=bT (tris.take n)++bT (tris.drop n):=by
  unfold bT
  rw [<- List.flatMap_append,List.take_append_drop]
 rw [this] at h
 exact (List.nodup_append.1 h).1
theorem eL {tris:List Tri}(h:(bT tris).Nodup):∀ n,n<=tris.length->(ownN tris n).map (·.1)=bT (tris.take n)
 | 0,_=>by simp [ownN,bT]
 | n+1,hn=>by
  have ht:tris[n]?=some tris[n]:=List.getElem?_eq_getElem (by omega)
  have h1:=take_nodup h (n+1)
  rw [sidesK_take ht] at h1 ⊢
  have ih:=eL h n (by omega)
  rw [ownN,List.getD_eq_getElem?_getD,ht]
  show (ownT (ownN tris n) n tris[n] 3).map (·.1)=_
  rw [ownT_keys _ _ _ 3 (Nat.le_refl _) (by rw [ih];exact h1),ih]
  rfl
theorem own_single {tris:List Tri}(h:(bT tris).Nodup)(i:Nat)(t:Tri)(k:Nat)(ht:tris[i]?=some t)(hk:k<3):mget (ownT (ownN tris i) i t k) (sideK t k)=none:=by
 have hi:=(List.getElem?_eq_some_iff.1 ht).1
 have h1:=take_nodup h (i+1)
 rw [sidesK_take ht] at h1
 have ih:=eL h i (by omega)
 have h3:=side3_at t hk
 have h2:(bT (tris.take i)++(side3 t).take (k+1)).Nodup:=by
  refine List.Nodup.sublist (List.Sublist.append (List.Sublist.refl _) (List.take_sublist _ _)) h1
 rw [List.take_add_one,h3,Option.toList_some,<- List.append_assoc] at h2
 have h4:=List.nodup_append.1 h2
 rw [bH,ownT_keys _ _ _ k (by omega) (by rw [ih];exact h4.1),ih]
 intro h5
 exact h4.2.2 _ h5 _ (by simp) rfl
theorem walkM_mem {B:List Side}{first:Int}:∀ (k:Nat)(p:Int)(out r:List Int),walkM B first k p out=some r->(∀ z∈out,z∈B.map (·.1))->∀ z∈r,z∈B.map (·.1)
 | 0,p,out,r,h,ho=>by simp only [walkM,Option.some.injEq] at h;subst h;exact ho
 | k+1,p,out,r,h,ho=>by
  simp only [walkM] at h
  cases hq:mget B p with
  | none=>rw [hq] at h;cases h
  | some q =>
   rw [hq] at h
   simp only at h
   split at h
   ·cases h
   ·refine walkM_mem k q _ r h (fun z hz=>?_)
    rcases List.mem_append.1 hz with hz | hz
    ·exact ho z hz
    ·rw [List.mem_singleton.1 hz]
     exact List.mem_map_of_mem (f:=(·.1)) (el hq)
theorem walkM_len {B:List Side}{first:Int}:∀ (k:Nat)(p:Int)(out r:List Int),walkM B first k p out=some r->r.length=out.length+k
 | 0,p,out,r,h=>by simp only [walkM,Option.some.injEq] at h;subst h;rfl
 | k+1,p,out,r,h=>by
  simp only [walkM] at h
  cases hq:mget B p with
  | none=>rw [hq] at h;cases h
  | some q =>
   rw [hq] at h
   simp only at h
   split at h
   ·cases h
   ·have:=walkM_len k q _ r h
    simp at this
    omega
theorem outL_mem {ks:List Side}:∀ z∈outL ks,z∈ks.map (·.1):=by
 intro z hz
 unfold outL at hz
 cases ho:outM ks with
 | none=>rw [ho] at hz;simp at hz
 | some r =>
  rw [ho] at hz
  simp only [Option.getD_some] at hz
  unfold outM at ho
  split at ho
  ·have:=walkM_mem _ _ _ _ ho (by simp) z hz
   obtain ⟨s,hs,rfl⟩:=List.mem_map.1 this
   exact List.mem_map_of_mem (f:=(·.1)) (List.mem_filter.1 hs).1
  ·cases ho
theorem outL_len (ks:List Side):(outL ks).length<=ks.length:=by
 unfold outL
 cases ho:outM ks with
 | none=>simp
 | some r =>
  unfold outM at ho
  split at ho
  ·have:=walkM_len _ _ _ _ ho
   have h2:=List.length_filter_le (bordB ks) ks
   simp at this ⊢
   omega
  ·cases ho
def TriIn (n:Nat)(t:Tri):Prop:=t.1<n/\t.2.1<n/\t.2.2<n
theorem sideK_in {n:Nat}{t:Tri}(h:TriIn n t):∀ s∈side3 t,0<=s.1/\s.1.toNat<n:=by
 obtain ⟨h1,h2,h3⟩:=h
 intro s hs
 simp only [side3,List.mem_cons,List.not_mem_nil,or_false] at hs
 rcases hs with rfl | rfl | rfl <;> simp [sideK,triZ] <;> omega
theorem sidesK_in {n:Nat}{tris:List Tri}(h:∀ t∈tris,TriIn n t):∀ s∈bT tris,0<=s.1/\s.1.toNat<n:=by
 intro s hs
 obtain ⟨t,ht,hs⟩:=List.mem_flatMap.1 hs
 exact sideK_in (h t ht) s hs
theorem sidesK_len (tris:List Tri):(bT tris).length=3*tris.length:=by
 induction tris with
 | nil=>rfl
 | cons t l ih =>
  have:bT (t::l)=side3 t++bT l:=rfl
  rw [this,List.length_append,ih]
  simp [side3]
  omega
def ec (tris:List Tri):List Nat:=(outL (bT tris)).map Int.toNat
theorem borderN_in {n:Nat}{tris:List Tri}(h:∀ t∈tris,TriIn n t):∀ z∈ec tris,z<n:=by
 intro z hz
 obtain ⟨y,hy,rfl⟩:=List.mem_map.1 hz
 obtain ⟨s,hs,rfl⟩:=List.mem_map.1 (outL_mem y hy)
 exact (sidesK_in h s hs).2
theorem borderN_enc {n:Nat}{tris:List Tri}(h:∀ t∈tris,TriIn n t):(outL (bT tris)).map encI=(ec tris).map encN:=by
 unfold ec
 rw [List.map_map]
 refine List.map_congr_left (fun y hy=>?_)
 obtain ⟨s,hs,rfl⟩:=List.mem_map.1 (outL_mem y hy)
 have:=(sidesK_in h s hs).1
 show encI s.1=encN s.1.toNat
 unfold encI encN
 rw [Int.toNat_of_nonneg this]
/-! Sets of ints as maps. -/
def setZ (ks:List Int):List (Int × Value):=ks.map fun z=>(z,.bool true)
def addZ (ks:List Int)(z:Int):List Int:=if z∈ks then ks else ks++[z]
theorem setZ_len (ks:List Int):(setZ ks).length=ks.length:=by simp [setZ]
theorem mset_setZ:∀ {ks:List Int}{z:Int},mset (setZ ks) z (.bool true)=setZ (addZ ks z)
 | [],z=>by simp [setZ,mset,addZ]
 | k::ks,z=>by
  have ih:=mset_setZ (ks:=ks) (z:=z)
  unfold setZ at ih ⊢
  simp only [List.map_cons,mset]
  by_cases e:k=z
  ·subst e;simp [addZ]
  ·have e2:¬ z=k:=fun h=>e h.symm
   rw [if_neg e,ih]
   unfold addZ
   by_cases h:z∈ks
   ·simp [h]
   ·simp [h,e2]
def usedT (ks:List Int)(t:Tri):Nat->List Int
 | 0=>ks
 | k+1=>addZ (usedT ks t k) (triZ t k)
def usedN (tris:List Tri):Nat->List Int
 | 0=>[]
 | n+1=>usedT (usedN tris n) (tris.getD n (0,0,0)) 3
theorem encT_at (t:Tri){k:Nat}(hk:k<3):(encT t)[k]?=some (.int .i64 (triZ t k)):=by
 rcases (by omega:k=0∨k=1∨k=2) with rfl | rfl | rfl <;> rfl
theorem border_pos {tris:List Tri}(h:decide (outL (bT tris)≠[])=true):0<(ec tris).length:=by
 unfold ec
 rw [List.length_map]
 exact List.length_pos_iff.2 (of_decide_eq_true h)
theorem border_ne (tris:List Tri):decide (outL (bT tris)≠[])=decide (ec tris≠[]):=by
 rw [decide_eq_decide]
 unfold ec
 simp
def wholeB (pts:List Pt)(tris:List Tri):Bool:=decide (ec tris≠[]) && (decide ((usedN tris tris.length).length=pts.length) && onceB pts (ec tris))
theorem whole_mesh_fn (C:Mem)(hT:Tabs C)(v1 v2:Value)(pts:List Pt)(tris:List Tri)(h0:tris≠[])(h1:Sl C 2 v1 (pts.map encP))(h2:Sl C 3 v2 (tris.map encT))(hs:(bT tris).Nodup)(hin:∀ t∈tris,TriIn pts.length t)(hq:∀ p∈pts,QP 1 p)(hl:tris.length<=10000) :
  Gives cx.P 128 [.agg ⟨[v1,v2]⟩] C (.bool (wholeB pts tris)):=by
 obtain ⟨A1,c1,rfl,hq1,hq2,_⟩:=id h1
 obtain ⟨A2,c2,rfl,hq3,hq4,_⟩:=id h2
 have hmx:maxLen<=9223372036854775807:=by simp [maxLen]
 simp only [List.length_map] at h1 h2 hq1 hq3 ⊢
 refine Fn.it (by kernel_rfl) Tryz.func128 55 fun w0=>?_
 refine G.rg fun R hR=>?_
 refine D.aE (fun b1=>?_)
 refine D.q1 1 1 hR ?_
 refine G.freeze 0 rfl (fun C1 hle1 hb1=>?_)
 refine G.rg fun R hR=>?_
 refine D.aa (PtrTo.block (Mem.get hb1 mup) _) ?_
 refine D.aU (owners_fn _ _ _ tris h0 (h2.mono mup) (own_single hs)) (fun v14 C14 hle14 hq14=>?_)
 obtain ⟨bo,rfl,hbo⟩:=hq14
 refine D.q3 5 1 3 4 hR ?_
 refine G.z3 2 1 3 18 ?_
 refine G.cd (fun h18=>?_) fun h18=>?_
 ·exact absurd h18 (by decide)
 ·refine G.rg fun R hR=>?_
  refine D.makeMap keyZ rfl rfl rfl rfl (fun _=>rfl) (fun b19=>?_)
  refine D.q3 1 1 3 5 hR ?_
  refine G.rp 1 fun R hR=>?_
  refine D.aa (PtrTo.block (Mem.get hb1 mup) _) ?_
  refine D.q6 2 1 3 5 21 22 23 hR ?_
  refine G.loop (fun fr C' L' μ=>∃ (i:Nat),(i<=tris.length)/\fr=[(1,[],.pointer (some ⟨b1,0,none⟩)),(3,[],.map (some bo)),(5,[],.map (some b19)),(21,[],.slice A2 tris.length c2),(22,[],.int .i64 tris.length),(23,[],.int .i64 i)]/\L'=[.obj b19 (aF keyZ.enc (setZ (usedN tris i)))]/\μ=tris.length-i) (h_6 1 3 5 21 22 23) ⟨0,Nat.zero_le _,rfl,rfl,rfl⟩ (fun fr C0' L0' m hle0 hI=>?_)
  obtain ⟨i,hi,rfl,rfl,rfl⟩:=hI
  refine G.z7 1 1 3 5 21 22 23 24 ?_
  refine G.cd (fun h24=>?_) fun h24=>?_
  ·have hil:i<tris.length:=by simpa using h24
   obtain ⟨t,ht⟩:∃ t,tris[i]?=some t:=⟨tris[i],List.getElem?_eq_getElem hil⟩
   refine G.rg fun R hR=>?_
   refine D.ap (h2.mono mup) rfl rfl rfl rfl rfl rfl rfl rfl rfl rfl (by omega) (by rw [List.getElem?_map,ht];rfl:(tris.map encT)[i]?=some (encT t)) (fun _=>rfl) (fun p25 hp25=>?_)
   refine D.aa hp25 ?_
   refine D.aq (fun b7=>?_)
   refine D.aj (j:=0) ?_
   refine D.e7 1 3 5 7 21 22 23 hR ?_
   refine G.rg fun R hR=>?_
   refine D.ag (.head _) ?_
   refine D.q8 1 1 3 5 21 22 23 27 28 hR ?_
   refine G.cS 0 rfl ?_
   refine G.loop (fun fr C' L' μ=>∃ (j:Nat),(j<=3)/\fr=[(1,[],.pointer (some ⟨b1,0,none⟩)),(3,[],.map (some bo)),(5,[],.map (some b19)),(21,[],.slice A2 tris.length c2),(22,[],.int .i64 tris.length),(23,[],.int .i64 i),(27,[],.agg ⟨encT t⟩),(28,[],.int .i64 j)]/\L'=[.obj b19 (aF keyZ.enc (setZ (usedT (usedN tris i) t j)))]/\μ=3-j) (h_8 1 3 5 21 22 23 27 28) ⟨0,Nat.zero_le _,rfl,rfl,rfl⟩ (fun fr C1' L1' m hle1 hI=>?_)
   obtain ⟨j,hj,rfl,rfl,rfl⟩:=hI
   refine G.z9 1 1 3 5 21 22 23 27 28 29 ?_
   refine G.cd (fun h29=>?_) fun h29=>?_
   ·have hjl:j<3:=by
     simp only [decide_eq_true_eq] at h29
     omega
    refine G.rg fun R hR=>?_
    refine D.bW rfl rfl rfl rfl rfl rfl rfl rfl rfl rfl rfl (fun _=>⟨by omega,by omega,encT_at t hjl⟩) rfl rfl ?_
    refine D.q9 1 1 3 5 9 21 22 23 27 28 hR ?_
    refine G.rp 2 fun R hR=>?_
    refine D.mapUpdate keyZ (j:=0) rfl rfl rfl rfl rfl rfl rfl rfl rfl rfl (by kernel_rfl) ?_
    refine D.e8 1 3 5 21 22 23 27 28 hR ?_
    refine G.rg fun R hR=>?_
    refine D.am _ ?_
    refine D.q8 1 1 3 5 21 22 23 27 28 hR ?_
    rw [mset_setZ]
    refine G.au (m':=3-(j+1)) (by omega) hle1 (h_8 1 3 5 21 22 23 27 28) ⟨j+1,(by omega),rfl,rfl,rfl⟩
   ·have hjl:j=3:=by
     simp only [decide_eq_false_iff_not] at h29
     omega
    subst hjl
    refine G.rg fun R hR=>?_
    refine D.am _ ?_
    refine D.q6 1 1 3 5 21 22 23 hR ?_
    refine G.ba (L':=[.obj b19 (aF keyZ.enc (setZ (usedN tris (i+1))))]) (by rw [usedN,List.getD_eq_getElem?_getD,ht];rfl) ?_
    refine G.au (m':=tris.length-(i+1)) (by omega) mup (h_6 1 3 5 21 22 23) ⟨i+1,(by omega),rfl,rfl,rfl⟩
  ·have hil:i=tris.length:=by
    have:¬ i<tris.length:=by simpa using h24
    omega
   subst hil
   refine G.rg fun R hR=>?_
   refine D.aa (PtrTo.block (Mem.get hb1 mup) _) ?_
   refine D.ae ?_
   refine D.aM (outer_fn _ _ _ bo (ownN tris tris.length) (Mem.get hbo mup) (by rw [eL hs _ (Nat.le_refl _),List.take_length];exact hs) (by rw [eL hs _ (Nat.le_refl _),List.take_length];exact fun s hh=>(sidesK_in hin s hh).1) (by have:=congrArg List.length (eL hs _ (Nat.le_refl _));rw [List.take_length,sidesK_len,List.length_map] at this;omega)) rfl rfl rfl rfl rfl rfl rfl (fun _=>rfl) (fun v38 C38 hle38 hq38=>?_)
   rw [eL hs _ (Nat.le_refl _),List.take_length] at hq38
   obtain ⟨bv,rfl,hbv⟩:=hq38
   rw [borderN_enc hin] at hbv
   refine D.q4 5 1 5 10 11 hR ?_
   refine G.aO [(3,1)] rfl (fun R hR=>?_)
   refine D.ps 3 ?_
   refine D.lenMapL keyZ.enc (.head _) rfl rfl rfl rfl rfl rfl rfl rfl rfl ?_
   refine D.ae ?_
   refine D.aY rfl rfl rfl rfl rfl rfl (fun _=>PtrTo.block (Mem.get hb1 mup) _) rfl rfl rfl ?_
   refine D.ps 2 ?_
   refine D.ay ?_
   refine D.ae ?_
   refine D.aY rfl rfl rfl rfl rfl rfl (fun _=>PtrTo.block (Mem.get hb1 mup) _) rfl rfl rfl ?_
   refine D.ae ?_
   refine D.aD (fun hg=>(once_fn _ (hT.mono mup) _ _ bv pts (ec tris) (h1.mono mup) (hbv.mono mup) (by exact border_pos (Bool.and_eq_true_iff.1 (show (decide (outL (bT tris)≠[]) && _)=true/\True from hg).1).1) (borderN_in hin) hq (by have:=outL_len (bT tris);rw [sidesK_len] at this;unfold ec;rw [List.length_map];omega))) rfl rfl rfl rfl rfl rfl rfl rfl rfl ?_
   refine D.ay ?_
   refine D.q1 1 2 hR ?_
   refine G.rf ?_
   refine ⟨?_,rfl⟩
   have hl:(((setZ (usedN tris tris.length)).length:Int) == (pts.length:Int))=decide ((usedN tris tris.length).length=pts.length):=by
    rw [setZ_len,Bool.eq_iff_iff,beq_iff_eq,decide_eq_true_eq]
    omega
   unfold wholeB
   rw [<- border_ne,<- hl,<- Bool.and_assoc]

noncomputable def kP2:KeyP cx.P 91 (Str × Str):=keyS2 rfl rfl rfl (by decide) (by decide) rfl rfl (by kernel_rfl)
def ptK (p:Pt):Str × Str:=(qtx p.1,qtx p.2)
theorem ptK_inj {p q:Pt}(h:ptK p=ptK q):p=q:=by
 have h1:=qtx_eq (congrArg (·.1) h)
 have h2:=qtx_eq (congrArg (·.2) h)
 exact Prod.ext h1 h2
def metV (l:List Pt):List ((Str × Str) × Value):=l.map fun p=>(ptK p,.bool true)
theorem met_none {l:List Pt}{p:Pt}(h:p ∉ l):mget (metV l) (ptK p)=none:=by
 rw [bH]
 unfold metV
 rw [List.map_map]
 intro hm
 obtain ⟨q,hq,he⟩:=List.mem_map.1 hm
 exact h (ptK_inj he ▸ hq)
theorem met_new {l:List Pt}{p:Pt}(h:p ∉ l):mset (metV l) (ptK p) (.bool true)=metV (l++[p]):=by
 rw [mset_new (met_none h)]
 simp [metV]
def crossAny (n:Nat)(X:Nat->Nat->Bool):Bool:=(List.range n).any fun i=>(List.range i).any fun k=>X i k
def meshZ (pts:List Pt)(tris:List Tri)(X:Nat->Nat->Bool):Int:=if tris=[] then 13 else if wholeB pts tris then 0 else if crossAny tris.length X then 26 else 25
structure MeshOk (pts:List Pt)(tris:List Tri):Prop where
 q:∀ p∈pts,QP 1 p
 nd:pts.Nodup
 ins:∀ t∈tris,TriIn pts.length t
 pos:∀ t∈tris,0<bY (pts.getD t.1 (0,0)) (pts.getD t.2.1 (0,0)) (pts.getD t.2.2 (0,0))
 sides:(bT tris).Nodup
 lt:tris.length<=800
 lp:pts.length<=400
theorem pt_at {pts:List Pt}{i:Nat}(h:i<pts.length):pts[i]?=some (pts.getD i (0,0)):=by
 rw [List.getD_eq_getElem?_getD,List.getElem?_eq_getElem h];rfl
theorem pt_mem {pts:List Pt}{i:Nat}(h:i<pts.length):pts.getD i (0,0)∈pts:=List.mem_of_getElem? (pt_at h)
def triN (t:Tri)(j:Nat):Nat:=if j=0 then t.1 else if j=1 then t.2.1 else t.2.2
theorem triZ_N (t:Tri)(j:Nat):triZ t j=(triN t j:Nat):=by
 unfold triZ triN
 split
 ·rfl
 ·split <;> rfl
theorem dA {n:Nat}{t:Tri}(h:TriIn n t)(j:Nat):triN t j<n:=by
 obtain ⟨h1,h2,h3⟩:=h
 unfold triN
 split
 ·exact h1
 ·split <;> assumption
theorem sgn_le (q:Rat):decide (sgnZ q.num<=0)=!decide (0<q):=by
 have h1:=qnum_neg q
 have h2:q.num=0 ↔ q=0:=Rat.num_eq_zero
 rw [<- decide_not,decide_eq_decide]
 have h3:¬ 0<q ↔ (q<0∨q=0):=by grind
 rw [h3,<- h1,<- h2]
 rcases cU q.num with h | h | h <;> omega
theorem mcheck_fn (C:Mem)(hT:Tabs C)(v1 v2:Value)(pts:List Pt)(tris:List Tri)(X:Nat->Nat->Bool)(h1:Sl C 2 v1 (pts.map encP))(h2:Sl C 3 v2 (tris.map encT))(hM:MeshOk pts tris)
  (hX:tris≠[]->wholeB pts tris=false->∀ D:Mem,C.le D->∀ i k:Nat,i<tris.length->k<i->Gives cx.P 129 [.agg ⟨[v1,v2]⟩,.int .i64 i,.int .i64 k] D (.bool (X i k))) :
  Gives cx.P 72 [.agg ⟨[v1,v2]⟩] C (.int .i64 (meshZ pts tris X)):=by
 obtain ⟨A1,c1,rfl,hq1,hq2,_⟩:=id h1
 obtain ⟨A2,c2,rfl,hq3,hq4,_⟩:=id h2
 have hmx:maxLen<=9223372036854775807:=by simp [maxLen]
 have hlt:=hM.lt
 have hlp:=hM.lp
 simp only [List.length_map] at h1 h2 hq1 hq3 hX ⊢
 refine Fn.it (by kernel_rfl) Tryz.func72 105 fun w0=>?_
 refine G.rg fun R hR=>?_
 refine D.aE (fun b1=>?_)
 refine D.q1 1 1 hR ?_
 refine G.freeze 0 rfl (fun C1 hle1 hb1=>?_)
 refine G.rp 1 fun R hR=>?_
 refine D.aa (PtrTo.block (Mem.get hb1 mup) _) ?_
 refine D.q2 3 1 12 hR ?_
 refine G.cd (fun h12=>?_) fun h12=>?_
 ·have h0:tris=[]:=by
   have h:((tris.length:Nat):Int)=0:=by simpa using h12
   exact List.eq_nil_of_length_eq_zero (by omega)
  refine G.z1 1 2 ?_
  refine G.rf ?_
  exact ⟨by unfold meshZ;rw [if_pos h0],rfl⟩
 ·have h0:tris≠[]:=by
   intro e
   rw [e] at h12
   exact absurd h12 (by decide)
  refine G.rp 1 fun R hR=>?_
  refine D.aa (PtrTo.block (Mem.get hb1 mup) _) ?_
  refine D.ps 4 ?_
  refine D.aY rfl rfl rfl rfl rfl rfl (fun _=>PtrTo.block (Mem.get hb1 mup) _) rfl rfl rfl ?_
  refine D.ps 2 ?_
  refine D.aB ?_
  refine D.q2 1 1 17 hR ?_
  refine G.cd (fun h17=>?_) fun h17=>?_
  ·exfalso
   simp only [Bool.or_eq_true,decide_eq_true_eq] at h17
   omega
  ·refine G.rg fun R hR=>?_
   refine D.makeMapP kP2 rfl rfl rfl rfl (fun _=>rfl) (fun b28=>?_)
   refine D.q2 1 1 3 hR ?_
   refine G.rp 1 fun R hR=>?_
   refine D.aa (PtrTo.block (Mem.get hb1 mup) _) ?_
   refine D.q5 2 1 3 30 31 32 hR ?_
   refine G.loop (fun fr C' L' μ=>∃ (i:Nat),(i<=pts.length)/\fr=[(1,[],.pointer (some ⟨b1,0,none⟩)),(3,[],.map (some b28)),(30,[],.slice A1 pts.length c1),(31,[],.int .i64 pts.length),(32,[],.int .i64 i)]/\L'=[.obj b28 (aF encS2 (metV (pts.take i)))]/\μ=pts.length-i) (h_5 1 3 30 31 32) ⟨0,Nat.zero_le _,rfl,rfl,rfl⟩ (fun fr C0' L0' m hle0 hI=>?_)
   obtain ⟨i,hi,rfl,rfl,rfl⟩:=hI
   refine G.z6 1 1 3 30 31 32 33 ?_
   refine G.cd (fun h33=>?_) fun h33=>?_
   ·have hil:i<pts.length:=by simpa using h33
    obtain ⟨p,hp⟩:∃ p,pts[i]?=some p:=⟨pts[i],List.getElem?_eq_getElem hil⟩
    have hpq:=hM.q p (List.mem_of_getElem? hp)
    have hnew:p ∉ pts.take i:=by
     intro hm
     obtain ⟨j,hj⟩:=List.getElem?_of_mem hm
     rw [List.getElem?_take] at hj
     split at hj
     ·rename_i hji
      have h3:=(List.getElem?_eq_some_iff.1 hj)
      have h4:=(List.getElem?_eq_some_iff.1 hp)
      have:=(List.getElem_inj hM.nd).1 (h3.2.trans h4.2.symm)
      omega
     ·cases hj
    have hone:metV (pts.take (i+1))=metV (pts.take i++[p]):=by rw [List.take_add_one,hp];rfl
    refine G.rg fun R hR=>?_
    refine D.ap (h1.mono mup) rfl rfl rfl rfl rfl rfl rfl rfl rfl rfl (by omega) (by rw [List.getElem?_map,hp];rfl:(pts.map encP)[i]?=some (encP p)) (fun _=>rfl) (fun p34 hp34=>?_)
    refine D.aa hp34 ?_
    refine D.aq (fun b5=>?_)
    refine D.aj (j:=0) ?_
    refine D.e6 1 3 5 30 31 32 hR ?_
    refine G.rg fun R hR=>?_
    refine D.ag (.head _) ?_
    refine D.af (ft _ (hT.mono mup) (qtx p.1) (qtx p.2) (by have:=bA hpq.1 (by decide);omega) (by have:=bA hpq.2 (by decide);omega)) rfl rfl rfl rfl rfl rfl rfl (fun _=>rfl) ?_
    refine D.q7 1 1 3 5 30 31 32 38 hR ?_
    refine G.cd (fun h38=>?_) fun h38=>?_
    ·exfalso
     rw [bf (hpq.1.le (by decide)),bf (hpq.2.le (by decide))] at h38
     exact absurd h38 (by decide)
    ·refine G.rp 1 fun R hR=>?_
     refine D.ag (.head _) ?_
     refine D.lookupLP kP2 (.tail _ (.head _)) rfl rfl rfl rfl rfl rfl rfl rfl rfl (congrArg (lookV (.bool false) false) (met_none hnew)) rfl rfl ?_
     refine D.e7 1 3 5 30 31 32 41 hR ?_
     refine G.cd (fun h41=>?_) fun h41=>?_
     ·exact absurd h41 (by decide)
     ·refine G.rp 1 fun R hR=>?_
      refine D.ag (.head _) ?_
      refine D.fP kP2 (j:=1) (key:=ptK p) rfl rfl rfl rfl rfl rfl rfl rfl rfl rfl ?_
      refine D.e5 1 3 30 31 32 hR ?_
      refine G.rg fun R hR=>?_
      refine D.am _ ?_
      refine D.q5 1 1 3 30 31 32 hR ?_
      refine G.cS 1 rfl ?_
      refine G.ba (L':=[.obj b28 (aF encS2 (metV (pts.take (i+1))))]) (by rw [hone,<- met_new hnew];rfl) ?_
      refine G.au (m':=pts.length-(i+1)) (by omega) mup (h_5 1 3 30 31 32) ⟨i+1,(by omega),rfl,rfl,rfl⟩
   ·refine G.rp 1 fun R hR=>?_
    refine D.aa (PtrTo.block (Mem.get hb1 mup) _) ?_
    refine D.q4 2 1 46 47 48 hR ?_
    refine G.dropAll ?_
    refine G.loop (fun fr C' L' μ=>∃ (i:Nat),(i<=tris.length)/\fr=[(1,[],.pointer (some ⟨b1,0,none⟩)),(46,[],.slice A2 tris.length c2),(47,[],.int .i64 tris.length),(48,[],.int .i64 i)]/\L'=[]/\μ=tris.length-i) (h_4 1 46 47 48) ⟨0,Nat.zero_le _,rfl,rfl,rfl⟩ (fun fr C1' L1' m hle1 hI=>?_)
    obtain ⟨i,hi,rfl,rfl,rfl⟩:=hI
    refine G.z5 1 1 46 47 48 49 ?_
    refine G.cd (fun h49=>?_) fun h49=>?_
    ·have hil:i<tris.length:=by simpa using h49
     obtain ⟨t,ht⟩:∃ t,tris[i]?=some t:=⟨tris[i],List.getElem?_eq_getElem hil⟩
     have htm:=List.mem_of_getElem? ht
     have hti:=hM.ins t htm
     have hpos:=hM.pos t htm
     refine G.rg fun R hR=>?_
     refine D.ap (h2.mono mup) rfl rfl rfl rfl rfl rfl rfl rfl rfl rfl (by omega) (by rw [List.getElem?_map,ht];rfl:(tris.map encT)[i]?=some (encT t)) (fun _=>rfl) (fun p50 hp50=>?_)
     refine D.aa hp50 ?_
     refine D.aq (fun b7=>?_)
     refine D.aj (j:=0) ?_
     refine D.e5 1 7 46 47 48 hR ?_
     refine G.rg fun R hR=>?_
     refine D.ag (.head _) ?_
     refine D.q7 1 1 7 46 47 48 52 53 hR ?_
     refine G.loop (fun fr C' L' μ=>∃ (j:Nat),(j<=3)/\fr=[(1,[],.pointer (some ⟨b1,0,none⟩)),(7,[],.pointer (some ⟨b7,0,none⟩)),(46,[],.slice A2 tris.length c2),(47,[],.int .i64 tris.length),(48,[],.int .i64 i),(52,[],.agg ⟨encT t⟩),(53,[],.int .i64 j)]/\L'=[.obj b7 (.cells ⟨encT t⟩ 121 (0,0))]/\μ=3-j) (h_7 1 7 46 47 48 52 53) ⟨0,Nat.zero_le _,rfl,rfl,rfl⟩ (fun fr C2' L2' m hle2 hI=>?_)
     obtain ⟨j,hj,rfl,rfl,rfl⟩:=hI
     refine G.z8 1 1 7 46 47 48 52 53 54 ?_
     refine G.cd (fun h54=>?_) fun h54=>?_
     ·have hjl:j<3:=by
       simp only [decide_eq_true_eq] at h54
       omega
      have hin:=dA hti j
      refine G.rg fun R hR=>?_
      refine D.bW rfl rfl rfl rfl rfl rfl rfl rfl rfl rfl rfl (fun _=>⟨by omega,by omega,(show (encT t)[((j:Nat):Int).toNat]?=some (.int .i64 ((triN t j:Nat):Int)) from by rw [<- triZ_N];exact encT_at t hjl)⟩) rfl rfl ?_
      refine D.q8 1 1 7 9 46 47 48 52 53 hR ?_
      refine G.rp 5 fun R hR=>?_
      refine D.aY rfl rfl rfl rfl rfl rfl (fun _=>PtrTo.block (Mem.get hb1 mup) _) rfl rfl rfl ?_
      refine D.ps 2 ?_
      refine D.aB ?_
      refine D.e8 1 7 46 47 48 52 53 64 hR ?_
      refine G.cd (fun h64=>?_) fun h64=>?_
      ·exfalso
       simp only [Bool.or_eq_true,decide_eq_true_eq] at h64
       omega
      ·refine G.rg fun R hR=>?_
       refine D.am _ ?_
       refine D.q7 1 1 7 46 47 48 52 53 hR ?_
       refine G.au (m':=3-(j+1)) (by omega) hle2 (h_7 1 7 46 47 48 52 53) ⟨j+1,(by omega),rfl,rfl,rfl⟩
     ·clear h54
      refine G.aI [0,1,2,3,4,5,6,7,8,9,10,11,12,13,14,15,16,17,18,19] [(18,1)] rfl (by kernel_rfl) (fun R hB hR=>?_)
      refine D.ae ?_
      refine D.aa (PtrTo.block (Mem.get hb1 mup) _) ?_
      refine D.aw (0) rfl rfl rfl rfl rfl rfl rfl rfl rfl (fun _=>⟨by decide,by decide,rfl⟩) rfl rfl ?_
      refine D.ag (.head _) ?_
      refine D.ap (h1.mono mup) rfl rfl rfl rfl rfl rfl rfl rfl rfl rfl (by omega) (by rw [List.getElem?_map,show (((t.1:Nat):Int)).toNat=t.1 from rfl,pt_at hti.1];rfl:(pts.map encP)[(((t.1:Nat):Int)).toNat]?=some (encP (pts.getD t.1 (0,0)))) (fun _=>rfl) (fun p70 hp70=>?_)
      refine D.aa hp70 ?_
      refine D.ae ?_
      refine D.aa (PtrTo.block (Mem.get hb1 mup) _) ?_
      refine D.aw (1) rfl rfl rfl rfl rfl rfl rfl rfl rfl (fun _=>⟨by decide,by decide,rfl⟩) rfl rfl ?_
      refine D.ag (.head _) ?_
      refine D.ap (h1.mono mup) rfl rfl rfl rfl rfl rfl rfl rfl rfl rfl (by omega) (by rw [List.getElem?_map,show (((t.2.1:Nat):Int)).toNat=t.2.1 from rfl,pt_at hti.2.1];rfl:(pts.map encP)[(((t.2.1:Nat):Int)).toNat]?=some (encP (pts.getD t.2.1 (0,0)))) (fun _=>rfl) (fun p76 hp76=>?_)
      refine D.aa hp76 ?_
      refine D.ae ?_
      refine D.aa (PtrTo.block (Mem.get hb1 mup) _) ?_
      refine D.aw (2) rfl rfl rfl rfl rfl rfl rfl rfl rfl (fun _=>⟨by decide,by decide,rfl⟩) rfl rfl ?_
      refine D.ag (.head _) ?_
      refine D.ap (h1.mono mup) rfl rfl rfl rfl rfl rfl rfl rfl rfl rfl (by omega) (by rw [List.getElem?_map,show (((t.2.2:Nat):Int)).toNat=t.2.2 from rfl,pt_at hti.2.2];rfl:(pts.map encP)[(((t.2.2:Nat):Int)).toNat]?=some (encP (pts.getD t.2.2 (0,0)))) (fun _=>rfl) (fun p82 hp82=>?_)
      refine D.aa hp82 ?_
      refine D.aD (fun _=>(turn_fn _ (hT.mono mup) (pts.getD t.1 (0,0)) (pts.getD t.2.1 (0,0)) (pts.getD t.2.2 (0,0)) 1 (by decide) (by decide) (hM.q _ (pt_mem hti.1)) (hM.q _ (pt_mem hti.2.1)) (hM.q _ (pt_mem hti.2.2)))) rfl rfl rfl rfl rfl rfl rfl rfl rfl ?_
      refine D.q5 1 1 46 47 48 85 hR ?_
      refine G.cd (fun h85=>?_) fun h85=>?_
      ·exfalso
       rw [sgn_le,decide_eq_true hpos] at h85
       exact absurd h85 (by decide)
      ·refine G.rg fun R hR=>?_
       refine D.am _ ?_
       refine D.q4 1 1 46 47 48 hR ?_
       refine G.dropAll ?_
       refine G.au (m':=tris.length-(i+1)) (by omega) mup (h_4 1 46 47 48) ⟨i+1,(by omega),rfl,rfl,rfl⟩
    ·clear h49
     refine G.rg fun R hR=>?_
     refine D.aa (PtrTo.block (Mem.get hb1 mup) _) ?_
     refine D.af (whole_mesh_fn _ (hT.mono mup) _ _ pts tris h0 (h1.mono mup) (h2.mono mup) hM.sides hM.ins hM.q (by omega)) rfl rfl rfl rfl rfl rfl rfl (fun _=>rfl) ?_
     refine D.e2 1 88 hR ?_
     refine G.cd (fun h88=>?_) fun h88=>?_
     ·have hw:wholeB pts tris=true:=h88
      refine G.z1 1 2 ?_
      refine G.rf ?_
      exact ⟨by unfold meshZ;rw [if_neg h0,if_pos hw],rfl⟩
     ·have hw:wholeB pts tris=false:=h88
      refine G.rp 1 fun R hR=>?_
      refine D.aa (PtrTo.block (Mem.get hb1 mup) _) ?_
      refine D.q3 2 1 91 92 hR ?_
      refine G.loop (fun fr C' L' μ=>∃ (i:Nat),(i<=tris.length/\crossAny i X=false)/\fr=[(1,[],.pointer (some ⟨b1,0,none⟩)),(91,[],.int .i64 tris.length),(92,[],.int .i64 i)]/\L'=[]/\μ=tris.length-i) (h_3 1 91 92) ⟨0,⟨Nat.zero_le _,rfl⟩,rfl,rfl,rfl⟩ (fun fr C3' L3' m hle3 hI=>?_)
      obtain ⟨i,⟨hi3,hno⟩,rfl,rfl,rfl⟩:=hI
      refine G.z4 1 1 91 92 93 ?_
      refine G.cd (fun h93=>?_) fun h93=>?_
      ·have hil:i<tris.length:=by simpa using h93
       refine G.z4 2 1 10 91 92 ?_
       refine G.z6 2 1 10 91 92 95 96 ?_
       refine G.loop (fun fr C' L' μ=>∃ (k:Nat),(k<=i/\(List.range k).any (fun k=>X i k)=false)/\fr=[(1,[],.pointer (some ⟨b1,0,none⟩)),(10,[],.int .i64 i),(91,[],.int .i64 tris.length),(92,[],.int .i64 i),(95,[],.int .i64 i),(96,[],.int .i64 k)]/\L'=[]/\μ=i-k) (h_6 1 10 91 92 95 96) ⟨0,⟨Nat.zero_le _,rfl⟩,rfl,rfl,rfl⟩ (fun fr C4' L4' m hle4 hI=>?_)
       obtain ⟨k,⟨hk4,hno4⟩,rfl,rfl,rfl⟩:=hI
       refine G.z7 1 1 10 91 92 95 96 97 ?_
       refine G.cd (fun h97=>?_) fun h97=>?_
       ·have hki:k<i:=by simpa using h97
        refine G.z7 2 1 10 11 91 92 95 96 ?_
        refine G.rg fun R hR=>?_
        refine D.aa (PtrTo.block (Mem.get hb1 mup) _) ?_
        refine D.ps 2 ?_
        refine D.ah (hX h0 hw _ mup i k hil hki) ?_
        refine D.e7 1 10 91 92 95 96 102 hR ?_
        refine G.cd (fun h102=>?_) fun h102=>?_
        ·have hyes:X i k=true:=h102
         have hc:crossAny tris.length X=true:=List.any_eq_true.2 ⟨i,List.mem_range.2 hil,List.any_eq_true.2 ⟨k,List.mem_range.2 hki,hyes⟩⟩
         refine G.z1 1 2 ?_
         refine G.rf ?_
         exact ⟨by unfold meshZ;rw [if_neg h0,hw,if_neg (by decide),if_pos hc],rfl⟩
        ·have hno5:X i k=false:=h102
         refine G.rg fun R hR=>?_
         refine D.am _ ?_
         refine D.q6 1 1 10 91 92 95 96 hR ?_
         refine G.au (m':=i-(k+1)) (by omega) hle4 (h_6 1 10 91 92 95 96) ⟨k+1,⟨by omega,by rw [List.range_succ,List.any_append,hno4];simp [hno5]⟩,rfl,rfl,rfl⟩
       ·have hki:k=i:=by
         have:¬ k<i:=by simpa using h97
         omega
        subst hki
        refine G.rg fun R hR=>?_
        refine D.am _ ?_
        refine D.q3 1 1 91 92 hR ?_
        refine G.au (m':=tris.length-(k+1)) (by omega) mup (h_3 1 91 92) ⟨k+1,⟨by omega,by unfold crossAny at hno ⊢;rw [List.range_succ,List.any_append,hno];simp [hno4]⟩,rfl,rfl,rfl⟩
      ·have hil:i=tris.length:=by
        have:¬ i<tris.length:=by simpa using h93
        omega
       refine G.z1 1 2 ?_
       refine G.rf ?_
       refine ⟨?_,rfl⟩
       rw [hil] at hno
       unfold meshZ
       rw [if_neg h0,hw,if_neg (by decide),hno]
       rfl

structure Good (pts:List Pt)(tris:List Tri):Prop where
 ok:MeshOk pts tris
 ne:tris≠[]
 whole:wholeB pts tris=true
structure MeshIn (C:Mem)(mv:Value)(pts:List Pt)(tris:List Tri):Prop where
 ex:∃ v1 v2,mv=.agg ⟨[v1,v2]⟩/\Sl C 2 v1 (pts.map encP)/\Sl C 3 v2 (tris.map encT)
theorem MeshIn.mono {C D:Mem}{mv:Value}{pts:List Pt}{tris:List Tri}(h:MeshIn C mv pts tris)(hl:C.le D):MeshIn D mv pts tris:=by
 obtain ⟨v1,v2,h1,h2,h3⟩:=h.ex
 exact ⟨v1,v2,h1,h2.mono hl,h3.mono hl⟩
def nox:Nat->Nat->Bool:=fun _ _=>false
theorem good_check (C:Mem)(hT:Tabs C)(mv:Value)(pts:List Pt)(tris:List Tri)(hm:MeshIn C mv pts tris)(hG:Good pts tris):Gives cx.P 72 [mv] C (.int .i64 0):=by
 obtain ⟨v1,v2,rfl,h1,h2⟩:=hm.ex
 have h:=mcheck_fn C hT v1 v2 pts tris nox h1 h2 hG.ok (fun _ h3=>by rw [hG.whole] at h3;cases h3)
 have e:meshZ pts tris nox=0:=by unfold meshZ;rw [if_neg hG.ne,if_pos hG.whole]
 rwa [e] at h
def cor (pts:List Pt)(t:Tri)(j:Nat):Pt:=pts.getD (triN t j) (0,0)
def inTri (pts:List Pt)(p:Pt)(t:Tri):Bool:=decide (0<=bY (cor pts t 0) (cor pts t 1) p) && decide (0<=bY (cor pts t 1) (cor pts t 2) p) && decide (0<=bY (cor pts t 2) (cor pts t 0) p)
def locL (pts:List Pt)(tris:List Tri)(p:Pt):List Nat:=(List.range tris.length).filter fun i=>inTri pts p (tris.getD i (0,0,0))
theorem cor_qp {pts:List Pt}{tris:List Tri}(h:MeshOk pts tris){t:Tri}(ht:t∈tris)(j:Nat):QP 1 (cor pts t j):=h.q _ (pt_mem (dA (h.ins t ht) j))
theorem QP.le {k m:Nat}{p:Pt}(h:QP k p)(hk:k<=m):QP m p:=⟨h.1.le hk,h.2.le hk⟩
theorem corners_ok (C:Mem)(mv:Value)(pts:List Pt)(tris:List Tri)(hm:MeshIn C mv pts tris)(hM:MeshOk pts tris)(i:Nat)(t:Tri)(ht:tris[i]?=some t) :
  Gives cx.P 94 [mv,.int .i64 i] C (cornV (cor pts t 0) (cor pts t 1) (cor pts t 2)):=by
 obtain ⟨v1,v2,rfl,h1,h2⟩:=hm.ex
 have hti:=hM.ins t (List.mem_of_getElem? ht)
 exact corners_fn C v1 v2 pts tris i t _ _ _ h1 h2 ht (pt_at hti.1) (pt_at hti.2.1) (pt_at hti.2.2)
theorem ratP_ok {p:Pt}{k:Nat}(h:QP k p)(hk:k<=1000):(qtx p.1).length<=999998/\(qtx p.2).length<=999998:=by
 have h1:=bA (h.1.le (Nat.le_succ k)) (by omega)
 have h2:=bA (h.2.le (Nat.le_succ k)) (by omega)
 exact ⟨by omega,by omega⟩
def PtR (p:Pt):Prop:=aR (qtx p.1)=true/\aR (qtx p.2)=true
theorem fq (C:Mem)(hT:Tabs C)(p:Pt)(hq:QP 23 p)(hr:PtR p):Gives cx.P 92 [ptV p] C (.int .i64 0):=by
 have h:=ft C hT (qtx p.1) (qtx p.2) (ratP_ok hq (by decide)).1 (ratP_ok hq (by decide)).2
 rw [hr.1,hr.2] at h
 exact h
theorem locate_fn (C:Mem)(hT:Tabs C)(mv:Value)(pts:List Pt)(tris:List Tri)(p:Pt)(hm:MeshIn C mv pts tris)(hG:Good pts tris)(hq:QP 23 p)(hr:PtR p) :
  Pur cx.P 46 [mv,ptV p] C fun u D=>∃ v,u=.tuple #[v,.int .i64 0]/\Sl D 1 v ((locL pts tris p).map encN):=by
 have hM:=hG.ok
 have hlt:=hM.lt
 have hmx:maxLen<=9223372036854775807:=by simp [maxLen]
 have hm0:=hm
 obtain ⟨v1,v2,rfl,h1,h2⟩:=id hm.ex
 obtain ⟨A1,c1,rfl,hq1,hq2,_⟩:=id h1
 obtain ⟨A2,c2,rfl,hq3,hq4,_⟩:=id h2
 simp only [List.length_map] at h1 h2 hm0 ⊢
 refine Fn.it (by kernel_rfl) Tryz.func46 34 fun w0=>?_
 refine G.rg fun R hR=>?_
 refine D.aE (fun b2=>?_)
 refine D.aE (fun b3=>?_)
 refine D.q2 2 2 3 hR ?_
 refine G.freeze 1 rfl (fun C2 hle2 hb2=>?_)
 refine G.freeze 0 rfl (fun C3 hle3 hb3=>?_)
 refine G.rg fun R hR=>?_
 refine D.aa (PtrTo.block (Mem.get hb2 mup) _) ?_
 refine D.ah (good_check _ (hT.mono mup) _ pts tris (hm0.mono mup) hG) ?_
 refine D.q3 1 2 3 6 hR ?_
 refine G.z4 2 2 3 6 12 ?_
 refine G.cd (fun h12=>?_) fun h12=>?_
 ·exact absurd h12 (by decide)
 ·refine G.rg fun R hR=>?_
  refine D.aa (PtrTo.block (Mem.get hb3 mup) _) ?_
  refine D.ah (fq _ (hT.mono mup) p hq hr) ?_
  refine D.q3 1 2 3 16 hR ?_
  refine G.cd (fun h16=>?_) fun h16=>?_
  ·exact absurd h16 (by decide)
  ·refine G.z3 1 2 3 7 ?_
   refine G.rp 1 fun R hR=>?_
   refine D.aa (PtrTo.block (Mem.get hb2 mup) _) ?_
   refine D.q5 2 2 3 7 19 20 hR ?_
   refine G.nilArr 3 1 ?_
   refine G.loop (fun fr C' L' μ=>∃ (i:Nat)(out:List Nat)(w:Value),(i<=tris.length/\out=(List.range i).filter (fun i=>inTri pts p (tris.getD i (0,0,0))))/\fr=[(2,[],.pointer (some ⟨b2,0,none⟩)),(3,[],.pointer (some ⟨b3,0,none⟩)),(7,[],w),(19,[],.int .i64 tris.length),(20,[],.int .i64 i)]/\L'=[.arr w 3 1 out.length (out.map encN).flatten]/\μ=tris.length-i) (h_5 2 3 7 19 20) ⟨0,[],_,⟨Nat.zero_le _,rfl⟩,rfl,rfl,rfl⟩ (fun fr C0' L0' m hle0 hI=>?_)
   obtain ⟨i,out,w,⟨hi,hout⟩,rfl,rfl,rfl⟩:=hI
   refine G.z6 1 2 3 7 19 20 21 ?_
   refine G.cd (fun h21=>?_) fun h21=>?_
   ·have hil:i<tris.length:=by simpa using h21
    obtain ⟨t,ht⟩:∃ t,tris[i]?=some t:=⟨tris[i],List.getElem?_eq_getElem hil⟩
    have htm:=List.mem_of_getElem? ht
    have htd:tris.getD i (0,0,0)=t:=by rw [List.getD_eq_getElem?_getD,ht];rfl
    have hol:out.length<=i:=by
     rw [hout]
     exact Nat.le_trans (List.length_filter_le _ _) (by simp)
    refine G.z6 2 2 3 7 8 19 20 ?_
    refine G.aI [0,1,2,3,4] [(2,1),(4,1)] rfl (by kernel_rfl) (fun R hB hR=>?_)
    refine D.aa (PtrTo.block (Mem.get hb2 mup) _) ?_
    refine D.ae ?_
    refine D.bd (fun _=>(corners_ok _ _ pts tris (hm0.mono mup) hM i t ht)) ?_
    refine D.aa (PtrTo.block (Mem.get hb3 mup) _) ?_
    refine D.aD (fun _=>(inside_fn _ (hT.mono mup) (cor pts t 0) (cor pts t 1) (cor pts t 2) p 23 (by decide) (by decide) ((cor_qp hM htm 0).le (by decide)) ((cor_qp hM htm 1).le (by decide)) ((cor_qp hM htm 2).le (by decide)) hq)) rfl rfl rfl rfl rfl rfl rfl rfl rfl ?_
    refine D.e7 2 3 7 8 19 20 27 hR ?_
    refine G.cd (fun h27=>?_) fun h27=>?_
    ·have hin:inTri pts p t=true:=h27
     have hnew:(List.range (i+1)).filter (fun i=>inTri pts p (tris.getD i (0,0,0)))=out++[i]:=by rw [List.range_succ,List.filter_append,<- hout,List.filter_cons,htd,hin];rfl
     refine G.rp 2 fun R hR=>?_
     refine D.ai [encN i] (fun p30 C30 hle30 hs30=>?_)
     refine D.append (j:=0) rfl rfl rfl rfl rfl rfl rfl rfl rfl rfl rfl hs30 rfl (by simp only [List.length_singleton,maxLen];omega) (by simp only [List.length_singleton];omega) (fun _=>rfl) (fun v31=>?_)
     refine D.q5 1 2 3 7 19 20 hR ?_
     refine G.rg fun R hR=>?_
     refine D.am _ ?_
     refine D.q5 1 2 3 7 19 20 hR ?_
     refine G.ba (L':=[.arr v31 3 1 (out++[i]).length ((out++[i]).map encN).flatten]) (by simp [encN]) ?_
     refine G.au (m':=tris.length-(i+1)) (by omega) mup (h_5 2 3 7 19 20) ⟨i+1,out++[i],v31,⟨by omega,hnew.symm⟩,rfl,rfl,rfl⟩
    ·have hin:inTri pts p t=false:=h27
     have hnew:(List.range (i+1)).filter (fun i=>inTri pts p (tris.getD i (0,0,0)))=out:=by rw [List.range_succ,List.filter_append,<- hout,List.filter_cons,htd,hin];simp
     refine G.rg fun R hR=>?_
     refine D.am _ ?_
     refine D.q5 1 2 3 7 19 20 hR ?_
     refine G.au (m':=tris.length-(i+1)) (by omega) mup (h_5 2 3 7 19 20) ⟨i+1,out,w,⟨by omega,hnew.symm⟩,rfl,rfl,rfl⟩
   ·have hil:i=tris.length:=by
     have:¬ i<tris.length:=by simpa using h21
     omega
    refine G.z2 3 4 5 ?_
    refine G.freezeArr 0 (out.map encN) rfl rfl (by intro r hr;obtain ⟨y,_,rfl⟩:=List.mem_map.1 hr;rfl) (by simp) (fun Cg hg hsl3=>?_)
    refine G.aA (G.dropAll (G.aP rfl rfl rfl ?_))
    refine ⟨rfl,_,rfl, ?_⟩
    rw [hil] at hout
    unfold locL
    rw [<- hout]
    exact hsl3
theorem contains_fn (C:Mem)(hT:Tabs C)(mv:Value)(pts:List Pt)(tris:List Tri)(p:Pt)(hm:MeshIn C mv pts tris)(hG:Good pts tris)(hq:QP 23 p)(hr:PtR p) :
  Gives cx.P 80 [mv,ptV p] C (.tuple #[.bool (decide (locL pts tris p≠[])),.int .i64 0]):=by
 have hm0:=hm
 obtain ⟨v1,v2,rfl,h1,h2⟩:=id hm.ex
 refine Fn.it (by kernel_rfl) Tryz.func80 18 fun w0=>?_
 refine G.rg fun R hR=>?_
 refine D.aE (fun b2=>?_)
 refine D.aE (fun b3=>?_)
 refine D.q2 2 2 3 hR ?_
 refine G.rg fun R hR=>?_
 refine D.ag (.tail _ (.head _)) ?_
 refine D.ag (.head _) ?_
 refine D.aU (locate_fn _ (hT.mono mup) _ pts tris p (hm0.mono mup) hG hq hr) (fun v11 C11 hle11 hq11=>?_)
 obtain ⟨wv,rfl,hwv⟩:=hq11
 obtain ⟨Aw,cw,hwe,_⟩:=id hwv
 rw [List.length_map] at hwe
 subst hwe
 refine D.q2 5 6 7 hR ?_
 refine G.z2 6 4 5 ?_
 refine G.aA (G.dropAll (G.aP rfl rfl rfl ?_))
 refine ⟨?_,rfl⟩
 have:decide (((locL pts tris p).length:Int) > 0)=decide (locL pts tris p≠[]):=by
  rw [decide_eq_decide,<- List.length_pos_iff]
  omega
 rw [<- this]
theorem checkTri_fn (C:Mem)(hT:Tabs C)(mv:Value)(pts:List Pt)(tris:List Tri)(i:Nat)(hm:MeshIn C mv pts tris)(hG:Good pts tris)(hi:i<tris.length) :
  Gives cx.P 188 [mv,.int .i64 i] C (.int .i64 0):=by
 have hm0:=hm
 obtain ⟨v1,v2,rfl,h1,h2⟩:=id hm.ex
 obtain ⟨A2,c2,rfl,hq3,hq4,_⟩:=id h2
 simp only [List.length_map] at h1 h2 hm0 ⊢
 refine Fn.it (by kernel_rfl) Tryz.func188 20 fun w0=>?_
 refine G.rg fun R hR=>?_
 refine D.aE (fun b2=>?_)
 refine D.q2 1 1 2 hR ?_
 refine G.rg fun R hR=>?_
 refine D.ag (.head _) ?_
 refine D.ah (good_check _ (hT.mono mup) _ pts tris (hm0.mono mup) hG) ?_
 refine D.q3 1 1 2 5 hR ?_
 refine G.z4 2 1 2 5 9 ?_
 refine G.cd (fun h9=>?_) fun h9=>?_
 ·exact absurd h9 (by decide)
 ·refine G.rp 5 fun R hR=>?_
  refine D.ag (.head _) ?_
  refine D.ps 2 ?_
  refine D.aB ?_
  refine D.e1 19 hR ?_
  refine G.cd (fun h19=>?_) fun h19=>?_
  ·exfalso
   simp only [Bool.or_eq_true,decide_eq_true_eq] at h19
   omega
  ·refine G.z1 1 4 ?_
   refine G.rf ?_
   exact ⟨rfl,rfl⟩
def wgt (pts:List Pt)(t:Tri)(p:Pt)(j:Nat):Rat:=bY p (cor pts t ((j+1) % 3)) (cor pts t ((j+2) % 3)) / bY (cor pts t 0) (cor pts t 1) (cor pts t 2)
theorem ep {pts:List Pt}{tris:List Tri}(hM:MeshOk pts tris){t:Tri}(ht:t∈tris):bY (cor pts t 0) (cor pts t 1) (cor pts t 2)≠0:=by
 have h:=hM.pos t ht
 intro e
 have e2:bY (pts.getD t.1 (0,0)) (pts.getD t.2.1 (0,0)) (pts.getD t.2.2 (0,0))=0:=e
 rw [e2] at h
 exact absurd h (by decide)
theorem shares_fn (C:Mem)(hT:Tabs C)(mv:Value)(pts:List Pt)(tris:List Tri)(p:Pt)(i:Nat)(t:Tri)(hm:MeshIn C mv pts tris)(hG:Good pts tris)(hq:QP 23 p)(hr:PtR p)(ht:tris[i]?=some t)(hw:∀ j,QB 22 (wgt pts t p j)) :
  Gives cx.P 139 [mv,.int .i64 i,ptV p] C (.tuple #[.agg ⟨[strV (qtx (wgt pts t p 0)),strV (qtx (wgt pts t p 1)),strV (qtx (wgt pts t p 2))]⟩,.int .i64 0]):=by
 have hM:=hG.ok
 have htm:=List.mem_of_getElem? ht
 have hil:=(List.getElem?_eq_some_iff.1 ht).1
 have hm0:=hm
 obtain ⟨v1,v2,rfl,h1,h2⟩:=id hm.ex
 have hc:=fun j=>(cor_qp hM htm j).le (show 1<=23 by decide)
 have hne:=ep hM htm
 have hqa:∀ a b,QP 23 a->QP 23 b->QB 189 (bY p a b):=fun a b ha hb=>(QB_area hq ha hb).le (by decide)
 have hqw:QB 189 (bY (cor pts t 0) (cor pts t 1) (cor pts t 2)):=(QB_area (hc 0) (hc 1) (hc 2)).le (by decide)
 refine Fn.it (by kernel_rfl) Tryz.func139 69 fun w0=>?_
 refine G.rg fun R hR=>?_
 refine D.aE (fun b3=>?_)
 refine D.aE (fun b5=>?_)
 refine D.aq (fun b6=>?_)
 refine D.q4 1 1 3 5 6 hR ?_
 refine G.freeze 2 rfl (fun C3 hle3 hb3=>?_)
 refine G.freeze 1 rfl (fun C5 hle5 hb5=>?_)
 refine G.rg fun R hR=>?_
 refine D.aa (PtrTo.block (Mem.get hb3 mup) _) ?_
 refine D.ae ?_
 refine D.ah (checkTri_fn _ (hT.mono mup) _ pts tris i (hm0.mono mup) hG hil) ?_
 refine D.q5 1 1 3 5 6 8 hR ?_
 refine G.z6 2 1 3 5 6 8 18 ?_
 refine G.cd (fun h18=>?_) fun h18=>?_
 ·exact absurd h18 (by decide)
 ·refine G.rg fun R hR=>?_
  refine D.aa (PtrTo.block (Mem.get hb5 mup) _) ?_
  refine D.ah (fq _ (hT.mono mup) p hq hr) ?_
  refine D.q5 1 1 3 5 6 23 hR ?_
  refine G.cd (fun h23=>?_) fun h23=>?_
  ·exact absurd h23 (by decide)
  ·refine G.rg fun R hR=>?_
   refine D.aa (PtrTo.block (Mem.get hb3 mup) _) ?_
   refine D.ae ?_
   refine D.ah (corners_ok _ _ pts tris (hm0.mono mup) hM i t ht) ?_
   refine D.aq (fun b9=>?_)
   refine D.aj (j:=0) ?_
   refine D.e3 5 6 9 hR ?_
   refine G.freeze 0 rfl (fun C9 hle9 hb9=>?_)
   refine G.rg fun R hR=>?_
   refine D.aq (fun b10=>?_)
   refine D.e4 5 6 9 10 hR ?_
   refine G.z5 1 5 6 9 10 28 ?_
   refine G.loop (fun fr C' L' μ=>∃ (j:Nat),(j<=3)/\fr=[(5,[],.pointer (some ⟨b5,0,none⟩)),(6,[],.pointer (some ⟨b6,0,none⟩)),(9,[],.pointer (some ⟨b9,0,none⟩)),(10,[],.pointer (some ⟨b10,0,none⟩)),(28,[],.int .i64 j)]/\L'=[.obj b10 (.cells ⟨(List.range 3).map fun k=>if k<j then strV (qtx (wgt pts t p k)) else strV []⟩ 212 (0,0)),.obj b6 (.cells ⟨[strV [],strV [],strV []]⟩ 212 (0,0))]/\μ=3-j) (h_5 5 6 9 10 28) ⟨0,Nat.zero_le _,rfl,rfl,rfl⟩ (fun fr C0' L0' m hle0 hI=>?_)
   obtain ⟨j,hj,rfl,rfl,rfl⟩:=hI
   refine G.z6 1 5 6 9 10 28 29 ?_
   refine G.cd (fun h29=>?_) fun h29=>?_
   ·have hjl:j<3:=by
     simp only [decide_eq_true_eq] at h29
     omega
    rcases (by omega:j=0∨j=1∨j=2) with rfl | rfl | rfl
    ·refine G.z6 2 5 6 9 10 11 28 ?_
     refine G.aI [0,1,2,3,4,5,6,7,8,9,10,11,12,13,14,15,16,17,18,19,20,21,22,23,24,25] [(12,1),(19,1),(20,1)] rfl (by kernel_rfl) (fun R hB hR=>?_)
     refine D.ae ?_
     refine D.aa (PtrTo.block (Mem.get hb5 mup) _) ?_
     refine D.ae ?_
     refine D.am _ ?_
     refine D.rem rfl rfl rfl rfl rfl rfl (by omega) (by omega) rfl rfl ?_
     refine D.aw (_) rfl rfl rfl rfl rfl rfl rfl rfl rfl (fun _=>⟨by decide,by decide,rfl⟩) rfl rfl ?_
     refine D.aa (bkT hb9 2) ?_
     refine D.ae ?_
     refine D.am _ ?_
     refine D.rem rfl rfl rfl rfl rfl rfl (by omega) (by omega) rfl rfl ?_
     refine D.aw (_) rfl rfl rfl rfl rfl rfl rfl rfl rfl (fun _=>⟨by decide,by decide,rfl⟩) rfl rfl ?_
     refine D.aa (bkT hb9 2) ?_
     refine D.aD (fun _=>(area_fn _ (hT.mono mup) p (cor pts t ((0+1) % 3)) (cor pts t ((0+2) % 3)) 23 (by decide) (by decide) hq (hc _) (hc _))) rfl rfl rfl rfl rfl rfl rfl rfl rfl ?_
     refine D.aw (0) rfl rfl rfl rfl rfl rfl rfl rfl rfl (fun _=>⟨by decide,by decide,rfl⟩) rfl rfl ?_
     refine D.aa (bkT hb9 2) ?_
     refine D.aw (2) rfl rfl rfl rfl rfl rfl rfl rfl rfl (fun _=>⟨by decide,by decide,rfl⟩) rfl rfl ?_
     refine D.aa (bkT hb9 2) ?_
     refine D.aw (4) rfl rfl rfl rfl rfl rfl rfl rfl rfl (fun _=>⟨by decide,by decide,rfl⟩) rfl rfl ?_
     refine D.aa (bkT hb9 2) ?_
     refine D.aD (fun _=>(area_fn _ (hT.mono mup) (cor pts t 0) (cor pts t 1) (cor pts t 2) 23 (by decide) (by decide) (hc 0) (hc 1) (hc 2))) rfl rfl rfl rfl rfl rfl rfl rfl rfl ?_
     refine D.aD (fun _=>(rdiv_fn _ (hT.mono mup) _ _ 189 (by decide) (by decide) (hqa _ _ (hc _) (hc _)) hqw hne)) rfl rfl rfl rfl rfl rfl rfl rfl rfl ?_
     refine D.ps 3 ?_
     refine D.aw (_) rfl rfl rfl rfl rfl rfl rfl rfl rfl (fun _=>⟨by decide,by decide,rfl⟩) rfl rfl ?_
     refine D.aj (j:=0) ?_
     refine D.e6 5 6 9 10 11 28 hR ?_
     refine G.rp 1 fun R hR=>?_
     refine D.aw (_) rfl rfl rfl rfl rfl rfl rfl rfl rfl (fun _=>⟨by decide,by decide,rfl⟩) rfl rfl ?_
     refine D.ag (.head _) ?_
     refine D.ah (right_fn _ (hT.mono mup) (wgt pts t p 0) (hw 0)) ?_
     refine D.q6 5 5 6 9 10 13 28 hR ?_
     refine G.z7 2 5 6 9 10 13 28 64 ?_
     refine G.cd (fun h64=>?_) fun h64=>?_
     ·exact absurd h64 (by decide)
     ·refine G.rg fun R hR=>?_
      refine D.am _ ?_
      refine D.q5 1 5 6 9 10 28 hR ?_
      refine G.au (m':=2) (by omega) mup (h_5 5 6 9 10 28) ⟨1,by decide,rfl,rfl,rfl⟩
    ·refine G.z6 2 5 6 9 10 11 28 ?_
     refine G.aI [0,1,2,3,4,5,6,7,8,9,10,11,12,13,14,15,16,17,18,19,20,21,22,23,24,25] [(12,1),(19,1),(20,1)] rfl (by kernel_rfl) (fun R hB hR=>?_)
     refine D.ae ?_
     refine D.aa (PtrTo.block (Mem.get hb5 mup) _) ?_
     refine D.ae ?_
     refine D.am _ ?_
     refine D.rem rfl rfl rfl rfl rfl rfl (by omega) (by omega) rfl rfl ?_
     refine D.aw (_) rfl rfl rfl rfl rfl rfl rfl rfl rfl (fun _=>⟨by decide,by decide,rfl⟩) rfl rfl ?_
     refine D.aa (bkT hb9 2) ?_
     refine D.ae ?_
     refine D.am _ ?_
     refine D.rem rfl rfl rfl rfl rfl rfl (by omega) (by omega) rfl rfl ?_
     refine D.aw (_) rfl rfl rfl rfl rfl rfl rfl rfl rfl (fun _=>⟨by decide,by decide,rfl⟩) rfl rfl ?_
     refine D.aa (bkT hb9 2) ?_
     refine D.aD (fun _=>(area_fn _ (hT.mono mup) p (cor pts t ((1+1) % 3)) (cor pts t ((1+2) % 3)) 23 (by decide) (by decide) hq (hc _) (hc _))) rfl rfl rfl rfl rfl rfl rfl rfl rfl ?_
     refine D.aw (0) rfl rfl rfl rfl rfl rfl rfl rfl rfl (fun _=>⟨by decide,by decide,rfl⟩) rfl rfl ?_
     refine D.aa (bkT hb9 2) ?_
     refine D.aw (2) rfl rfl rfl rfl rfl rfl rfl rfl rfl (fun _=>⟨by decide,by decide,rfl⟩) rfl rfl ?_
     refine D.aa (bkT hb9 2) ?_
     refine D.aw (4) rfl rfl rfl rfl rfl rfl rfl rfl rfl (fun _=>⟨by decide,by decide,rfl⟩) rfl rfl ?_
     refine D.aa (bkT hb9 2) ?_
     refine D.aD (fun _=>(area_fn _ (hT.mono mup) (cor pts t 0) (cor pts t 1) (cor pts t 2) 23 (by decide) (by decide) (hc 0) (hc 1) (hc 2))) rfl rfl rfl rfl rfl rfl rfl rfl rfl ?_
     refine D.aD (fun _=>(rdiv_fn _ (hT.mono mup) _ _ 189 (by decide) (by decide) (hqa _ _ (hc _) (hc _)) hqw hne)) rfl rfl rfl rfl rfl rfl rfl rfl rfl ?_
     refine D.ps 3 ?_
     refine D.aw (_) rfl rfl rfl rfl rfl rfl rfl rfl rfl (fun _=>⟨by decide,by decide,rfl⟩) rfl rfl ?_
     refine D.aj (j:=0) ?_
     refine D.e6 5 6 9 10 11 28 hR ?_
     refine G.rp 1 fun R hR=>?_
     refine D.aw (_) rfl rfl rfl rfl rfl rfl rfl rfl rfl (fun _=>⟨by decide,by decide,rfl⟩) rfl rfl ?_
     refine D.ag (.head _) ?_
     refine D.ah (right_fn _ (hT.mono mup) (wgt pts t p 1) (hw 1)) ?_
     refine D.q6 5 5 6 9 10 13 28 hR ?_
     refine G.z7 2 5 6 9 10 13 28 64 ?_
     refine G.cd (fun h64b=>?_) fun h64b=>?_
     ·exact absurd h64b (by decide)
     ·refine G.rg fun R hR=>?_
      refine D.am _ ?_
      refine D.q5 1 5 6 9 10 28 hR ?_
      refine G.au (m':=1) (by omega) mup (h_5 5 6 9 10 28) ⟨2,by decide,rfl,rfl,rfl⟩
    ·refine G.z6 2 5 6 9 10 11 28 ?_
     refine G.aI [0,1,2,3,4,5,6,7,8,9,10,11,12,13,14,15,16,17,18,19,20,21,22,23,24,25] [(12,1),(19,1),(20,1)] rfl (by kernel_rfl) (fun R hB hR=>?_)
     refine D.ae ?_
     refine D.aa (PtrTo.block (Mem.get hb5 mup) _) ?_
     refine D.ae ?_
     refine D.am _ ?_
     refine D.rem rfl rfl rfl rfl rfl rfl (by omega) (by omega) rfl rfl ?_
     refine D.aw (_) rfl rfl rfl rfl rfl rfl rfl rfl rfl (fun _=>⟨by decide,by decide,rfl⟩) rfl rfl ?_
     refine D.aa (bkT hb9 2) ?_
     refine D.ae ?_
     refine D.am _ ?_
     refine D.rem rfl rfl rfl rfl rfl rfl (by omega) (by omega) rfl rfl ?_
     refine D.aw (_) rfl rfl rfl rfl rfl rfl rfl rfl rfl (fun _=>⟨by decide,by decide,rfl⟩) rfl rfl ?_
     refine D.aa (bkT hb9 2) ?_
     refine D.aD (fun _=>(area_fn _ (hT.mono mup) p (cor pts t ((2+1) % 3)) (cor pts t ((2+2) % 3)) 23 (by decide) (by decide) hq (hc _) (hc _))) rfl rfl rfl rfl rfl rfl rfl rfl rfl ?_
     refine D.aw (0) rfl rfl rfl rfl rfl rfl rfl rfl rfl (fun _=>⟨by decide,by decide,rfl⟩) rfl rfl ?_
     refine D.aa (bkT hb9 2) ?_
     refine D.aw (2) rfl rfl rfl rfl rfl rfl rfl rfl rfl (fun _=>⟨by decide,by decide,rfl⟩) rfl rfl ?_
     refine D.aa (bkT hb9 2) ?_
     refine D.aw (4) rfl rfl rfl rfl rfl rfl rfl rfl rfl (fun _=>⟨by decide,by decide,rfl⟩) rfl rfl ?_
     refine D.aa (bkT hb9 2) ?_
     refine D.aD (fun _=>(area_fn _ (hT.mono mup) (cor pts t 0) (cor pts t 1) (cor pts t 2) 23 (by decide) (by decide) (hc 0) (hc 1) (hc 2))) rfl rfl rfl rfl rfl rfl rfl rfl rfl ?_
     refine D.aD (fun _=>(rdiv_fn _ (hT.mono mup) _ _ 189 (by decide) (by decide) (hqa _ _ (hc _) (hc _)) hqw hne)) rfl rfl rfl rfl rfl rfl rfl rfl rfl ?_
     refine D.ps 3 ?_
     refine D.aw (_) rfl rfl rfl rfl rfl rfl rfl rfl rfl (fun _=>⟨by decide,by decide,rfl⟩) rfl rfl ?_
     refine D.aj (j:=0) ?_
     refine D.e6 5 6 9 10 11 28 hR ?_
     refine G.rp 1 fun R hR=>?_
     refine D.aw (_) rfl rfl rfl rfl rfl rfl rfl rfl rfl (fun _=>⟨by decide,by decide,rfl⟩) rfl rfl ?_
     refine D.ag (.head _) ?_
     refine D.ah (right_fn _ (hT.mono mup) (wgt pts t p 2) (hw 2)) ?_
     refine D.q6 5 5 6 9 10 13 28 hR ?_
     refine G.z7 2 5 6 9 10 13 28 64 ?_
     refine G.cd (fun h64c=>?_) fun h64c=>?_
     ·exact absurd h64c (by decide)
     ·refine G.rg fun R hR=>?_
      refine D.am _ ?_
      refine D.q5 1 5 6 9 10 28 hR ?_
      refine G.au (m':=0) (by omega) mup (h_5 5 6 9 10 28) ⟨3,by decide,rfl,rfl,rfl⟩
   ·have hjl:j=3:=by
     simp only [decide_eq_false_iff_not] at h29
     omega
    subst hjl
    refine G.rg fun R hR=>?_
    refine D.ag (.head _) ?_
    refine D.aj (j:=1) ?_
    refine D.q2 1 6 7 hR ?_
    refine G.aA (G.finC2 (.head _) rfl rfl rfl rfl rfl ?_)
    exact ⟨rfl,rfl⟩
end Go.Proofs.YtmgkekjbbodicaaGreatDoor
