/- Laws that the proofs of this seat share, part 14. -/
import Derived.Test.YthnpijdjlddpmaaGreatDoorG13
import Derived.Test.YthnpijdjlddpmaaGreatDoorShelf
import Derived.RangeFuncSeq
set_option maxHeartbeats 4000000
namespace Go.Jog
open Go
variable {F:Fence}{K N:Act->World->Prop}{P:Program}{a:Act}{i n:Nat}{next:Act->World->Prop}{o:Oper}{ops:Array Oper}{r:Option Nat}{w:World}
def Fo (o:Option Nat):Fence:={ Fence.wide with round:=o }
theorem FW {Q:Exit->Act->World->Prop}(b:∀ c,o.op≠.defer c)(h:o.wp P a w next Q):o.wpIn (Fo r) n P a w next Q:=by
 refine ⟨fun _ _=>trivial, ?_⟩;show o.uponIn (Fo r) n P a next Q ((o.semAt r a.eval).run P w);rw [Oper.semAt_eq r a.eval o b];unfold Oper.wp at h;revert h;generalize (execOp a.eval o).run P w=r;intro h;cases r with
 | ok x w' =>
  cases x with
  | value v=>exact h
  | skip=>exact h
  | defer d=>exact h
  | enter f args=>exact ⟨(fun h=>(by cases h)),callsIn_wide.2 h⟩
  | row row args =>
   refine ⟨(fun h=>(by cases h)),fun c cs _=>?_⟩;obtain ⟨v,e,h1,h2⟩:=h c cs;exact ⟨v,e,h1,stepsIn_wide.2 h2⟩
  | _=>exact h.elim
 | halt x w' =>
  cases x <;> exact h
theorem EM {e:Act->World->Prop}(f:fF ops=true)(b:∀ a w,K a w->e a w)
  (h:wpOp P ops (QN N) i K a w):wpOpIn (Fo r) n P ops (QN N) i e a w:=by
 unfold wpOp at h;unfold wpOpIn;cases c:ops[i]? with
 | none=>rw [c] at h;exact b _ _ h
 | some o =>
  rw [c] at h;simp only at h ⊢;split
  ·rename_i d;rw [aI d] at h;rcases h with h | ⟨_,g,w',h⟩
   ·exact FW (pW f c) (Oper.wp_mono b h)
   ·exact h.elim
  ·rename_i d;rw [aC d] at h;exact ⟨fun _ _=>trivial,b _ _ h⟩
theorem ES {x:Result Next}(h:o.uponIn F n P a next (QN fun _ _=>False) x):o.uponIn F n P a next (QN N) x:=by
 cases x with
 | ok x w' =>
  cases x with
  | value v=>exact h
  | skip=>exact h
  | defer d=>exact h
  | enter f args =>
   refine ⟨h.1,CallsIn.mono h.2 fun e g b=>?_⟩;cases e with
   | returned v=>exact b
   | panicked c=>exact b.elim
   | outgrown=>obtain ⟨_,_,b⟩:=b;exact b.elim
  | row row args=>exact h
  | round l f tmps assign body =>
   refine ⟨h.1,RoundIn.mono h.2 fun e g b=>?_⟩;cases e with
   | returned v=>exact b
   | panicked c=>exact b.elim
   | outgrown=>obtain ⟨_,_,b⟩:=b;exact b.elim
  | _=>exact h.elim
 | halt x w' =>
  cases x <;> exact h
theorem EN (h:wpOpIn F n P ops (QN fun _ _=>False) i K a w):wpOpIn F n P ops (QN N) i K a w:=by
 unfold wpOpIn at *;cases c:ops[i]? with
 | none=>rw [c] at h;exact h
 | some o =>
  rw [c] at h;simp only at h ⊢;split
  ·rename_i b;rw [aI b] at h;exact ⟨h.1,ES h.2⟩
  ·rename_i b;rw [aC b] at h;exact h
section
variable {P:Program} {ops:Array Oper} {ι:Type} {cls:ι->World->Prop} {le:ι->ι->Prop} {md:Region.Mode} {r:Option Nat} {n y:Nat}
def vA (r:Option Nat)(n y:Nat)(P:Program)(ops:Array Oper)(cls:ι->World->Prop)(le:ι->ι->Prop)(kd i:Nat)(K:Act->ι->Prop)(a:Act)(κ:ι):Prop :=
 if i=y then ∀ w,cls κ w->wpOpIn (Fo r) n P ops (QN fun _ _=>False) i (fun a' w'=>∃ κ',cls κ' w'/\K a' κ') a w
 else fo P ops cls le kd i K a κ
theorem mL (e:fF ops=true)(f:∀ κ,le κ κ){g i:Nat}{K:Act->ι->Prop}{b N:Act->World->Prop}{a:Act}{κ:ι}{w:World}(c:cls κ w)
  (d:∀ a κ w,K a κ->cls κ w->b a w) (h:vA r n y P ops cls le g i K a κ):wpOpIn (Fo r) n P ops (QN N) i b a w:=by
 unfold vA at h;split at h
 ·exact EN (wpOpIn_mono (fun j w' ⟨k,h1,h2⟩=>d _ _ _ h2 h1) (h w c))
 ·exact EM e (fun _ _ h=>h) (ga (Q:=QN N) f c d h)
def DY (r:Option Nat)(n y:Nat)(P:Program)(ops:Array Oper)(cls:ι->World->Prop)(le:ι->ι->Prop)(kd:Nat->Nat)(Post:Act->ι->Prop):List Nat->Act->ι->Prop
 | [],a,κ=>Post a κ
 | i::π,a,κ=>vA r n y P ops cls le (kd i) i (DY r n y P ops cls le kd Post π) a κ
theorem sT {c:Nat->Nat}{Post d:Act->ι->Prop}{ρ:List Nat}(f:∀ a κ,d a κ->DY r n y P ops cls le c Post ρ a κ):∀ (b:List Nat)(a:Act)(κ:ι),y ∉ b->DU P ops cls le c d b a κ->DY r n y P ops cls le c Post (b++ρ) a κ
 | [],_,_,_,h=>f _ _ h
 | i::b,a,κ,hy,h=>by
  show vA r n y P ops cls le (c i) i (DY r n y P ops cls le c Post (b++ρ)) a κ;unfold vA;rw [aC (fun e=>hy (by rw [e];exact aF ..))];exact fM (fun a κ h=>sT f b a κ (fun g=>hy (LW _ g)) h) h
theorem jQ (d:fF ops=true)(e:∀ κ,le κ κ){j:Nat->Nat}{f:Act->ι->Prop}{N:Act->World->Prop}(g:∀ a κ w,f a κ->cls κ w->N a w) :
  ∀ (b:List Nat)(a:Act)(κ:ι)(w:World),cls κ w->DY r n y P ops cls le j f b a κ->wpOpsIn (Fo r) n P ops (QN N) b a w
 | [],_,_,_,c,h=>g _ _ _ h c
 | i::b,a,κ,w,c,h=>by
  rw [wpOpsIn_cons];exact mL d e c (fun k l w' m o=>jQ d e g b k l w' o m) h
theorem lT (c:fF ops=true)(d:∀ κ,le κ κ){f:Nat->Nat}{b:Act->ι->Prop}{g:Nat}{Q:Exit->Act->World->Prop}{a:Act}{w:World}{κ:ι}
  (i:cls κ w) (h:DY r n y P ops cls le f b (List.range ops.size) a κ) (j:∀ a κ w,b a κ->cls κ w->Q .normal a w):(Code.region g ops false).wpIn (Fo r) n P Q a w :=
 wpIn_mono (wpIn_region (jQ c d (N:=fun a w=>Q .normal a w) j _ _ _ _ i h)) (fun e a w q=>by cases e <;> first | exact q | exact q.elim)
end
end Go.Jog
namespace Go.Jog
open Go
variable {C C1:Mem}{L:List Ent}{P:Program}{W:World}{assign body:Code}{fn l:Nat}{tmps:Array Value}{w:World}
theorem Sep.lessC (h:Sep C1 L w)(a:C.le C1):Sep C L w :=
 ⟨fun b o f=>h.c b o (a b o f),h.e,h.d,fun k g=>by
  cases i:C k with
  | none=>rfl
  | some o=>have:=a k o i;rw [h.n k g] at this;cases this⟩
theorem St.up {m:Mem}{g:List Ent}{j:World}(a:Sep C1 L W)(k:St W C L m g j):St W C1 L C1 g j:=by
 refine ⟨⟨fun b o f=>?_,k.sep.e,k.sep.d,fun i p=>?_⟩,k.ev,Mem.le.refl _,fun _ _ h=>.inl h,k.ln⟩
 ·rw [k.ev.block b (bW (a.c b o f)) (fun q=>by have:=a.n b q;rw [f] at this;cases this)];exact a.c b o f
 ·cases l:C1 i with
  | none=>rfl
  | some o =>
   rcases k.ln i p with h | h
   ·have:=bW (a.c i o l);omega
   ·have:=a.n i h;rw [l] at this;cases this
theorem Sep.front {b f:List Ent}(h:Sep C (b++f) w):Sep C b w :=
 ⟨h.c,fun x a=>h.e x (Na _ a),(Og.1 h.d).1,fun k ⟨x,a,g⟩=>h.n k ⟨x,Na _ a,g⟩⟩
def YC (P:Program)(l:Nat)(vs:List Value)(C:Mem)(L:List Ent)(R:Bool->List Ent->Prop):Prop :=
 ∀ W,Sep C L W->YieldAt Fence.wide 1 P l vs.toArray W fun e W'=>∃ b L1,e=.returned (.bool b)/\R b L1/\St W C L C L1 W'
theorem vG {R:Ending->World->Prop}{m n:Nat}{r:Option Nat}(h:RoundIn Fence.wide m P l fn tmps assign body W R):RoundIn (Fo r) n P l fn tmps assign body W R :=
 ⟨trivial,fun c cs _=>h.2 c cs (room_wide _)⟩
theorem BT {a:Act}{o:Oper}{f:Operand}{b:Array Operand}{d:Array TypeId}{c:List Value}
  (e:o.op=.call ⟨.value f,b,d⟩) (g:a.eval f=.func (.yield l) #[] #[]) (h:b.toList.map a.eval=c) (i:(Instr.yield l c.toArray).run P w=.ok (.round l fn tmps assign body) w) :
  (execOp a.eval o).run P w=.ok (.round l fn tmps assign body) w:=by
 have j:execOp a.eval o=(do let dd <- resolve a.eval ⟨.value f,b,d⟩ o.type;invoke dd.target dd.args:Sem Next):=by unfold execOp;rw [e]
 have k:b.map a.eval=c.toArray:=by apply Ni;rw [<- h];simp
 rw [j];simp only [resolve,g,Deferred.ofValue,k,Sem.run_bind,Sem.run_pure,Result.andThen_ok,invoke];simpa using i
def YW (P:Program)(W:Cw P)(r:Option Nat)(n:Nat):Prop:=∀ {c:Code}{Q:Exit->Act->World->Prop}{a:Act}{w:World},c.wpIn (Fo r) n P Q a w->W.wp c Q a w
theorem YW.plain (P:Program):YW P (Cw.plain P) none 3:=fun h=>(wpIn_wide (n:=3)).1 h
end Go.Jog
namespace Go.Jog
open Go
def FD:List (Nat × Value)->Fr->Fr
 | [],fr=>fr
 | (p,v)::l,fr=>FD l ((p,[],v)::fr)
def xU (n:Nat):List (Nat × Value)->Fr->Bool
 | [],_=>true
 | (p,v)::l,fr=>aO n [] ((p,[],v)::fr) p && xU n l ((p,[],v)::fr)
theorem FrOk.puts {n:Nat}:∀ {l:List (Nat × Value)}{fr:Fr}{t:Array Value},FrOk n [] [] fr { tmps:=t,defers:=[] }->xU n l fr=true->FrOk n [] [] (FD l fr) { tmps:=l.foldl (fun t x=>t.setIfInBounds x.1 x.2) t,defers:=[] }
 | [],_,_,h,_=>h
 | (p,v)::l,fr,t,h,a=>by
  simp only [xU,L3] at a;have h1:=FrOk.put (u:=v) h a.1 ⟨fun _=>rfl,fun b=>absurd (fun p c=>by cases c) b⟩;exact FrOk.puts (l:=l) ⟨h1.size,Z,h1.ent⟩ a.2
def Be:Exit->Option Code
 | .ret=>some .ret
 | .exit id=>some (.exit id)
 | _=>none
end Go.Jog
namespace Go.Jog
open Go
def IterM (P:Program)(gf:FuncId)(fb lb:Array Value)(C:Mem)(M0:List Ent)(vss:List (List Value)):Prop :=
 ∀ (l:Nat)(I X:Nat->List Ent->Prop)(L:List Ent),(∀ k v L',vss[k]?=some v->I k L'->YC P l v C L' (fun b L1=>(b=true/\I (k+1) L1)∨(b=false/\X k L1)))->I 0 L ->
  ∀ W,Sep C (M0++L) W->CallsIn Fence.wide 2 P gf (fb++#[.func (.yield l) #[] #[]]++lb) W fun e W'=>(∃ v,e=.returned v)/\∃ M' L',(I vss.length L'∨∃ k,k<vss.length/\X k L')/\St W C (M0++L) C (M'++L') W'
def EndM (n:Nat)(I X:Nat->List Ent->Prop)(L2:List Ent):Prop:=∃ M' L',L2=M'++L'/\(I n L'∨∃ k,k<n/\X k L')
theorem IterM.intro {a:Cx}{f:FuncId}{g:Func}{c:Code}{fb lb:List Value}{C:Mem}{i:List Ent}{j:List (List Value)}(m:Enters a.P f=true)(o:a.P.funcs[f]?=some g)(p:g.body=some c)
  (n:Nat) (q:g.ntmps=n) (r:Nat.ble (fb++.func (.yield 0) #[] #[]::lb).length n=true)
  (h:∀ (l:Nat)(I X:Nat->List Ent->Prop)(L:List Ent),(∀ k v d,j[k]?=some v->I k d->YC a.P l v C d (fun b L1=>(b=true/\I (k+1) L1)∨(b=false/\X k L1)))->I 0 L ->
   ∀ w0,G ⟨a,g,n,⟨w0,C,i++L⟩,fun _ _ d=>EndM j.length I X d,Cw.plain a.P,[],bodyPost a.P g (lV ⟨w0,C,i++L⟩ fun _ _ d=>EndM j.length I X d)⟩
    (gU 64 [.code c]) .normal (uY (fb++.func (.yield l) #[] #[]::lb) 0) C (i++L)):IterM a.P f fb.toArray lb.toArray C i j:=fun l I X L hy h0 W s=>by
 have t:=Fn.intro (args:=fb++.func (.yield l) #[] #[]::lb) m o p n q (by rw [<- r];congr 1;simp) (h l I X L hy h0);have e:(fb.toArray++#[Value.func (.yield l) #[] #[]]++lb.toArray)=(fb++Value.func (.yield l) #[] #[]::lb).toArray:=by simp
 rw [e];refine callsIn_wide.2 ((t.2 W s).mono fun e w' ⟨v,C',d,u,hs,w,x,y,z⟩=>⟨⟨v,u⟩,w,x,z, ?_⟩);subst y;exact St.less hs (Mem.le.refl _) hs.c0
theorem St.dropFront {a:World}{b:Mem}{c:List Ent}{C:Mem}{W:World}:∀ (M:List Ent){L:List Ent},St a b c C (M++L) W->St a b c C L W
 | [],_,h=>h
 | _::M,_,h=>St.dropFront M h.drop
section
variable {F:Fx} {k:List KI} {fr:Fr} {C:Mem} {L:List Ent}
theorem QY {g:Operand}{ps:List Nat}{assign body:Code}{gf:FuncId}{fb lb:Array Value}{vss:List (List Value)}(hW:F.W=Cw.plain F.cx.P)
  (hg:ev fr [] g=some (.func (.func gf) fb lb)) (hen:Enters F.cx.P gf=true) {M0 Lr:List Ent} (hseq:IterM F.cx.P gf fb lb C M0 vss) (hL:L.Perm (M0++Lr)) (hps:∀ v∈vss,v.length=ps.length)
  (I:Nat->List Ent->Prop) (X:Code->Nat->List Ent->Prop) (h0:I 0 Lr)
  (hok:∀ v∈vss,xU F.n (ps.zip v) fr=true) (A:Nat->List Ent->Fr->List Ent->Prop)
  (hassign:∀ l j v L' W1,I j L'->vss[j]?=some v->G ⟨F.cx,F.fn,F.n,⟨W1,C,L'⟩,F.post,Cw.round F.cx.P l 1,[],fun e a w'=>e=.normal/\∃ frA LA,A j L' frA LA/\FrOk F.n [] [] frA a/\St W1 C L' C LA w'⟩ (gU 64 [.code assign]) .normal (FD (ps.zip v) fr) C L')
  (hbody:∀ l j v L' frA LA W1,I j L'->vss[j]?=some v->A j L' frA LA ->
   G ⟨F.cx,F.fn,F.n,⟨W1,C,LA⟩,F.post,Cw.round F.cx.P l 1,[],fun e _ w'=>(e=.normal/\∃ L1,I (j+1) L1/\St W1 C LA C L1 w')∨(∃ c L1,Be e=some c/\X c j L1/\St W1 C LA C L1 w')⟩ (gU 64 [.code body]) .normal frA C LA)
  (hdone:∀ D L',I vss.length L'->G { F with dd:={ target:=.collected D,args:=#[] }::F.dd } (gU 64 k) .normal fr C (.obj D (.deferred (some []))::L'))
  (hstop:∀ D j c L',j<vss.length->X c j L'->G { F with dd:={ target:=.collected D,args:=#[] }::F.dd } (.code c::k) .normal fr C (.obj D (.deferred (some []))::L')) :
  G F (.code (.rangeFunc g ps.toArray assign body)::k) .normal fr C L:=fun hle a w ha hw=>by
 simp only [Kq,hW];show (Code.rangeFunc g ps.toArray assign body).wp F.cx.P (Kq F k) a w;refine (wpIn_wide (n:=3)).1 (wpIn_rangeFunc fun fn _=>?_);have hga:a.eval g=.func (.func gf) fb lb:=bC ha (fun p hp=>by cases hp) hg;obtain ⟨rec,hrec⟩:∃ rec:LoopState->Option Code->Loop,rec=fun st pe=>{ state:=st,pending:=pe,fn,tmps:=a.tmps,params:=ps.toArray,assign,body,defers:=w.heap.size }:=⟨_,rfl⟩;obtain ⟨z,hz⟩:∃ z,w.heap.size=z:=⟨_,rfl⟩;obtain ⟨W1,hW1⟩:∃ W1,(w.alloc (.deferred (some []))).alloc (.loop (rec .ready none))=W1:=⟨_,rfl⟩;have hS1:St F.b.w0 F.b.C0 F.b.L0 C (M0++.obj (z+1) (.loop (rec .ready none))::.obj z (.deferred (some []))::Lr) W1:=by
  have:=St.alloc (St.alloc (St.perm hw hL) (.deferred (some []))) (.loop (rec .ready none));rw [World.size_alloc,hz] at this;rw [<- hW1];exact St.perm this (((LR [_,_]).append Mm).trans (Mm (l₁:=[_,_]++Lr)))
 refine ⟨z+1,[{ target:=.collected z,args:=#[] }],W1,{ target:=.fn (.func gf) lb,args:=fb++#[.func (.yield (z+1)) #[] #[]] },W1,gf,
  fb++#[.func (.yield (z+1)) #[] #[]]++lb,W1, ?_, ?_,fun _ _=>trivial, ?_,fun _=>by decide, ?_⟩
 ·rw [<- hW1,hrec,<- hz];exact run_enterLoop_outer _ _ _ _ _
 ·simp only [resolve,hga];simp [go_sem]
 ·simp [invoke,go_sem,eo hen]
 ·refine (hseq (z+1) (fun j L2=>∃ L',I j L'/\L2=.obj (z+1) (.loop (rec .ready none))::.obj z (.deferred (some []))::L')
   (fun j L2=>∃ c L',X c j L'/\L2=.obj (z+1) (.loop (rec .done (some c)))::.obj z (.deferred (some []))::L') _ ?_ ⟨Lr,h0,rfl⟩ W1 hS1.sep).mono ?_
  ·rintro j v L2 hj ⟨L',hi,rfl⟩ W hW0;have hmem:v∈vss:=LQ hj;have hs:=St.start hW0;have hl:W.heap[z+1]?=some (.loop (rec .ready none)):=hs.sep.e _ (aF ..);have hy:=run_yield (P:=F.cx.P) (args:=v.toArray) hl (by rw [hrec];simp [hps v hmem]);rw [hrec] at hy;have hzz:(ps.toArray.zip v.toArray).foldl (fun tmps (x:Nat × Value)=>match x with | (t,a)=>tmps.setIfInBounds t a) a.tmps=(ps.zip v).foldl (fun t x=>t.setIfInBounds x.1 x.2) a.tmps:=by simp
   dsimp only at hy;rw [hzz] at hy;refine ⟨fn,_,assign,body,hy,roundIn_of_wpIn trivial ?_⟩;have hfr:FrOk F.n [] [] (FD (ps.zip v) fr) { tmps:=(ps.zip v).foldl (fun t x=>t.setIfInBounds x.1 x.2) a.tmps,defers:=[] } :=
    FrOk.puts ⟨ha.size,rfl,ha.ent⟩ (hok v hmem)
   have hA:=Qi (hassign (z+1) j v L' W hi hj) (Mem.le.refl _) hfr (St.start hs.drop.drop.sep);refine wpIn_mono hA (fun e a1 W2 q=>?_);obtain ⟨rfl,frA,LA,hAA,hfr1,hs1⟩:=q;have hs2a:=St.call (Lp:=L') (Lr:=[.obj (z+1) (.loop (rec .ready none)),.obj z (.deferred (some []))]) (St.perm hs (Mm (l₁:=[_,_]))) hs1;have hs2:St W C (.obj (z+1) (.loop (rec .ready none))::.obj z (.deferred (some []))::L') C (.obj (z+1) (.loop (rec .ready none))::.obj z (.deferred (some []))::LA) W2:=St.perm hs2a (Mm (l₂:=[_,_]));have hl2:W2.heap[z+1]?=some (.loop (rec .ready none)):=hs2.sep.e _ (aF ..);refine ⟨_,run_beginRound hl2 (by rw [hrec]), ?_⟩;have hs3:St W C (.obj (z+1) (.loop (rec .ready none))::.obj z (.deferred (some []))::L') C (.obj (z+1) (.loop (rec .busy none))::.obj z (.deferred (some []))::LA) (W2.putObj (z+1) (.loop { rec .ready none with state:=.busy })):=by
    have:=St.putObj (o':=.loop { rec .ready none with state:=.busy }) hs2;rw [hrec] at this ⊢;exact this
   have hB:=Qi (hbody (z+1) j v L' frA LA (W2.putObj (z+1) (.loop { rec .ready none with state:=.busy })) hi hj hAA) (Mem.le.refl _) hfr1 (St.start hs3.drop.drop.sep);refine wpIn_mono hB (fun e a2 W4 q=>?_);have back:∀ L1,St (W2.putObj (z+1) (.loop { rec .ready none with state:=.busy })) C LA C L1 W4->St W C (.obj (z+1) (.loop (rec .ready none))::.obj z (.deferred (some []))::L') C (.obj (z+1) (.loop (rec .busy none))::.obj z (.deferred (some []))::L1) W4:=fun L1 hs4=>by
    have hs5:=St.call (Lp:=LA) (Lr:=[.obj (z+1) (.loop (rec .busy none)),.obj z (.deferred (some []))]) (St.perm hs3 (Mm (l₁:=[_,_]))) hs4;exact St.perm hs5 (Mm (l₂:=[_,_]))
   have leave:∀ (c:Code) L1,X c j L1->St (W2.putObj (z+1) (.loop { rec .ready none with state:=.busy })) C LA C L1 W4->∃ v W5,(Instr.endRound (z+1) (some c)).run F.cx.P W4=.ok v W5/\∃ b L2,Ending.returned v=.returned (.bool b) /\
     ((b=true/\∃ L',I (j+1) L'/\L2=.obj (z+1) (.loop (rec .ready none))::.obj z (.deferred (some []))::L')∨(b=false/\∃ c L',X c j L'/\L2=.obj (z+1) (.loop (rec .done (some c)))::.obj z (.deferred (some []))::L')) /\
     St W C (.obj (z+1) (.loop (rec .ready none))::.obj z (.deferred (some []))::L') C L2 W5:=fun c L1 hX hs4=>by
    have hs6:=back L1 hs4;have hl4:W4.heap[z+1]?=some (.loop (rec .busy none)):=hs6.sep.e _ (aF ..);refine ⟨_,_,run_endRound (some c) hl4,false,_,Z,.inr ⟨Z,c,L1,hX,Z⟩, ?_⟩;have:=St.putObj (o':=.loop { rec .busy none with state:=if (some c).isNone then .ready else .done,pending:=some c }) hs6;rw [hrec] at this ⊢;exact this
   rcases q with ⟨rfl,L1,hi1,hs4⟩ | ⟨c,L1,hc,hX,hs4⟩
   ·have hs6:=back L1 hs4;have hl4:W4.heap[z+1]?=some (.loop (rec .busy none)):=hs6.sep.e _ (aF ..);refine ⟨_,_,run_endRound none hl4,true,_,Z,.inl ⟨Z,L1,hi1,Z⟩, ?_⟩;have:=St.putObj (o':=.loop { rec .busy none with state:=if (none:Option Code).isNone then .ready else .done,pending:=none }) hs6;rw [hrec] at this ⊢;exact this
   ·cases e <;> simp only [Be] at hc <;> cases hc
    ·exact leave _ L1 hX hs4
    ·exact leave _ L1 hX hs4
  ·rintro e W2 ⟨⟨v,rfl⟩,M',L2,hL2,hs⟩;have hs':St F.b.w0 F.b.C0 F.b.L0 C L2 W2:=by
    have:=St.call (Lr:=[]) (by rw [Mi];exact hS1) hs;rw [Mi] at this;exact St.dropFront M' this
   have hfr:FrOk F.n [] ({ target:=.collected z,args:=#[] }::F.dd) fr { a with defers:=[{ target:=.collected z,args:=#[] }]++a.defers }:=⟨ha.size,by rw [ha.defers];rfl,ha.ent⟩;rcases hL2 with ⟨L',hi,rfl⟩ | ⟨j,hj,c,L',hX,rfl⟩
   ·have hl:W2.heap[z+1]?=some (.loop (rec .ready none)):=hs'.sep.e _ (aF ..);refine ⟨none,_,by have:=run_endLoop (P:=F.cx.P) hl (by rw [hrec];simp);rw [hrec] at this;exact this, ?_⟩;have hs2:St F.b.w0 F.b.C0 F.b.L0 C (.obj z (.deferred (some []))::L') (W2.putObj (z+1) (.loop { rec .ready none with state:=.exhausted })):=(St.putObj hs').drop;have:=PL 64 (hdone z L' hi) hle _ _ hfr hs2;rw [ve] at this;rw [hrec] at this;exact this
   ·have hl:W2.heap[z+1]?=some (.loop (rec .done (some c))):=hs'.sep.e _ (aF ..);refine ⟨some c,_,by have:=run_endLoop (P:=F.cx.P) hl (by rw [hrec];simp);rw [hrec] at this;exact this, ?_⟩;have hs2:St F.b.w0 F.b.C0 F.b.L0 C (.obj z (.deferred (some []))::L') (W2.putObj (z+1) (.loop { rec .done (some c) with state:=.exhausted })):=(St.putObj hs').drop;have:=hstop z j c L' hj hX hle _ _ hfr hs2;rw [ve] at this;simp only [Kq,hW] at this;rw [hrec] at this;exact (wpIn_wide (n:=3)).2 this
theorem RR {id:Nat}{l:List Oper}(y:Nat)(t j:List Nat)(E:List (Nat × Nat)){r:Option Nat}{n:Nat}(ai:YW F.cx.P F.W r n)(m:fr.all (fun x=>x.2.1.isEmpty)=true)(aj:fF l.toArray=true)
  (hB:t++y::j=List.range l.toArray.size)
  (U:((t++y::j).all (fun i=>Nat.blt i l.length) && (!t.contains y && !j.contains y))=true)
  {f:Operand} {V:Array Operand} {ts:Array TypeId} {d:Nat} (X:(jl l y).op=.call ⟨.value f,V,ts⟩) (hd:(jl l y).dst=some d)
  (h:∀ R:Rg F.n (l.map (·.dst)),C.le R.b.C0 ->
   (∀ {lp:Nat}{vs:List Value}{K Lo:List Ent}{M:Mem}{N:Bool->List Ent->Prop}{o:Fr}{C1:Mem}{L1:List Ent},YC F.cx.P lp vs M K N->M.le C1->gOn (l.map (·.dst)) o (jl l y).guard=true->∀ {g:GL},gOf (l.map (·.dst)) o (jl l y).guard=some g->ev o g f=some (.func (.yield lp) #[] #[]) ->
    jm (ev o g) V.toList=some vs->L1.Perm (K++Lo)->(∀ v,aO F.n (l.map (·.dst)) ((d,[],v)::o) d=true) ->
    (∀ b A,N b A->∀ q:Rg F.n (l.map (·.dst)),C.le q.b.C0->(∀ fr C L,fr.all (fun x=>x.2.1.isEmpty)=true->G F (gU 64 k) .normal fr C L->D F.cx q [] fr C L)->D F.cx q (fS l E j) ((d,[],.bool b)::o) C1 (A++Lo)) ->
    D F.cx R [] o C1 L1) ->
   D F.cx R (fS l E t) fr C L) :
  G F (.code (.region id l.toArray false)::k) .normal fr C L:=fun h0 a w B z=>by
 simp only [Kq];simp only [L3,OR,List.all_cons,NU,List.contains_eq_mem,Mf] at U;obtain ⟨⟨ak,Y,al⟩,am,an⟩:=U
 let kd:=fun i=>ovr E i (fy (jl l i))
 let b:Bs:=⟨F.b.w0,C,F.b.L0⟩
 let Post:Act->Mem × List Ent->Prop:=fun a κ=>∀ w,b.cls κ w->Kq F k .normal a w
 let q:Rg F.n (l.map (·.dst)):=⟨b,l.toArray,kd,Post,fun tmps=>dE l tmps,F.dd⟩
 let ao:Act->Mem × List Ent->Prop:=fun a κ=>DY r n y F.cx.P l.toArray b.cls kle kd Post (y::j) a κ
 let R1:Rg F.n (l.map (·.dst)):=⟨b,l.toArray,kd,ao,fun tmps=>dE l tmps,F.dd⟩
 have un:∀ κ w,b.cls κ w->F.b.cls κ w:=fun κ w H=>St.unbase h0 z.cn H;have ap:∀ fr C L,fr.all (fun x=>x.2.1.isEmpty)=true->G F (gU 64 k) .normal fr C L->D F.cx q [] fr C L:=fun fr C' L m hG O _ a B w z=>PL 64 hG (h0.trans O) a w ⟨B.size,B.defers,fun s g v I=>by
  have hm:=Mg.1 m _ (Fr.get_mem I);simp only [NW] at hm;subst hm;exact ⟨fun _=>(B.ent s [] v I).1 (fun p m=>by cases m),fun Q=>absurd (fun p m=>by cases m) Q⟩⟩ (un _ _ z)
 have aa:∀ (R:Rg F.n (l.map (·.dst)))(S:List Nat),R.ops=l.toArray->R.kd=kd->S.all (fun i=>Nat.blt i l.length)=true->∀ x∈fS l E S,R.kd x.1=x.2.1/\R.ops[x.1]?=some x.2.2:=fun R S ho hk aq x T=>by
  obtain ⟨h1,h2,h3⟩:=fR T;refine ⟨by rw [hk];exact h2.symm, ?_⟩;have ab:=Mg.1 aq x.1 h1;rw [Ox] at ab;rw [ho,MQ,eV ab,h3]
 rw [Ox] at Y;have ar:l.toArray[y]?=some (jl l y):=by rw [MQ,eV Y]
 have hD:=h R1 (Mem.le.refl _) (fun {lp vs K Lo M N o C1 L1} hY au I g av hf aw hL ax ay O _ a1 J=>by
  show vA r n y F.cx.P l.toArray b.cls kle (kd y) y (DY r n y F.cx.P l.toArray b.cls kle kd Post j) a1 (C1,L1);unfold vA;rw [aI rfl];intro w1 az;unfold wpOpIn;rw [ar];simp only;have ac:Region.wanted (jl l y) (yielded l.toArray a1.tmps)=true:=mN (fun tmps=>dE l tmps) J I;rw [aI ac];refine ⟨fun _ _=>trivial, ?_⟩;have ad:=St.perm az hL;have ae:=ad.sep.front;obtain ⟨fn,tmps,assign,body,hy,hR⟩:=hY w1 (ae.lessC au);have af:∀ x u,ev o g x=some u->a1.eval x=u:=fun x u T=>bC J ((iI (fun tmps=>dE l tmps) J av).1 ac) T;show Oper.uponIn (Fo r) n F.cx.P (jl l y) a1 _ _ (((jl l y).semAt r a1.eval).run F.cx.P w1);rw [Oper.semAt_eq r a1.eval (jl l y) (fun c H=>by rw [X] at H;cases H),BT X (af _ _ hf) (dG af aw) hy];rw [Oper.uponIn_round];refine ⟨(fun h=>(by cases h)),(vG hR).mono fun e W' ⟨bb,A,he,aA,hs⟩=>?_⟩;subst he;refine ⟨(C1,A++Lo),St.call ad (St.up ae hs), ?_⟩;have ag:=ay bb A aA q (Mem.le.refl _) ap O (aa q j rfl rfl al) _ (J.put (ax (.bool bb)) ⟨fun _=>rfl,fun Q=>absurd (fun p m=>by cases m) Q⟩);rw [dt] at ag;have:=sT (r:=r) (n:=n) (y:=y) (ρ:=[]) (Post:=Post) (fun _ _ h=>h) j _ _ an ag;rw [Mi] at this;rw [hd];exact this) (Mem.le.refl _) (aa R1 t Z Z ak) a (B.enter _ m)
 rw [dt] at hD;have ah:=sT (r:=r) (n:=n) (y:=y) (ρ:=y::j) (Post:=Post) (fun _ _ h=>h) t _ _ am hD;rw [hB] at ah;exact ai (lT aj (cls:=b.cls) (le:=kle) kle.refl (St.rebase z) ah (fun a κ w hP z=>hP w z))
end
end Go.Jog
namespace Go.Proofs.YthnpijdjlddpmaaGreatDoor
open Tryz
open Go Go.Jog
set_option maxRecDepth 100000
theorem Bu (C:Mem)(v:Value)(l:List Nat)(g:Nat)(d:List Value)(a:Nat->Bool)(e:Sl C 1 v (l.map bX))(_A:Jog.Enters cx.P g=true)
  (n:∀ x∈l,∀ D:Mem,C.le D->Gives cx.P g (.int .u64 (x:Nat)::d) D (.bool (a x))) :
  Gives cx.P 124 [v,.func (.func g) #[] ⟨d⟩] C (.int .i64 (EJ a l 0)):=by
 obtain ⟨o,c0,rfl,p,B,_⟩:=id e;have E:maxLen<=9223372036854775807:=by simp [maxLen]
 simp only [ax] at e p ⊢;refine Ph func124 19 U3 fun w0=>C6 1 [0,1] Z<|C6 3 [0,1,7,8] Z<|G.loop (fun fr C' q r=>∃ (i:Nat),(i<=l.length/\∀ y∈l.take i,a y=false)/\fr=[(0,[],.slice o l.length c0),(1,[],.func (.func g) #[] ⟨d⟩),(7,[],.int .i64 l.length),(8,[],.int .i64 i)]/\q=[]/\r=l.length-i) (hn_ [0,1,7,8] Z) ⟨0,⟨LV _,by simp⟩,Z,Z,Z⟩ (fun fr F H m s t=>?_);obtain ⟨i,⟨I,b⟩,rfl,rfl,rfl⟩:=t;refine C6 1 [0,1,7,8,9] Z<|O9 (fun f=>?_) fun f=>?_
 ·have h:i<l.length:=by simpa using f
  obtain ⟨x,c⟩:∃ x,l[i]?=some x:=⟨l[i],aj h⟩;refine C6 2 [0,1,5,7,8] Z<|O7 3 Z fun R j=>Pm e.m_ U10 om_ (fD c) fl_ fun J u=>O8 u U8<|Pn (n x (LQ c) _ mup) U7<|Pd [0,1,5,7,8,16] j Z<|O9 (fun k=>?_) fun k=>?_
  ·have w:a x=true:=k;exact C6 2 [4] Z<|Pf U2<|⟨by rw [mh c w b,M6],Z⟩
  ·have z:a x=false:=k;refine Pb fun R j=>Pi _ U7<|C4 1 [0,1,7,8] j Z<|Pk (m':=l.length-(i+1)) om_ s (hn_ [0,1,7,8] Z) ⟨i+1,⟨by omega,fun y hy=>by
    rw [Mx,c] at hy;rcases Mh.1 hy with hy | hy
    ·exact b y hy
    ·simp only [Nv,Mn] at hy;subst hy;exact z⟩,Z,Z,Z⟩
 ·have h:i=l.length:=by
   have:¬ i<l.length:=by simpa using f
   omega
  exact C6 1 [4] Z<|Pf U2<|⟨by rw [h,Mb] at b;rw [kb b],Z⟩
theorem HT (C:Mem)(v:Value)(l:List Nat)(g:Nat)(b:List Value)(a:Nat->Bool)(c:Sl C 1 v (l.map bX))(d:Jog.Enters cx.P g=true)
  (e:∀ x∈l,∀ D:Mem,C.le D->Gives cx.P g (.int .u64 (x:Nat)::b) D (.bool (a x))) :
  Gives cx.P 80 [v,.func (.func g) #[] ⟨b⟩] C (.bool (l.any a)):=by
 refine Ph func80 9 U3 fun w0=>C6 1 [0,1] Z<|O7 2 Z fun R f=>Pn (Bu _ v l g b a c.m_ d (fun x h D j=>e x h D (Mem.le.trans mup j))) U7<|C4 2 [4] f Z<|Pf U2<|⟨?_,Z⟩;congr 1;rcases pO a l with ⟨h1,h2⟩ | ⟨i,x,h1,h2,h3,_⟩
 ·rw [h1,List.any_eq_false.2 (fun y hy=>by rw [h2 y hy];decide)];rfl
 ·rw [h1,N5.2 ⟨x,LQ h2,h3⟩];exact Mc om_
theorem EW (C:Mem)(v:Value)(l:List Nat)(g:Nat)(c:List Value)(b:Nat->Bool)(d:Jog.Enters cx.P g=true)(e:∀ x∈l,∀ D:Mem,C.le D->Gives cx.P g (.int .u64 (x:Nat)::c) D (.bool (b x))) :
  Jog.Fn cx.P 80 [v,.func (.func g) #[] ⟨c⟩] C [.arr v 99 1 l.length (l.map bX).flatten] fun u _ a=>u=.bool (l.any b)/\a=[.arr v 99 1 l.length (l.map bX).flatten] :=
 Fn.mono (Qs (L:=[]) (post:=fun u a=>u=.bool (l.any b)/\a=[]) kr_ (oz l) (ax _) fun C' hC hs=>Fn.mono (HT C' v l g c b hs d fun x f D i=>e x f D (hC.trans i)) fun u _ a _ h=>⟨h.1,h.2⟩) fun u _ j _ ⟨a,h1,h2,h3⟩=>⟨h2,by rw [h1,h3]⟩
theorem Ix (C:Mem)(a s x:Nat)(f:s<18446744073709551616)(g:x<18446744073709551616)(b:C a=some (.cells ⟨[.int .u64 (s:Nat)]⟩ 99 (0,0))) :
  Gives cx.P 81 [.int .u64 (x:Nat),.pointer (some ⟨a,0,none⟩)] C (.bool (x &&& s == x)):=by
 refine Ph func81 9 U3 fun w0=>C6 1 [0,1] Z<|O7 1 Z fun R c=>O8 (bkT b 1) U8<|Qa (x) (s) U8 om_ om_ U2<|C4 3 [3] c Z<|Pf U2<|⟨?_,Z⟩;congr 1;by_cases e:x &&& s=x
 ·rw [e];simp
 ·have d:¬ (((x &&& s:Nat):Int)=x):=fun h=>e (Int.ofNat_inj.1 h);rw [M5.2 d,M5.2 e]
def Bn (l:List Nat):List (List Value):=l.map fun s=>[.int .u64 (s:Nat),.int .i64 0]
theorem qm (C:Mem)(V:Tabs C)(B:Bk)(W:List Rat)(c:Nat->List RowQ)(o d:Nat)(Y:SrchIn C B o d)(h:Calm B W c)(u:B.obs.length<6) :
  IterM cx.P 46 #[.pointer (some ⟨o,0,none⟩)] #[] C [.obj d (aM keyU.enc [])] (Bn (dP (hS B c) (bO B.obs.length))):=by
 have aB:maxLen<=9223372036854775807:=by simp [maxLen]
 obtain ⟨n,hn⟩:∃ n,B.obs.length=n:=⟨_,rfl⟩;have ai:=fun (D:Mem)(f:C.le D)(s:Nat)(km:List (Nat × Value))(hs:s<2 ^ n)=>tI D (V.mono f) B W c o d s km (Y.mono f) h u (hn ▸ hs);have aa:=fun (D:Mem)(f:C.le D)=>xw D (V.mono f) B o d (Y.mono f) u;rw [hn] at u aa ⊢;have aC:=tZ u;have A:=nq n;obtain ⟨F,g⟩:∃ F:Nat->List Nat,∀ i,F i=((bO n).take i).foldl (fe (hS B c)) []:=⟨_,fun _=>rfl⟩;have ab:F 0=[]:=by rw [g,List.take_zero];rfl
 have ak:∀ {i s},(bO n)[i]?=some s->F (i+1)=fe (hS B c) (F i) s:=fun {i s} hs=>by rw [g,g,uB hs]
 have al:F (2 ^ n)=dP (hS B c) (bO n):=by rw [g,<- A,Mb];rfl
 have am:∀ i,∃ t,dP (hS B c) (bO n)=F i++t:=fun i=>by
  unfold dP;rw [g]
  conv=>enter [1,t,1];rw [<- M4 i (bO n),List.foldl_append]
  exact uI _ _ _
 have an:∀ i,∀ x∈F i,x<2 ^ n:=fun i x v=>by
  rw [g] at v;rcases oF _ _ v with h | h
  ·cases h
  ·exact eJ (Nj h)
 have ao:∀ i,i<=2 ^ n->(F i).length<=32:=fun i hi=>by
  rw [g];have h1:=oG (h:=hS B c) ((bO n).take i) [];rw [Mv] at h1;simp only [MM] at h1;omega
 refine IterM.intro (fb:=[.pointer (some ⟨o,0,none⟩)]) (lb:=[]) kr_ func46 Z 44 Z Z fun l I X L hY h0 w0=>?_;refine C6 1 [0,1,4] Z ?_;refine Px [(1,3)] Z (fun R a=>?_);refine Pa U6 ?_;refine D.call (aa _ mup) Z (.inr dc_) U6 (LR _) fl_ (fun aD _ aF _ ap=>?_);obtain ⟨As,ns,cs,rfl,rfl⟩:=ap;refine C4 2 [0,1,4,10,11,12] a Z ?_;clear a R;refine G.freezeArr 0 ((bO n).map bX) Z Z (oz _) (by rw [ax,A]) (fun _ _ ac=>?_);obtain ⟨_,_,ad,_⟩:=id ac;rw [ax,A] at ad;cases ad
 refine G.nilArr 99 1 ?_;refine G.loop (fun fr C' L' μ=>∃ (i:Nat)(km:List (Nat × Value))(k:List Ent)(p:Option Addr)(n1 q:Nat),(i<=2 ^ n/\vf (hS B c) km/\I (F i).length k)/\fr=[(0,[],.pointer (some ⟨o,0,none⟩)),(1,[],.func (.yield l) #[] #[]),(4,[],.slice p n1 q),(10,[],.slice As (2 ^ n) cs),(11,[],.int .i64 ((2 ^ n:Nat):Int)),(12,[],.int .i64 i)]/\L'=.arr (.slice p n1 q) 99 1 (F i).length ((F i).map bX).flatten::.obj d (aM keyU.enc km)::k/\μ=2 ^ n-i) (hn_ [0,1,4,10,11,12] Z) ⟨0,[],L,none,0,0,⟨LV _,ut _,by rw [ab];exact h0⟩,Z,by rw [ab];rfl,Z⟩ (fun fr aG aH m _ hI=>?_);obtain ⟨i,km,k,p,n1,q,⟨hi,ae,w⟩,rfl,rfl,rfl⟩:=hI;refine C6 1 [0,1,4,10,11,12,13] Z ?_;refine O9 (fun E=>?_) fun E=>?_
 ·have af:i<2 ^ n:=by
   have:=K5 E;omega
  obtain ⟨s,hs⟩:∃ s,(bO n)[i]?=some s:=⟨(bO n)[i]'om_,aj om_⟩;have aq:s<2 ^ n:=eJ (LQ hs);have aI:=ao i hi;have H:=ak hs;refine QW (.head _) (fun _ _ ar _=>?_);cases ar
  refine Pb fun R a=>?_;refine Pm ac.m_ U10 om_ (fD hs) fl_ (fun aJ au=>?_);refine O8 au U8 ?_;refine Pq U5 (fun b6=>?_);refine Pg (j:=0) U12 ?_;refine Pd [0,1,4,6,10,11,12] a Z ?_;clear a R;refine G.freeze 0 Z (fun _ _ y=>?_);refine Px [(2,3)] Z (fun R a=>?_);refine Pc 2 Z ?_;refine D.call (EW _ _ (F i) 81 [.pointer (some ⟨b6,0,none⟩)] (fun x=>x &&& s == x) kr_ (fun x v D f=>Ix D b6 s x om_ (by have:=an i x v;omega) (f _ _ (Mem.get y mup)))) Z (.inr dc_) U6 (LR (_::_)) fl_ (fun aK _ aL _ av=>?_);obtain ⟨rfl,rfl⟩:=av;refine Pd [0,1,4,6,10,11,12,18] a Z ?_;clear a R;refine O9 (fun J=>?_) fun J=>?_
  ·have r:F (i+1)=F i:=by
    rw [H];unfold fe;rw [show ((F i).any fun x=>x &&& s == x)=true from J];rfl
   refine Pb fun R a=>?_;refine Pi _ U7 ?_;refine C4 1 [0,1,4,10,11,12] a Z ?_;clear a R;refine Pk (m':=2 ^ n-(i+1)) om_ mup (hn_ [0,1,4,10,11,12] Z) ⟨i+1,km,k,p,_,q,⟨by omega,ae,by rw [r];exact w⟩,Z,by rw [r];rfl,Z⟩
  ·refine Px [(2,3)] Z (fun R a=>?_);refine Pa U6 ?_;refine O8 (bkT y 1) U8 ?_;refine D.call (ai _ mup s km aq ae) Z (.inr dc_) U6 (List.Perm.swap _ _ _) fl_ (fun aN _ aO _ aw=>?_);obtain ⟨rfl,z,ag,rfl⟩:=aw;refine C4 5 [0,1,4,6,7,8,10,11,12] a Z ?_;clear a R;refine O7 4 Z fun R a=>?_;refine Pz U8 ?_;refine Pd [0,1,4,6,8,10,11,12,29] a Z ?_;clear a R;refine O9 (fun K=>?_) fun K=>?_
   ·have M:hS B c s=true:=by simpa using K
    have r:F (i+1)=F i:=by
     rw [H];unfold fe;rw [M,Bool.or_true];rfl
    refine Pb fun R a=>?_;refine Pi _ U7 ?_;refine C4 1 [0,1,4,10,11,12] a Z ?_;clear a R;refine G.perm _ (List.Perm.swap _ _ _) ?_;refine Pk (m':=2 ^ n-(i+1)) om_ mup (hn_ [0,1,4,10,11,12] Z) ⟨i+1,z,k,p,_,q,⟨by omega,ag,by rw [r];exact w⟩,Z,by rw [r],Z⟩
   ·have M:hS B c s=false:=by simpa using K
    have N:F (i+1)=F i++[s]:=by
     rw [H];unfold fe;rw [M,Bool.or_false,show ((F i).any fun x=>x &&& s == x)=false from J];rfl
    obtain ⟨tl,ah⟩:=am (i+1);rw [N] at ah;have hv:(Bn (dP (hS B c) (bO n)))[(F i).length]?=some [.int .u64 (s:Nat),.int .i64 0]:=by
     rw [ah];unfold Bn;rw [LU,Mo,Ms (LP _),NZ];rfl
    refine O7 1 Z fun R a=>?_;refine O8 (bkT y 1) U8 ?_;refine Ps [bX s] U12 (fun aP _ _ ay=>?_);refine Pu (j:=1) U11 ay Z (by simp only [aE,maxLen];omega) (by show ((F i).length+1)*8<=_;omega) fl_ (fun O Q S=>?_);refine C4 1 [0,1,4,6,8,10,11,12] a Z ?_;clear a R;refine Po (L':=.arr (.slice O Q S) 99 1 (F i++[s]).length ((F i++[s]).map bX).flatten::.obj d (aM keyU.enc z)::k) (by rw [My,MK,LZ];rfl) ?_;refine RR 3 [0,1,2] [4,5,6,7,8] [] (YW.plain _) Z Z Z Z Z Z (fun R T hy=>?_);refine Pa U6 ?_;refine O8 (bkT y 1) U8 ?_;refine Pa U6 ?_;refine hy (hY _ _ _ hv w) mup Z Z Z Z (Lo:=[.arr (.slice O Q S) 99 1 (F i++[s]).length ((F i++[s]).map bX).flatten,.obj d (aM keyU.enc z)]) (Mm (l₁:=[_,_])) fl_ (fun b L2 hb R T a=>?_);rcases hb with ⟨rfl,az⟩ | ⟨rfl,aA⟩
    ·refine Pc 4 Z ?_;refine PD U8 ?_;refine Pd [0,1,4,10,11,12,42] a Z ?_;clear a T R;refine G.cond Z (fun U=>absurd U dc_) (fun _=>?_);refine Pb fun R a=>?_;refine Pi _ U7 ?_;refine C4 1 [0,1,4,10,11,12] a Z ?_;clear a R;refine G.perm _ (Mm (l₂:=[_,_])) ?_;refine Pk (m':=2 ^ n-(i+1)) om_ mup (hn_ [0,1,4,10,11,12] Z) ⟨i+1,z,L2,O,Q,S,⟨by omega,ag,by rw [N,LZ];exact az⟩,Z,by rw [N];rfl,Z⟩
    ·refine Pc 4 Z ?_;refine PD U8 ?_;refine Pd [0,1,4,10,11,12,42] a Z ?_;clear a T R;refine G.cond Z (fun _=>?_) (fun U=>absurd U dc_);refine G.perm _ (Mm (l₂:=[_,_])) ?_;refine Pl (QC Z ?_);exact ⟨[_,_],L2,Z,.inr ⟨_,(aX.1 hv).1,aA⟩⟩
 ·have af:i=2 ^ n:=by
   have:=LS E;omega
  refine P9 Z ?_;refine ⟨[_,_],k,Z,.inl ?_⟩;have e:(Bn (dP (hS B c) (bO n))).length=(F i).length:=by rw [af,al,Bn,ax]
  rw [e];exact w
end Go.Proofs.YthnpijdjlddpmaaGreatDoor
namespace Go.Jog
open Go
section
variable {cx:Cx} {fn:Func} {n:Nat} {fr:Fr} {C C':Mem} {L L1 LA:List Ent} {W1:World} {post:Value->Mem->List Ent->Prop} {W:Cw cx.P}
theorem Q3 {A:Fr->List Ent->Prop}(b:Fr)(d:Has fr b)(f:A b LA) :
  G ⟨cx,fn,n,⟨W1,C,L⟩,post,W,[],fun e a w'=>e=.normal/\∃ c LA,A c LA/\FrOk n [] [] c a/\St W1 C L C LA w'⟩ [] .normal fr C' LA:=fun g _ _ h i =>
 ⟨rfl,b,LA,f,h.weaken d.sub,St.less i (Mem.le.refl _) g⟩
theorem Q1 {I:List Ent->Prop}{X:Code->List Ent->Prop}(a:I L1) :
  G ⟨cx,fn,n,⟨W1,C,L⟩,post,W,[],fun e _ w'=>(e=.normal/\∃ L1,I L1/\St W1 C L C L1 w')∨(∃ c L1,Be e=some c/\X c L1/\St W1 C L C L1 w')⟩ [] .normal fr C' L1:=fun b _ _ _ d =>
 .inl ⟨rfl,L1,a,St.less d (Mem.le.refl _) b⟩
theorem RV {I:List Ent->Prop}{X:Code->List Ent->Prop}{e:Exit}{c:Code}(a:Be e=some c)(b:X c L1) :
  G ⟨cx,fn,n,⟨W1,C,L⟩,post,W,[],fun e _ w'=>(e=.normal/\∃ L1,I L1/\St W1 C L C L1 w')∨(∃ c L1,Be e=some c/\X c L1/\St W1 C L C L1 w')⟩ [] e fr C' L1:=fun d _ _ _ f =>
 .inr ⟨c,L1,a,b,St.less f (Mem.le.refl _) d⟩
end
end Go.Jog
namespace Go.Jog
open Go
section
variable {cx:Cx} {fn:Func} {n:Nat} {fr:Fr} {C C':Mem} {L L1 LA:List Ent} {W1:World} {post:Value->Mem->List Ent->Prop} {W:Cw cx.P}
theorem QG {Ds:List Nat}{b:Bs}{e:Exit}(k:e=.ret∨e=.normal){v:Value}
  (f:∀ a w,FrOk n [] (Ds.map wn) fr a->St b.w0 b.C0 b.L0 C L w->(results fn a.tmps).run cx.P w=.ok v w) (h:post v C []) :
  G ⟨cx,fn,n,b,post,Cw.plain cx.P,Ds.map wn,bodyPostM Fence.wide 3 cx.P fn (lV b post)⟩ [] e fr C (Ds.map oI++L):=fun p a w g c=>by
 have l:LeavesInM Fence.wide 3 cx.P fn a.tmps (lV b post) a.defers .returning w:=by
  have i:=g;rw [g.defers];have m:∀ (d:List Nat)(w:World),St b.w0 b.C0 b.L0 C (d.map oI++L) w->LeavesInM Fence.wide 3 cx.P fn a.tmps (lV b post) (d.map wn) .returning w:=by
   intro d;induction d with
   | nil=>exact fun w c=>⟨v,f a _ i c,v,C,[],rfl,St.dropAll c,h⟩
   | cons D d o =>
    intro w c;have j:w.heap[D]?=some (.deferred (some [])):=c.sep.e _ (aF ..);have hs:=(St.putObj (o':=.deferred none) c).drop;cases d with
    | nil=>exact ⟨by simp,.inl ⟨D,_,rfl,run_takeDeferred j,v,f a _ i hs,v,C,[],rfl,St.dropAll hs,h⟩⟩
    | cons E d=>exact ⟨by simp,.inl ⟨D,_,rfl,run_takeDeferred j,o _ hs⟩⟩
  exact m Ds w c
 rcases k with rfl | rfl <;> exact l
end
end Go.Jog
namespace Go.Jog
open Go
theorem nD {c:Cx}{d:Func}{n s t b u D E p G H:Nat}{g:Fr}{C:Mem}{L:List Ent}{h:List Deferred}{i:World}{j:Mem}{k:List Ent}{M N O:TypeId}{Q R S:Nat × Nat}{I J K:List Value}{l m o:TI}{y z x:Value}(U:Ent.obj b (.cells ⟨I⟩ M Q)∈L)(V:Ent.obj E (.cells ⟨J⟩ N R)∈L)(W:Ent.obj H (.cells ⟨K⟩ O S)∈L)(X:d.results=#[.cell s t,.cell u D,.cell p G])
  (Y:ev g [] (.tmp s)=some (.pointer (some ⟨b,0,none⟩))) (Z:ev g [] (.tmp u)=some (.pointer (some ⟨E,0,none⟩))) (aa:ev g [] (.tmp p)=some (.pointer (some ⟨H,0,none⟩))) (ht:c.T.get t=some l) (hv:cQ l (I.take l.size)=some y) (ab:c.T.get D=some m) (ac:cQ m (J.take m.size)=some z) (ad:c.T.get G=some o) (ae:cQ o (K.take o.size)=some x) :
  ∀ a w,FrOk n [] h g a->St i j k C L w->(results d a.tmps).run c.P w=.ok (.tuple #[y,z,x]) w:=fun a w q r=>by
 have v:=bC q (fun p f=>by cases f) Y;have A:=bC q (fun p f=>by cases f) Z;have B:=bC q (fun p f=>by cases f) aa;simp only [Act.eval] at v A B;have hl:=dY (F:=⟨c,d,n,⟨i,j,k⟩,fun _ _ _=>True,Cw.plain c.P,h,fun _ _ _=>True⟩) ht (r.sep.e _ U) hv;have af:=dY (F:=⟨c,d,n,⟨i,j,k⟩,fun _ _ _=>True,Cw.plain c.P,h,fun _ _ _=>True⟩) ab (r.sep.e _ V) ac;have ag:=dY (F:=⟨c,d,n,⟨i,j,k⟩,fun _ _ _=>True,Cw.plain c.P,h,fun _ _ _=>True⟩) ad (r.sep.e _ W) ae;simp only [MO] at v A B;simp [results,X,v,A,B,asAddr,hl,af,ag]
end Go.Jog
namespace Go.Proofs.YthnpijdjlddpmaaGreatDoor
open Tryz
open Go Go.Jog
set_option maxRecDepth 100000
variable {B:Bk}{RO:Nat->List RowQ}{i j k:Nat}{l:List Nat}{q:Rat}{v:List Value}{x:Nat}{α:Type}
inductive SmallO (l:List Nat) (D:Mem):Value->Prop where
 | none:l=[]->SmallO l D (.tuple #[.slice none 0 0,.bool false,.int .i64 0])
 | some (x:Nat) (v:Value):l.head?=some x->Sl D 1 v ((bY x).map aU)->SmallO l D (.tuple #[v,.bool true,.int .i64 0])
theorem Bm (h:(Bn l)[j]?=some v):∃ x,l[j]?=some x/\v=[.int .u64 (x:Nat),.int .i64 0]:=by
 unfold Bn at h;rw [LU] at h;cases a:l[j]? with
 | none=>rw [a] at h;cases h
 | some x=>rw [a] at h;exact ⟨x,rfl,(Nc h).symm⟩
theorem lY (h:v∈Bn l):∃ x,x∈l/\v=[.int .u64 (x:Nat),.int .i64 0]:=by
 obtain ⟨x,a,rfl⟩:=L4.1 h;exact ⟨x,a,Z⟩
theorem yz {h:Nat->Bool}{n:Nat}(a:x∈dP h (bO n)):x<2 ^ n:=by
 rcases oF _ _ a with h | h
 ·cases h
 ·exact eJ h
theorem oS (C:Mem)(t:Tabs C)(w:Value)(B:Bk)(y:List Rat)(l:Nat->List RowQ)(E:BookIn C w B)(h:Calm B y l)(F:B.obs.length<6) :
  Pur cx.P 21 [w] C fun u D=>SmallO (dP (hS B l) (bO B.obs.length)) D u:=by
 have ac:maxLen<=9223372036854775807:=by simp [maxLen]
 have ad:=tZ F;have K:=E;obtain ⟨cs,H⟩:∃ cs,dP (hS B l) (bO B.obs.length)=cs:=⟨_,rfl⟩;have M:∀ x∈cs,x<32:=fun x d=>by have:=yz (H ▸ d);omega
 have N:=fun (D:Mem)(m:C.le D)=>rx D (t.mono m) w B y l (K.mono m) h om_;have I:=fun (D:Mem)(m:C.le D)(o p:Nat)(z:SrchIn D B o p)=>qm D (t.mono m) B y l o p z h F;simp only [H] at I ⊢;obtain ⟨v1,v2,tv,cv,ov,rfl,_⟩:=id E.ex;refine Qf kr_ func21 Z 25 Z Z fun w0=>Pb fun R b=>Pr U6 fun b1=>Pq U5 fun f=>Pq U5 fun g=>Pq U5 fun i=>Pd [1,2,3,4] b Z<|G.freeze 3 Z fun _ _ O=>Px [(1,3)] Z fun R b=>O8 (bkT O 5) U8<|D.call (N _ mup) Z (.inr dc_) U6 (LR _) fl_ (fun ae _ af _ Q=>?_);obtain ⟨o,p,rfl,z,rfl⟩:=Q;refine Pc 4 Z<|Pg (j:=1) U12<|Pd [2,3,4,5] b Z<|Pb fun R b=>Pe (.head _) U9<|C4 1 [2,3,4,5,14] b Z<|G.cond Z (fun S=>absurd S dc_) fun _=>C6 2 [2,3,4,17] Z ?_;have T:=I _ mup o p z;refine QY (ps:=[18,19]) (Lr:=[.obj i (.cells ⟨[.int .i64 0]⟩ 46 (0,0)),.obj g (.cells ⟨[.bool false]⟩ 4 (0,0)),.obj f (.cells ⟨[.slice none 0 0]⟩ 50 (0,0))]) Z Z kr_ T (List.Perm.swap _ _ _) (fun v k=>?_)
  (fun j a=>j=0/\a=[.obj i (.cells ⟨[.int .i64 0]⟩ 46 (0,0)),.obj g (.cells ⟨[.bool false]⟩ 4 (0,0)),.obj f (.cells ⟨[.slice none 0 0]⟩ 50 (0,0))])
  (fun q j a=>q=.ret/\∃ (x:Nat)(A:Option Addr)(n c:Nat),cs.head?=some x/\a=[.obj i (.cells ⟨[.int .i64 0]⟩ 46 (0,0)),.obj g (.cells ⟨[.bool true]⟩ 4 (0,0)),.obj f (.cells ⟨[.slice A n c]⟩ 50 (0,0)),.arr (.slice A n c) 3 1 (bY x).length ((bY x).map aU).flatten])
  ⟨rfl,rfl⟩ (fun v k=>?_)
  (fun j a J LA=>j=0/\∃ x,cs[0]?=some x/\J=[(2,[],.pointer (some ⟨f,0,none⟩)),(3,[],.pointer (some ⟨g,0,none⟩)),(4,[],.pointer (some ⟨i,0,none⟩)),(6,[],.int .u64 (x:Nat)),(7,[],.int .i64 0)]/\LA=[.obj i (.cells ⟨[.int .i64 0]⟩ 46 (0,0)),.obj g (.cells ⟨[.bool false]⟩ 4 (0,0)),.obj f (.cells ⟨[.slice none 0 0]⟩ 50 (0,0))])
  ?_ ?_ ?_ ?_
 ·obtain ⟨x,_,rfl⟩:=lY k;rfl
 ·obtain ⟨x,_,rfl⟩:=lY k;rfl
 ·intro l2 j v a W1 r k;obtain ⟨rfl,rfl⟩:=r;obtain ⟨x,d,rfl⟩:=Bm k;exact C6 1 [2,3,4,6,19] Z<|C6 1 [2,3,4,6,7] Z<|Q3 [(2,[],_),(3,[],_),(4,[],_),(6,[],_),(7,[],_)] ⟨Z,Z,Z,Z,Z,trivial⟩ ⟨Z,x,d,Z,Z⟩
 ·intro l2 j v a J LA W1 r k U;obtain ⟨rfl,x,d,rfl,rfl⟩:=U;have V:=M x (LQ d);refine C6 2 [2,3,4,6,21] Z<|G.cond Z (fun W=>absurd W dc_) fun _=>Px [(1,3)] Z fun R b=>Pa U6<|D.call (rZ _ t.m_ x V) Z (.inr dc_) U6 (LR _) fl_ (fun ag _ ah _ Y=>?_);obtain ⟨A,n,c,rfl,rfl⟩:=Y;refine Pg (j:=3) U12<|Pg (j:=3) U12<|Pg (j:=3) U12<|Pd [2,3,4] b Z<|Pl (RV (e:=.ret) (c:=.ret) (X:=fun q a=>q=.ret/\_) Z ⟨Z,x,A,n,c,by rw [List.head?_eq_getElem?];exact d, ?_⟩);rfl
 ·intro s a r;obtain ⟨h0,rfl⟩:=r;have aa:cs=[]:=by
   unfold Bn at h0;rw [ax] at h0;exact MA h0
  exact Pb fun R b=>Pg (j:=3) U12<|Pg (j:=3) U12<|Pg (j:=3) U12<|Pd [2,3,4] b Z<|Pl<|G.perm (L':=[s].map oI++[.obj i (.cells ⟨[.int .i64 0]⟩ 46 (0,0)),.obj g (.cells ⟨[.bool false]⟩ 4 (0,0)),.obj f (.cells ⟨[.slice none 0 0]⟩ 50 (0,0))]) (pkL [3,0,0,0] Z)<|QG (Ds:=[s]) (.inl Z) (nD (.tail _ (.tail _ (.head _))) (.tail _ (.head _)) (.head _) Z Z Z Z Z Z Z Z Z Z) ⟨Z,.none aa⟩
 ·intro s j q a hj hX;obtain ⟨rfl,x,A,n,c,d,rfl⟩:=hX;exact PL 64<|G.freezeArr 4 ((bY x).map aU) Z Z (oA _) (ax _) fun Cf hf ab=>Pl<|QG (Ds:=[s]) (L:=[.obj i (.cells ⟨[.int .i64 0]⟩ 46 (0,0)),.obj g (.cells ⟨[.bool true]⟩ 4 (0,0)),.obj f (.cells ⟨[.slice A n c]⟩ 50 (0,0))]) (.inl Z) (nD (.tail _ (.tail _ (.head _))) (.tail _ (.head _)) (.head _) Z Z Z Z Z Z Z Z Z Z) ⟨Z,.some x _ d ab⟩
theorem iw :Ew B RO l ↔ ∃ y:Nat->Rat,∀ r∈ep B RO l,Lp.sumN (fun j=>r.f.getD j 0*y j) (bs B*bp B)<=r.b:=by
 have hm:(ek (bs B*bp B) (jM (ep B RO l))).m=(ep B RO l).length:=ax _;refine exists_congr fun y=>⟨fun h r hr=>?_,fun h i a=>?_⟩
 ·obtain ⟨i,a⟩:=M2 hr;obtain ⟨h1,h2⟩:=aX.1 a;have h3:=h i (by rw [hm];exact h1);have e:(jM (ep B RO l)).getD i ([],0)=(r.f,r.b):=by rw [rz h1,h2]
  have h4:Lp.sumN (fun j=>((jM (ep B RO l)).getD i ([],0)).1.getD j 0*y j) (bs B*bp B)<=((jM (ep B RO l)).getD i ([],0)).2:=h3;rw [e] at h4;exact h4
 ·rw [hm] at a;have h4:=h _ (MP a);have e:(jM (ep B RO l)).getD i ([],0)=((ep B RO l)[i].f,(ep B RO l)[i].b):=rz a;show Lp.sumN (fun j=>((jM (ep B RO l)).getD i ([],0)).1.getD j 0*y j) (bs B*bp B)<=((jM (ep B RO l)).getD i ([],0)).2;rw [e];exact h4
theorem sf (h:Ew B RO l):lg B RO l=true:=@Mc _ (Classical.propDecidable _) h
theorem uw (h:¬ Ew B RO l):lg B RO l=false:=@Mk _ (Classical.propDecidable _) h
theorem DM (h:l[k]?=some x):(l.map aU)[k]?=some (aU x):=by rw [LU,h];rfl
theorem DQ {a b:List α}(h:k<a.length)(c:k<b.length):(a.drop k=b.drop k ↔ a[k]=b[k]/\a.drop (k+1)=b.drop (k+1)):=by
 rw [MB h,MB c,List.cons.injEq]
theorem oh (C:Mem)(v w:Value)(a b:List Nat)(d:Sl C 1 v (a.map aU))(f:Sl C 1 w (b.map aU)):Gives cx.P 22 [v,w] C (.bool (decide (a=b))):=by
 obtain ⟨A,c,rfl,u,K,_⟩:=id d;obtain ⟨A2,c2,rfl,_⟩:=id f;have L:maxLen<=9223372036854775807:=by simp [maxLen]
 simp only [ax] at d f u ⊢;refine Ph func22 26 U3 fun w0=>C6 1 [0,1] Z<|C6 5 [0,1,10] Z<|O9 (fun g=>?_) fun g=>?_
 ·have r:(a.length:Int)≠b.length:=by simpa using g
  exact C6 1 [4] Z<|Pf U2<|⟨by rw [Mk (fun e=>r (by rw [e]))],Z⟩
 ·have r:(a.length:Int)=b.length:=by simpa using g
  refine C6 1 [0,1,5] Z<|G.loop (fun fr C' z B=>∃ (k:Nat),(k<=a.length/\(a=b ↔ a.drop k=b.drop k))/\fr=[(0,[],.slice A a.length c),(1,[],.slice A2 b.length c2),(5,[],.int .i64 k)]/\z=[]/\B=a.length-k) (hn_ [0,1,5] Z) ⟨0,⟨LV _,Iff.rfl⟩,Z,Z,Z⟩ (fun fr M N m D E=>?_);obtain ⟨k,⟨O,i⟩,rfl,rfl,rfl⟩:=E;refine C6 4 [0,1,5,14] Z<|O9 (fun j=>?_) fun j=>?_
  ·have l:k<a.length:=by
    have:=K5 j;omega
   have s:k<b.length:=by omega
   obtain ⟨x,t⟩:∃ x,a[k]=x:=⟨_,rfl⟩;obtain ⟨y,hy⟩:∃ y,b[k]=y:=⟨_,rfl⟩;have n:=DQ l s;rw [t,hy] at n;have F:a[k]?=some x:=by rw [aj l,t]
   have H:b[k]?=some y:=by rw [aj s,hy]
   refine Pv [0,1,2,3,4,5,6,7,8] [] Z kr_ fun R Q o=>Pc 2 Z<|Pm d.m_ U10 om_ (DM F) fl_ fun S I=>O8 I U8<|Pc 2 Z<|Pm f.m_ U10 om_ (DM H) fl_ fun T J=>O8 J U8<|C4 1 [0,1,5,25] o Z<|O9 (fun p=>?_) fun p=>?_
   ·have q:x≠y:=fun e=>by subst e;simp at p
    exact C6 1 [4] Z<|Pf U2<|⟨by rw [Mk (fun e=>q (n.1 (i.1 e)).1)],Z⟩
   ·have q:x=y:=by
     have:(x:Int)=y:=by simpa using p
     omega
    refine O7 1 Z fun R o=>Pi _ U7<|C4 1 [0,1,5] o Z<|Pk (m':=a.length-(k+1)) om_ D (hn_ [0,1,5] Z) ⟨k+1,⟨by omega,i.trans (n.trans ⟨fun h=>h.2,fun h=>⟨q,h⟩⟩)⟩,Z,Z,Z⟩
  ·have l:k=a.length:=by
    have:=LS j;omega
   exact C6 1 [4] Z<|Pf U2<|⟨by rw [Mc (i.2 (by rw [MY om_,MY om_]))],Z⟩
theorem F5 (C:Mem)(v w:Value)(a b:List (List Nat))(d:OutsIn C v a)(f:OutsIn C w b)(Y:a.length<=1000):Gives cx.P 17 [v,w] C (.bool (decide (a=b))):=by
 obtain ⟨g,z,d⟩:=d;obtain ⟨i,B,f⟩:=f;obtain ⟨A,c,rfl,J,aa,_⟩:=id d;obtain ⟨A2,c2,rfl,_⟩:=id f;have ab:maxLen<=9223372036854775807:=by simp [maxLen]
 have K:=z.1;have L:=B.1;simp only [ax,K,L] at d f J ⊢;refine Ph func17 27 U3 fun w0=>C6 1 [0,1] Z<|C6 5 [0,1,10] Z<|O9 (fun j=>?_) fun j=>?_
 ·have D:(a.length:Int)≠b.length:=by simpa using j
  exact C6 1 [4] Z<|Pf U2<|⟨by rw [Mk (fun e=>D (by rw [e]))],Z⟩
 ·have D:(a.length:Int)=b.length:=by simpa using j
  refine C6 1 [0,1,5] Z<|G.loop (fun fr C' M N=>∃ (k:Nat),(k<=a.length/\(a=b ↔ a.drop k=b.drop k))/\fr=[(0,[],.slice A a.length c),(1,[],.slice A2 b.length c2),(5,[],.int .i64 k)]/\M=[]/\N=a.length-k) (hn_ [0,1,5] Z) ⟨0,⟨LV _,Iff.rfl⟩,Z,Z,Z⟩ (fun fr ac ad m O Q=>?_);obtain ⟨k,⟨hk,l⟩,rfl,rfl,rfl⟩:=Q;refine C6 4 [0,1,5,14] Z<|O9 (fun n=>?_) fun n=>?_
  ·have o:k<a.length:=by
    have:=K5 n;omega
   have E:k<b.length:=by omega
   obtain ⟨x,F⟩:∃ x,a[k]=x:=⟨_,rfl⟩;obtain ⟨y,hy⟩:∃ y,b[k]=y:=⟨_,rfl⟩;have r:=DQ o E;rw [F,hy] at r;obtain ⟨p,H⟩:∃ p,g[k]?=some p:=⟨g[k]'om_,aj om_⟩;obtain ⟨q,I⟩:∃ q,i[k]?=some q:=⟨i[k]'om_,aj om_⟩;have S:(g.map fun x=>[x])[k]?=some [p]:=by rw [LU,H];rfl
   have T:(i.map fun x=>[x])[k]?=some [q]:=by rw [LU,I];rfl
   have U:=z.2 k p x H (by rw [aj o,F]);have V:=B.2 k q y I (by rw [aj E,hy]);refine Pv [0,1,2,3,4,5,6,7,8,9] [(8,1)] Z kr_ fun R hB s=>Pc 2 Z<|Pm d.m_ U10 om_ S fl_ fun ae W=>O8 W U8<|Pc 2 Z<|Pm f.m_ U10 om_ T fl_ fun af X=>O8 X U8<|PH (fun _=>(oh _ _ _ x y U.m_ V.m_)) U9<|C4 1 [0,1,5,26] s Z<|O9 (fun t=>?_) fun t=>?_
   ·have u:x≠y:=by simpa using t
    exact C6 1 [4] Z<|Pf U2<|⟨by rw [Mk (fun e=>u (r.1 (l.1 e)).1)],Z⟩
   ·have u:x=y:=by simpa using t
    refine O7 1 Z fun R s=>Pi _ U7<|C4 1 [0,1,5] s Z<|Pk (m':=a.length-(k+1)) om_ O (hn_ [0,1,5] Z) ⟨k+1,⟨by omega,l.trans (r.trans ⟨fun h=>h.2,fun h=>⟨u,h⟩⟩)⟩,Z,Z,Z⟩
  ·have o:k=a.length:=by
    have:=LS n;omega
   exact C6 1 [4] Z<|Pf U2<|⟨by rw [Mc (l.2 (by rw [MY om_,MY om_]))],Z⟩
def pO1:Obs:=⟨2,[120],qtx 1,qtx 0,[49],[66],[65],[],[],[]⟩
def pO2:Obs:=⟨2,[121],qtx 1,qtx 0,[50],[66],[65],[],[],[]⟩
def pB:Bk:=⟨[(0,0),(2,0),(0,2)],[(0,1,2)],[[57],[57],[57]],[⟨[65],0,none⟩,⟨[66],0,none⟩],[pO1,pO2]⟩
theorem tk (C:Mem)(b:Tabs C)(x y:Int)(c:x.natAbs<1000000000)(d:y.natAbs<1000000000):Gives cx.P 19 [.int .i64 x,.int .i64 y] C (ptV (((x:Int):Rat),((y:Int):Rat))):=by
 refine Ph func19 10 U3 fun w0=>Pb fun R a=>Pq U5 fun e=>Pd [0,1,4] a Z<|O7 1 Z fun R a=>Pp (xe _ b.m_ x om_) U7 fl_<|Pa U6<|Pp (xe _ b.m_ y om_) U7 fl_<|PB [al (qtx x),al (qtx y)] U8<|Pg (j:=0) U12<|Pd [4] a Z<|Pl (PW (.head _) U4 ?_);exact ⟨Z,Z⟩
def lU (nm d:Str):List Value:=[.int .i64 2,al nm,al (qtx ((1:Int):Rat)),al (qtx ((0:Int):Rat)),al d,al [66],al [65],al [],al [],al []]
theorem Hc (C:Mem)(c:Tabs C)(a d:Str):Gives cx.P 44 [al a,al d] C (.agg ⟨lU a d⟩):=by
 refine Ph func44 9 U3 fun w0=>Pb fun R b=>Pq U5 fun e=>Pd [0,1,4] b Z<|O7 1 Z fun R b=>Pp (tk _ c.m_ 1 0 dc_ dc_) U7 fl_<|Pa U6<|PB (lU a d) U8<|Pg (j:=0) U12<|Pd [4] b Z<|Pl (PW (.head _) U4 ?_);exact ⟨Z,Z⟩
theorem zB:pB.col.map Ah=[[al [65],al [48],al []],[al [66],al [48],al []]]:=by
 show [[al [65],al (qtx 0),al []],[al [66],al (qtx 0),al []]]=_;rw [K0]
theorem CH (C:Mem)(o:Tabs C):Pur cx.P 18 [] C fun u D=>BookIn D u pB:=by
 refine Ph func18 21 U3 fun w0=>Pb fun R a=>Pq U5 fun y=>Pd [0] a Z<|Pb fun R a=>Pp (tk _ o.m_ 0 0 dc_ dc_) U7 fl_<|Pp (tk _ o.m_ 2 0 dc_ dc_) U7 fl_<|Pp (tk _ o.m_ 0 2 dc_ dc_) U7 fl_<|PR [hU (((0:Int):Rat),((0:Int):Rat)),hU (((2:Int):Rat),((0:Int):Rat)),hU (((0:Int):Rat),((2:Int):Rat))] U12 fl_ fun i _ _ m=>PB ([.int .i64 0,.int .i64 1,.int .i64 2]) U8<|PR [[.int .i64 0,.int .i64 1,.int .i64 2]] U12 fl_ fun k _ _ n=>PB [.slice (some ⟨i,0,none⟩) 3 3,.slice (some ⟨k,0,none⟩) 1 1] U8<|Pq U5 fun H=>Pg (j:=0) U12<|Pd [0,1] a Z<|C6 1 [0,1,2] Z<|G.freeze 0 Z fun _ _ z=>G.cut (fun fr C' A B=>∃ (s t v w x:Value),(BookIn C' (.agg ⟨[s,t,v,w,x]⟩) pB)/\fr=[(0,[],.pointer (some ⟨y,0,none⟩))]/\A=[.obj y (.cells ⟨[s,t,v,w,x]⟩ 42 (0,0))]) ?_ (fun fr I J B K E=>?_)
 ·refine PV (.cut [0,2,3,5,6,7,8] (.alt 1 (.cut [] (.alt 4 (.fin [9,10,11]) (.alt 9 (.fin [4,10,11]) .stop))) (.alt 4 (.cut [] (.alt 1 (.fin [9,10,11]) (.alt 9 (.fin [1,10,11]) .stop))) (.alt 9 (.cut [] (.alt 1 (.fin [4,10,11]) (.alt 4 (.fin [1,10,11]) .stop))) .stop)))) [(6,1),(8,1),(0,0)] Z Z kr_ fun R l a b=>P4 (fun _=>((bkT z 2).mono l)) U9<|PB ([al [65],al [48],al []]) U8<|PB ([al [66],al [48],al []]) U8<|Pa U6<|PH (fun _=>(Hc _ o.m_ [120] [49])) U9<|Pa U6<|PH (fun _=>(Hc _ o.m_ [121] [50])) U9<|PF b Z ⟨?_, ?_, ?_,trivial⟩
  ·refine PR [[al [57]],[al [57]],[al [57]]] U12 fl_ fun c p _ d=>PF b Z ⟨?_, ?_,trivial⟩
   ·refine PR [[al [65],al [48],al []],[al [66],al [48],al []]] U12 fl_ fun e q _ f=>PR [lU [120] [49],lU [121] [50]] U12 fl_ fun g r _ h=>PB [.slice (some ⟨i,0,none⟩) 3 3,.slice (some ⟨k,0,none⟩) 1 1,.slice (some ⟨c,0,none⟩) 3 3,.slice (some ⟨e,0,none⟩) 2 2,.slice (some ⟨g,0,none⟩) 2 2] U8<|Pg (j:=0) U12<|Pd [0] a Z ?_;clear a l b R;exact Pj 0 mup (hn_ [0] Z) ⟨_,_,_,_,_,⟨_,_,_,_,_,Z,m.mono mup,n.mono mup,d.mono mup,(by rw [zB];exact f.mono mup),h.mono mup⟩,Z,Z⟩
   ·refine PR [lU [120] [49],lU [121] [50]] U12 fl_ fun g r _ h=>PR [[al [65],al [48],al []],[al [66],al [48],al []]] U12 fl_ fun e q _ f=>PB [.slice (some ⟨i,0,none⟩) 3 3,.slice (some ⟨k,0,none⟩) 1 1,.slice (some ⟨c,0,none⟩) 3 3,.slice (some ⟨e,0,none⟩) 2 2,.slice (some ⟨g,0,none⟩) 2 2] U8<|Pg (j:=0) U12<|Pd [0] a Z ?_;clear a l b R;exact Pj 0 mup (hn_ [0] Z) ⟨_,_,_,_,_,⟨_,_,_,_,_,Z,m.mono mup,n.mono mup,d.mono mup,(by rw [zB];exact f.mono mup),h.mono mup⟩,Z,Z⟩
  ·refine PR [[al [65],al [48],al []],[al [66],al [48],al []]] U12 fl_ fun e q _ f=>PF b Z ⟨?_, ?_,trivial⟩
   ·refine PR [[al [57]],[al [57]],[al [57]]] U12 fl_ fun c p _ d=>PR [lU [120] [49],lU [121] [50]] U12 fl_ fun g r _ h=>PB [.slice (some ⟨i,0,none⟩) 3 3,.slice (some ⟨k,0,none⟩) 1 1,.slice (some ⟨c,0,none⟩) 3 3,.slice (some ⟨e,0,none⟩) 2 2,.slice (some ⟨g,0,none⟩) 2 2] U8<|Pg (j:=0) U12<|Pd [0] a Z ?_;clear a l b R;exact Pj 0 mup (hn_ [0] Z) ⟨_,_,_,_,_,⟨_,_,_,_,_,Z,m.mono mup,n.mono mup,d.mono mup,(by rw [zB];exact f.mono mup),h.mono mup⟩,Z,Z⟩
   ·refine PR [lU [120] [49],lU [121] [50]] U12 fl_ fun g r _ h=>PR [[al [57]],[al [57]],[al [57]]] U12 fl_ fun c p _ d=>PB [.slice (some ⟨i,0,none⟩) 3 3,.slice (some ⟨k,0,none⟩) 1 1,.slice (some ⟨c,0,none⟩) 3 3,.slice (some ⟨e,0,none⟩) 2 2,.slice (some ⟨g,0,none⟩) 2 2] U8<|Pg (j:=0) U12<|Pd [0] a Z ?_;clear a l b R;exact Pj 0 mup (hn_ [0] Z) ⟨_,_,_,_,_,⟨_,_,_,_,_,Z,m.mono mup,n.mono mup,d.mono mup,(by rw [zB];exact f.mono mup),h.mono mup⟩,Z,Z⟩
  ·refine PR [lU [120] [49],lU [121] [50]] U12 fl_ fun g r _ h=>PF b Z ⟨?_, ?_,trivial⟩
   ·refine PR [[al [57]],[al [57]],[al [57]]] U12 fl_ fun c p _ d=>PR [[al [65],al [48],al []],[al [66],al [48],al []]] U12 fl_ fun e q _ f=>PB [.slice (some ⟨i,0,none⟩) 3 3,.slice (some ⟨k,0,none⟩) 1 1,.slice (some ⟨c,0,none⟩) 3 3,.slice (some ⟨e,0,none⟩) 2 2,.slice (some ⟨g,0,none⟩) 2 2] U8<|Pg (j:=0) U12<|Pd [0] a Z ?_;clear a l b R;exact Pj 0 mup (hn_ [0] Z) ⟨_,_,_,_,_,⟨_,_,_,_,_,Z,m.mono mup,n.mono mup,d.mono mup,(by rw [zB];exact f.mono mup),h.mono mup⟩,Z,Z⟩
   ·refine PR [[al [65],al [48],al []],[al [66],al [48],al []]] U12 fl_ fun e q _ f=>PR [[al [57]],[al [57]],[al [57]]] U12 fl_ fun c p _ d=>PB [.slice (some ⟨i,0,none⟩) 3 3,.slice (some ⟨k,0,none⟩) 1 1,.slice (some ⟨c,0,none⟩) 3 3,.slice (some ⟨e,0,none⟩) 2 2,.slice (some ⟨g,0,none⟩) 2 2] U8<|Pg (j:=0) U12<|Pd [0] a Z ?_;clear a l b R;exact Pj 0 mup (hn_ [0] Z) ⟨_,_,_,_,_,⟨_,_,_,_,_,Z,m.mono mup,n.mono mup,d.mono mup,(by rw [zB];exact f.mono mup),h.mono mup⟩,Z,Z⟩
 obtain ⟨s,t,v,w,x,F,rfl,rfl⟩:=E;refine Pl (PW (.head _) U4 ?_);exact ⟨Z,F⟩
theorem Ig (h:q.den=1):q=(q.num:Rat):=Rat.ext rfl h
def wlB (D:Int)(q:Rat):Bool:=decide ((q*(D:Rat)).den=1) && decide ((q*(D:Rat)).num.natAbs<=999999999)
theorem G5 {D:Int}(h:wlB D q=true):Wl D q:=by
 unfold wlB at h;simp only [L3,LY] at h;exact ⟨_,Ig h.1,h.2⟩
theorem xC {r:RowQ}(D:Int)(a:D≠0)(c:D.natAbs<=999999999)(h:(r.f.all (wlB D) && wlB D r.b)=true):RowI r:=by
 simp only [L3,Mg] at h;exact ⟨D,a,c,fun q d=>G5 (h.1 q d),G5 h.2⟩
theorem mf:qtx 1=[49]:=ka (z:=1) (by decide +kernel)
theorem FA:qtx 9=[57]:=ka (z:=9) (by decide +kernel)
theorem ro1:dh [49]=1:=rE 1 mf (by decide +kernel)
theorem Ld:dh [50]=2:=rE 2 Ih (by decide +kernel)
theorem ph:pO1=⟨2,[120],[49],[48],[49],[66],[65],[],[],[]⟩:=by rw [pO1,mf,qtx_zero]
theorem pg:pO2=⟨2,[121],[49],[48],[50],[66],[65],[],[],[]⟩:=by rw [pO2,mf,qtx_zero]
theorem Hq:Good pB.pts pB.tris:=(IY (by decide +kernel) dc_ dc_ dc_).1
theorem CI:rY pB.pts pB.tris (1,0)=[0]:=by decide +kernel
theorem Lj:ptO pO1=(1,0):=by rw [ph];unfold ptO;rw [ro1,ro0]
theorem Li:ptO pO2=(1,0):=by rw [pg];unfold ptO;rw [ro1,ro0]
theorem Lh:el pO1=0:=by rw [ph];decide +kernel
theorem Lg:el pO2=0:=by rw [pg];decide +kernel
theorem Lm:fE pB.pts pB.tris pB.col pO1=0:=by
 unfold fE;rw [aC (by rw [Lh];decide),aC (by unfold GF;rw [Lj,CI];decide),aC (by rw [ph];decide +kernel),aC (by rw [ph];decide +kernel),aC (by rw [ph];unfold Jd;rw [ro1];decide +kernel),aC (by rw [ph];decide +kernel)]
theorem Ll:fE pB.pts pB.tris pB.col pO2=0:=by
 unfold fE;rw [aC (by rw [Lg];decide),aC (by unfold GF;rw [Li,CI];decide),aC (by rw [pg];decide +kernel),aC (by rw [pg];decide +kernel),aC (by rw [pg];unfold Jd;rw [Ld];decide +kernel),aC (by rw [pg];decide +kernel)]
def pFs:List Rat:=[9,9,9]
theorem xQ:Terr pB pFs:=⟨by simp [pB,pFs,FA],rfl,by decide +kernel⟩
theorem p_on:onQ pB.pts pFs (0,1,2) (1,0)=9:=by decide +kernel
theorem Kc:Bo pB.pts pB.tris pFs (1,0)=.tuple #[al (qtx 9),.int .i64 0]:=by
 unfold Bo;rw [CI];show zG (onQ pB.pts pFs (0,1,2) (1,0))=_;rw [p_on];unfold zG;rw [aI (bx (by decide +kernel))]
theorem p_w:∀ j,QB 22 (wgt pB.pts (0,1,2) (1,0) j):=by
 intro j;rw [Bl];rcases (by omega:j % 3=0∨j % 3=1∨j % 3=2) with h | h | h <;> rw [h] <;> decide +kernel
theorem Lf:∀ j,QP 22 (slf pB.pts (0,1,2) j):=by
 intro j;unfold slf;rw [EX];rcases (by omega:min j 2=0∨min j 2=1∨min j 2=2) with h | h | h <;> rw [h] <;> decide +kernel
def pR (z:Rat):List RowQ:=[⟨[1/2,1/2,0],z⟩,⟨[-1/2, -1/2,0], -z⟩]
theorem p_rows1:rowsO pB pO1 (1,0) (0,1,2) 9=pR 8:=by
 unfold rowsO kO;rw [ph,ro1];decide +kernel
theorem p_rows2:rowsO pB pO2 (1,0) (0,1,2) 9=pR 7:=by
 unfold rowsO kO;rw [pg,Ld];decide +kernel
theorem Ln:∀ o∈pB.obs,ObsR o:=by
 intro o a;simp only [pB,Ma,M3,Ol] at a;rcases a with rfl | rfl
 ·rw [ph];exact ⟨by decide,by decide,by decide,by decide,by decide,by decide,by decide,by decide,by decide⟩
 ·rw [pg];exact ⟨by decide,by decide,by decide,by decide,by decide,by decide,by decide,by decide,by decide⟩
theorem p_br:BookR pB:=by
 refine ⟨by decide, ?_,by decide,Ln⟩;intro x a;simp only [pB,Ma,M3,Ol] at a;rcases a with rfl | rfl
 ·exact ⟨by decide +kernel,fun q h=>by simp at h,by decide⟩
 ·exact ⟨by decide +kernel,fun q h=>by simp at h,by decide⟩
theorem p_bz:gN pB=0:=by
 have h1:mi pB 1=0:=by
  have h0:mi pB 0=0:=rfl;show (if mi pB 0≠0 then mi pB 0 else obZ pB (pB.obs.take 0) (pB.obs.getD 0 zH))=0;rw [aC (by rw [h0];decide)];show obZ pB [] pO1=0;unfold obZ;rw [aC (by rw [Lm];decide),aC dc_]
 have h2:mi pB 2=0:=by
  show (if mi pB 1≠0 then mi pB 1 else obZ pB (pB.obs.take 1) (pB.obs.getD 1 zH))=0;rw [aC (by rw [h1];decide)];show obZ pB [pO1] pO2=0;unfold obZ;rw [aC (by rw [Ll];decide),aC dc_]
 unfold gN;rw [aC (by decide +kernel),aC (by decide +kernel),aC dc_];exact h2
def pRO (i:Nat):List RowQ:=if i=0 then pR 8 else pR 7
theorem IB:Fine pB pFs pO1 (1,0) 0 (0,1,2) 9 :=
 ⟨⟨rfl,rfl,by decide +kernel,⟨bx (by decide +kernel),bx (by decide +kernel)⟩,fun _=>by decide +kernel⟩,⟨[],CI⟩,rfl,Kc,by decide +kernel,by unfold kO;rw [ph,ro1];decide +kernel,p_w,by rw [ph];decide +kernel,Lf,fun _ h=>absurd rfl h,by
  rw [p_rows1];unfold JE;decide +kernel⟩
theorem Iz:Fine pB pFs pO2 (1,0) 0 (0,1,2) 9 :=
 ⟨⟨rfl,rfl,by decide +kernel,⟨bx (by decide +kernel),bx (by decide +kernel)⟩,fun _=>by decide +kernel⟩,⟨[],CI⟩,rfl,Kc,by decide +kernel,by unfold kO;rw [pg,Ld];decide +kernel,p_w,by rw [pg];decide +kernel,Lf,fun _ h=>absurd rfl h,by
  rw [p_rows2];unfold JE;decide +kernel⟩
theorem Kd:Rich pB pFs pRO:=by
 refine ⟨Hq,p_br,p_bz,xQ,by decide,fun i o a=>?_⟩;rcases (by have h:=(aX.1 a).1;have h2:pB.obs.length=2:=rfl;omega:i=0∨i=1) with rfl | rfl
 ·simp only [pB,List.getElem?_cons_zero,Mq] at a;subst a;exact ⟨_,_,_,_,IB,p_rows1.symm⟩
 ·simp only [pB,NC,List.getElem?_cons_zero,Mq] at a;subst a;exact ⟨_,_,_,_,Iz,p_rows2.symm⟩
theorem pR_I:∀ r∈pR 8++pR 7,RowI r:=by
 intro r hr;simp only [pR,ND,Nu,Ma,M3,Ol] at hr;rcases hr with rfl | rfl | rfl | rfl <;> exact xC 2 dc_ dc_ (by decide +kernel)
theorem p_th:bu pB=[]:=rfl
theorem xR:Calm pB pFs pRO:=by
 refine ⟨Kd,by decide,fun r hr=>(by rw [p_th] at hr;cases hr),fun i _ r hr=>?_,by decide,fun i _=>?_,by decide⟩
 ·refine pR_I r ?_;unfold pRO at hr;split at hr
  ·exact Na _ hr
  ·exact Nz _ hr
 ·unfold pRO;split <;> decide
theorem CJ (y:Rat)(h:∀ r∈ep pB pRO l,Lp.sumN (fun j=>r.f.getD j 0*y) 3<=r.b):lg pB pRO l=true:=sf (iw.2 ⟨fun _=>y,h⟩)
theorem rO :ep pB pRO l=l.flatMap pRO:=by rw [jZ,p_th];rfl
theorem p_h0:lg pB pRO []=true:=CJ 0 (by rw [rO];decide)
theorem p_h1:lg pB pRO [0]=true:=CJ 8 (by rw [rO];decide +kernel)
theorem p_h2:lg pB pRO [1]=true:=CJ 7 (by rw [rO];decide +kernel)
theorem p_h3:lg pB pRO [0,1]=false:=by
 refine uw fun h=>?_;obtain ⟨y,hy⟩:=iw.1 h;rw [rO] at hy;have h1:=hy ⟨[-1/2, -1/2,0], -8⟩ (by decide +kernel);have h2:=hy ⟨[1/2,1/2,0],7⟩ (by decide +kernel);have e:bs pB*bp pB=3:=rfl;rw [e] at h1 h2;simp only [Lp.sumN,ak,List.getElem?_cons_zero,NC,M9] at h1 h2;grind
theorem p_hS:hS pB pRO 0=true/\hS pB pRO 1=true/\hS pB pRO 2=true/\hS pB pRO 3=false:=⟨p_h0,p_h1,p_h2,p_h3⟩
theorem J0:bO 2=[0,1,2,3]:=by decide +kernel
theorem IC:dP (hS pB pRO) (bO 2)=[3]:=by
 obtain ⟨h0,h1,h2,h3⟩:=p_hS;rw [J0];simp only [dP,M8,List.foldl_nil,fe,h0,h1,h2,h3,List.any_nil,Bool.or_true,Bool.or_false,Ny,MC,MW,Nu]
theorem Ke:(nE (hC pB pRO) (bO 2)).map bY=[[0],[1]]:=by
 obtain ⟨h0,h1,h2,h3⟩:=p_hS;have a:hC pB pRO 0=false:=h3;have b:hC pB pRO 1=true:=h2;have c:hC pB pRO 2=true:=h1;have d:hC pB pRO 3=true:=h0;rw [J0];simp only [nE,M8,List.foldl_nil,kL,a,b,c,d];decide +kernel
theorem Kb {a b c d e:α}{l:List α}:(a::b::c::d::e::l).Perm (a::b::d::e::c::l):=.cons _ (.cons _ ((List.Perm.swap _ _ _).trans (.cons _ (.swap _ _ _))))
theorem KY (C:Mem)(o:Tabs C)(t:Value)(B:Bk)(w:List Rat)(k:Nat->List RowQ)(m:BookIn C t B)(h:Calm B w k)(U:B.obs.length<6) :
  Pur cx.P 20 [t] C fun u D=>∃ v,u=.tuple #[v,.int .i64 0]/\OutsIn D v ((dP (hS B k) (bO B.obs.length)).map bY):=by
 have ay:maxLen<=9223372036854775807:=by simp [maxLen]
 have az:=tZ U;have ab:=m;have ac:=oG (h:=hS B k) (bO B.obs.length) [];rw [nq,MM] at ac;obtain ⟨cs,z⟩:∃ cs,dP (hS B k) (bO B.obs.length)=cs:=⟨_,rfl⟩;have ad:∀ x∈cs,x<32:=fun x b=>by have:=yz (z ▸ b);omega
 have aA:cs.length<=32:=by rw [<- z];unfold dP;omega
 have ae:=fun (D:Mem)(e:C.le D)=>rx D (o.mono e) t B w k (ab.mono e) h om_;have V:=fun (D:Mem)(e:C.le D)(p q:Nat)(E:SrchIn D B p q)=>qm D (o.mono e) B w k p q E h U;simp only [z] at V ⊢;obtain ⟨v1,v2,tv,cv,ov,rfl,_⟩:=id m.ex;refine Qf kr_ func20 Z 33 Z Z fun w0=>Pb fun R a=>Pr U6 fun b1=>Pq U5 fun F=>Pq U5 fun H=>Pd [1,2,3] a Z<|G.freeze 2 Z fun _ _ af=>Px [(1,3)] Z fun R a=>O8 (bkT af 5) U8<|D.call (ae _ mup) Z (.inr dc_) U6 (LR _) fl_ (fun aB _ aC _ ag=>?_);obtain ⟨p,q,rfl,E,rfl⟩:=ag;refine C4 5 [2,3,4,5] a Z<|C6 2 [2,3,4,15] Z<|G.cond Z (fun ah=>absurd ah dc_) fun _=>Pb fun R a=>Pq U5 fun I=>Pd [2,3,4,6] a Z<|C6 2 [2,3,6,18] Z ?_;have ai:=V _ mup p q E;refine G.nilArr 50 1<|QY (ps:=[19,20]) (Lr:=[.obj I (.cells ⟨[.slice none 0 0]⟩ 45 (0,0)),.arr (.slice none 0 0) 50 1 0 [],.obj H (.cells ⟨[.int .i64 0]⟩ 46 (0,0)),.obj F (.cells ⟨[.slice none 0 0]⟩ 45 (0,0))]) Z Z kr_ ai (pkL [2,1,0,0,0] Z) (fun v l=>?_)
  (fun j d=>∃ (vs:List Value)(ls:List Lent)(A:Option Addr)(n c:Nat),vs.length=j/\(∀ x∈ls,x.wf)/\(∀ D,(∀ x∈ls,x.seen D)->OutL D vs ((cs.take j).map bY))/\d=.obj I (.cells ⟨[.slice A n c]⟩ 45 (0,0))::.arr (.slice A n c) 50 1 vs.length vs::.obj H (.cells ⟨[.int .i64 0]⟩ 46 (0,0))::.obj F (.cells ⟨[.slice none 0 0]⟩ 45 (0,0))::ls.map Lent.ent)
  (fun _ _ _=>False)
  ⟨[],[],none,0,0,rfl,fun x b=>(by cases b),fun D _=>by rw [List.take_zero];exact OutL.nil _,rfl⟩ (fun v l=>?_)
  (fun j d W LA=>∃ x,cs[j]?=some x/\W=[(2,[],.pointer (some ⟨F,0,none⟩)),(3,[],.pointer (some ⟨H,0,none⟩)),(6,[],.pointer (some ⟨I,0,none⟩)),(7,[],.int .u64 (x:Nat)),(8,[],.int .i64 0)]/\LA=d)
  ?_ ?_ ?_ ?_
 ·obtain ⟨x,_,rfl⟩:=lY l;rfl
 ·obtain ⟨x,_,rfl⟩:=lY l;rfl
 ·intro l2 j v d W1 r l;obtain ⟨x,b,rfl⟩:=Bm l;exact C6 1 [2,3,6,7,20] Z<|C6 1 [2,3,6,7,8] Z<|Q3 [(2,[],_),(3,[],_),(6,[],_),(7,[],_),(8,[],_)] ⟨Z,Z,Z,Z,Z,trivial⟩ ⟨x,b,Z,Z⟩
 ·intro l2 j v d W LA W1 r l hA;obtain ⟨x,b,rfl,rfl⟩:=hA;obtain ⟨vs,ls,A,n,c,J,K,s,rfl⟩:=r;have X:=ad x (LQ b);have aD:j<cs.length:=(aX.1 b).1;have aj:cs.take (j+1)=cs.take j++[x]:=by rw [List.take_add_one,b];rfl
  have Y:∀ v:Value,∀ y∈(Lent.arr v (bY x).length 1 3 ((bY x).map aU)::ls),y.wf:=fun v y hy=>by
   rcases Ma.1 hy with rfl | hy
   ·exact ⟨ax _,oA _⟩
   ·exact K y hy
  have aa:∀ v:Value,∀ D,(∀ y∈(Lent.arr v (bY x).length 1 3 ((bY x).map aU)::ls),y.seen D)->OutL D (vs++[v]) ((cs.take (j+1)).map bY):=fun v D e=>by
   rw [aj,My];exact (s D (fun y hy=>e y (LW _ hy))).snoc (e _ aF)
  refine C6 2 [2,3,6,7,22] Z<|G.cond Z (fun ak=>absurd ak dc_) fun _=>QF 1 Z (fun A7 c7 e7 _ _ _=>?_);cases e7
  refine Pb fun R a=>Pe (.head _) U9<|C4 2 [2,3,6,7,26] a Z<|G.cond Z (fun al=>absurd al (fun h=>by have:=eq_of_beq h;omega)) fun _=>PV (.cut [1] (.alt 0 (.fin [2,3,4,5]) (.alt 2 (.fin [0,3,4,5]) .stop))) [(2,3)] Z Z kr_ fun R m a L=>Pa U6<|PF L Z ⟨?_, ?_,trivial⟩
  ·refine Pe (.head _) U9<|D.call (rZ _ o.m_ x X) Z (.inr dc_) U6 (LR _) fl_ (fun am an ao _ M=>?_);obtain ⟨f,g,i,rfl,rfl⟩:=M;refine Ps [[.slice f g i]] U12 fun ap aq _ N=>Pu (j:=2) U11 N Z (by simp only [aE,maxLen];omega) (by show (vs.length+1)*24<=_;omega) fl_ fun O Q S=>Pg (j:=2) U12<|P0 [] trivial (a _ _ _ Z ?_);clear a m L R;exact G.perm _ Kb<|Q1 ⟨vs++[.slice f g i],.arr (.slice f g i) (bY x).length 1 3 ((bY x).map aU)::ls,O,Q,S,by rw [LZ,J];rfl,Y _,aa _,by rw [LZ];rfl⟩
  ·refine D.call (rZ _ o.m_ x X) Z (.inr dc_) U6 (LR _) fl_ (fun am an ao _ M=>?_);obtain ⟨f,g,i,rfl,rfl⟩:=M;refine Pe (.tail _ (.head _)) U9<|Ps [[.slice f g i]] U12 fun ap aq _ N=>Pu (j:=2) U11 N Z (by simp only [aE,maxLen];omega) (by show (vs.length+1)*24<=_;omega) fl_ fun O Q S=>Pg (j:=2) U12<|P0 [] trivial (a _ _ _ Z ?_);clear a m L R;exact G.perm _ Kb<|Q1 ⟨vs++[.slice f g i],.arr (.slice f g i) (bY x).length 1 3 ((bY x).map aU)::ls,O,Q,S,by rw [LZ,J];rfl,Y _,aa _,by rw [LZ];rfl⟩
 ·intro T d r;obtain ⟨vs,ls,A,n,c,J,K,s,rfl⟩:=r;have ar:(Bn cs).length=cs.length:=by unfold Bn;rw [ax]
  rw [ar,Mb] at s;exact Pb fun R a=>Pe (.tail _ (.head _)) U9<|Pg (j:=4) U12<|Pg (j:=4) U12<|Pd [2,3] a Z<|G.freezeArr 4 (vs.map fun x=>[x]) Z (mU vs) (mS vs) (ax _) fun _ _ au=>G.perm (L':=ls.map Lent.ent++[_,_,_,_]) (Mm (l₁:=[_,_,_,_]))<|Qg ls K fun _ av aw=>Pl<|G.perm (L':=[T].map oI++[_,_,_]) (pkL [2,0,0,0] Z)<|QG (Ds:=[T]) (.inl Z) (BZ (.tail _ (.head _)) (.head _) Z Z Z Z Z Z Z) ⟨Z,_,Z,vs,s _ aw,au.mono av⟩
 ·intro T j cd d hj hX;exact hX.elim
theorem wC (C:Mem)(g:Tabs C)(b:Value)(B:Bk)(c:List Rat)(d:Nat->List RowQ)(e:BookIn C b B)(h:Calm B c d)(i:10<B.obs.length) :
  Gives cx.P 13 [b] C (.tuple #[.slice none 0 0,.int .i64 4]):=by
 have j:=e;obtain ⟨m,n,o,p,q,rfl,_⟩:=id e.ex;refine Ph func13 69 U3 fun w0=>Pb fun R a=>Pr U6 fun r=>C4 2 [1] a Z<|G.freeze 0 Z fun _ _ k=>Px [(1,3)] Z fun R a=>O8 (bkT k 5) U8<|D.call (nj _ g.m_ _ B c d j.m_ h i) Z (.inr dc_) U6 (LR _) fl_ (fun s _ t _ l=>?_);obtain ⟨rfl,rfl⟩:=l;refine C4 5 [1,4,5] a Z<|C6 2 [1,4,5,19] Z<|O9 (fun f=>?_) fun f=>?_
 ·refine C6 3 [2,3] Z<|Pl (G.dropAll (PE U3 ?_));exact ⟨Z,Z⟩
 ·exact absurd f dc_
theorem JA (C:Mem)(f:Tabs C)(b:Value)(B:Bk)(c:List Rat)(d:Nat->List RowQ)(e:BookIn C b B)(h:Calm B c d)(g:10<B.obs.length) :
  Gives cx.P 20 [b] C (.tuple #[.slice none 0 0,.int .i64 4]):=by
 have i:=e;obtain ⟨n,o,p,q,r,rfl,_⟩:=id e.ex;refine Ph func20 33 U3 fun w0=>Pb fun R a=>Pr U6 fun s=>Pq U5 fun t=>Pq U5 fun u=>Pd [1,2,3] a Z<|G.freeze 2 Z fun _ _ k=>Px [(1,3)] Z fun R a=>O8 (bkT k 5) U8<|D.call (nj _ f.m_ _ B c d i.m_ h g) Z (.inr dc_) U6 (LR _) fl_ (fun v w _ _ l=>?_);obtain ⟨rfl,rfl⟩:=l;refine C4 5 [2,3,4,5] a Z<|C6 2 [2,3,5,15] Z<|G.cond Z (fun _=>?_) (fun m=>absurd m dc_);exact O7 1 Z fun R a=>Pg (j:=1) U12<|Pg (j:=1) U12<|Pd [2,3] a Z<|Pl (P8 (BZ (.tail _ (.head _)) (.head _) Z Z Z Z Z Z Z) ⟨Z,Z⟩ ⟨fun _ _ _ h=>h,Z⟩)
theorem uZ (C:Mem)(g:Tabs C)(d:Value)(B:Bk)(e:List Rat)(f:Nat->List RowQ)(b:BookIn C d B)(h:Calm B e f)(i:10<B.obs.length) :
  Gives cx.P 21 [d] C (.tuple #[.slice none 0 0,.bool false,.int .i64 4]):=by
 have k:=b;obtain ⟨o,p,q,r,s,rfl,_⟩:=id b.ex;refine Ph func21 25 U3 fun w0=>?_;refine Pb fun R a=>?_;refine Pr U6 (fun t=>?_);refine Pq U5 (fun u=>?_);refine Pq U5 (fun w=>?_);refine Pq U5 (fun x=>?_);refine Pd [1,2,3,4] a Z ?_;clear a R;refine G.freeze 3 Z (fun _ _ l=>?_);refine Px [(1,3)] Z (fun R a=>?_);refine O8 (bkT l 5) U8 ?_;refine D.call (nj _ g.m_ _ B e f k.m_ h i) Z (.inr dc_) U6 (LR _) fl_ (fun v y _ _ m=>?_);obtain ⟨rfl,rfl⟩:=m;refine Pc 4 Z ?_;refine Pg (j:=0) U12 ?_;refine Pd [2,3,4,5] a Z ?_;clear a R;refine Pb fun R a=>?_;refine Pe (.head _) U9 ?_;refine C4 1 [2,3,4,14] a Z ?_;clear a R;refine G.cond Z (fun _=>?_) (fun n=>absurd n dc_);refine PV (.cut [] (.alt 0 (.fin [1,2,3]) (.alt 1 (.cut [] (.alt 0 (.fin [2,3]) (.alt 2 (.fin [0,3]) .stop))) .stop))) [] Z Z kr_ (fun R b a c=>?_);refine PF c Z ⟨?_, ?_,trivial⟩
 ·refine Pe (.head _) U9 ?_;refine Pg (j:=2) U12 ?_;refine Pg (j:=2) U12 ?_;refine Pg (j:=2) U12 ?_;refine Pd [2,3,4] a Z ?_;clear a b c R;exact Pl (P8 (nD (.tail _ (.tail _ (.head _))) (.tail _ (.head _)) (.head _) Z Z Z Z Z Z Z Z Z Z) ⟨Z,Z⟩ ⟨fun _ _ _ h=>h,Z⟩)
 ·refine Pg (j:=2) U12 ?_;refine PF c Z ⟨?_, ?_,trivial⟩
  ·refine Pe (.tail _ (.head _)) U9 ?_;refine Pg (j:=2) U12 ?_;refine Pg (j:=2) U12 ?_;refine Pd [2,3,4] a Z ?_;clear a b c R;exact Pl (P8 (nD (.tail _ (.tail _ (.head _))) (.tail _ (.head _)) (.head _) Z Z Z Z Z Z Z Z Z Z) ⟨Z,Z⟩ ⟨fun _ _ _ h=>h,Z⟩)
  ·refine Pg (j:=2) U12 ?_;refine Pe (.tail _ (.tail _ (.head _))) U9 ?_;refine Pg (j:=2) U12 ?_;refine Pd [2,3,4] a Z ?_;clear a b c R;exact Pl (P8 (nD (.tail _ (.tail _ (.head _))) (.tail _ (.head _)) (.head _) Z Z Z Z Z Z Z Z Z Z) ⟨Z,Z⟩ ⟨fun _ _ _ h=>h,Z⟩)
def mP (i:Nat):Pt:=if i<9 then (1,0) else (0,((i-9:Nat):Rat))
def mD (i:Nat):Rat:=if i<9 then ((i+1:Nat):Rat) else 1/2
def mX (i:Nat):Str:=if i<9 then [UInt8.ofNat (49+i)] else [49,47,50]
def mO (i:Nat):Obs:=⟨2,[UInt8.ofNat (97+i)],qtx (mP i).1,qtx (mP i).2,mX i,[66],[65],[],[],[]⟩
def mT (i:Nat):Obs:=⟨2,[UInt8.ofNat (97+i)],if i<9 then [49] else [48],if i<9 then [48] else [UInt8.ofNat (39+i)],mX i,[66],[65],[],[],[]⟩
def mB (k:Nat):Bk:={ pB with obs:=(List.range k).map mO }
theorem Ii:∀ i<9,txt ((i+1:Nat):Int)=[UInt8.ofNat (49+i)]:=by decide +kernel
theorem FC:∀ i<3,txt ((i:Nat):Int)=[UInt8.ofNat (48+i)]:=by decide +kernel
theorem mX_e (i:Nat):qtx (mD i)=mX i:=by
 unfold mD mX;split
 ·rename_i h;exact ka (z:=((i+1:Nat):Int)) (Ii i h)
 ·decide +kernel
theorem Hu (i:Nat)(a:i<12):mO i=mT i:=by
 unfold mO mT mP;by_cases h:i<9
 ·simp only [aI h,mf,qtx_zero]
 ·simp only [aC h,qtx_zero];rw [show qtx ((i-9:Nat):Rat)=[UInt8.ofNat (48+(i-9))] from ka (z:=((i-9:Nat):Int)) (FC (i-9) om_),show 48+(i-9)=39+i by omega]
theorem Ko:∀ i<12,QB 22 (mD i)/\QB 22 (mP i).1/\QB 22 (mP i).2/\QB 22 (9-mD i)/\QP 23 (mP i):=by decide +kernel
theorem IQ (i:Nat)(a:i<12):dh (mX i)=mD i:=rE (mD i) (mX_e i) (Ko i a).1
theorem Ly (i:Nat)(a:i<12):bd (mX i)=true:=by rw [<- mX_e];exact bx (Ko i a).1
theorem m_pt (i:Nat)(a:i<12):ptO (mO i)=mP i:=by
 unfold ptO;show (dh (qtx (mP i).1),dh (qtx (mP i).2))=mP i;rw [nF (bx (Ko i a).2.1),nF (bx (Ko i a).2.2.1)]
theorem IP:∀ i<12,rY pB.pts pB.tris (mP i)=[0]:=by decide +kernel
theorem m_sh:∀ i<12,el (mT i)=0:=by decide +kernel
theorem Kj:∀ i<12,JJ pB.col (mT i)=false/\Kg pB.col (mT i)=false/\JB (mT i)=false/\0<=ju (isU (mT i).upper) pB.col 0:=by decide +kernel
theorem Lx:∀ i<12,decide (mD i<0)=false:=by decide +kernel
theorem m_ov (i:Nat)(a:i<12):fE pB.pts pB.tris pB.col (mO i)=0:=by
 obtain ⟨h1,h2,h3,_⟩:=Kj i a;unfold fE;rw [aC (by rw [Hu i a,m_sh i a];decide),aC (by unfold GF;rw [m_pt i a,IP i a];decide),aC (by rw [Hu i a,h1];decide),aC (by rw [Hu i a,h2];decide),aC (by
  unfold Jd;rw [show (mO i).depth=mX i from rfl,IQ i a,Lx i a,Bool.and_false];decide),aC (by rw [Hu i a,h3];decide)]
theorem m_on:∀ i<12,onQ pB.pts pFs (0,1,2) (mP i)=9:=by decide +kernel
theorem Lu (i:Nat)(a:i<12):Bo pB.pts pB.tris pFs (mP i)=.tuple #[al (qtx 9),.int .i64 0]:=by
 unfold Bo;rw [IP i a];show zG (onQ pB.pts pFs (0,1,2) (mP i))=_;rw [m_on i a];unfold zG;rw [aI (bx (by decide +kernel))]
theorem m_w3:∀ i<12,∀ j<3,QB 22 (wgt pB.pts (0,1,2) (mP i) j):=by decide +kernel
theorem m_w (i:Nat)(a:i<12)(j:Nat):QB 22 (wgt pB.pts (0,1,2) (mP i) j):=by
 rw [Bl];exact m_w3 i a _ (MR _ dc_)
def mR (i:Nat):List RowQ:=if i<9 then pR (9-mD i) else if i=9 then [⟨[1,0,0],17/2⟩,⟨[-1,0,0], -17/2⟩] else if i=10 then [⟨[1/2,0,1/2],17/2⟩,⟨[-1/2,0, -1/2], -17/2⟩] else [⟨[0,0,1],17/2⟩,⟨[0,0, -1], -17/2⟩]
theorem IN:∀ i<12,((cD pB.col (mT i)).flatMap fun k=>[1, -1].map (iM (bs pB) (bp pB) k (atT (0,1,2) (wgt pB.pts (0,1,2) (mP i))) (9-mD i)))=mR i:=by decide +kernel
theorem Ht (k i:Nat)(a:i<12):rowsO (mB k) (mO i) (mP i) (0,1,2) 9=mR i:=by
 unfold rowsO;rw [aC (by show ¬ ((2:Int)=1);decide),aI (by rfl)];unfold kO;rw [show (mO i).depth=mX i from rfl,IQ i a,Hu i a];exact IN i a
theorem Kl:∀ i<12,∀ r∈mR i,JE r:=by unfold JE;decide +kernel
theorem Km (i:Nat)(a:i<12):∀ r∈mR i,RowI r:=by
 have:∀ i<12,∀ r∈mR i,(r.f.all (wlB 2) && wlB 2 r.b)=true:=by decide +kernel
 exact fun r hr=>xC 2 dc_ dc_ (this i a r hr)
theorem Lw (i:Nat)(a:i<12):ObsR (mO i):=by
 have:∀ i<12,(mT i).name.length<=9/\(mT i).x.length<=9/\(mT i).y.length<=9/\(mT i).depth.length<=9:=by decide +kernel
 obtain ⟨h1,h2,h3,h4⟩:=this i a;rw [Hu i a];exact ⟨by omega,by omega,by omega,by omega,(by decide:1<=999998),(by decide:1<=999998),(by decide:0<=999998),(by decide:0<=999998),(by decide:0<=999998)⟩
theorem IR {o:Obs}(h:(mB k).obs[i]?=some o):i<k/\o=mO i:=by
 have a:((List.range k).map mO)[i]?=some o:=h;rw [LU] at a;by_cases b:i<k
 ·rw [Mr b] at a;exact ⟨b,(Nc a).symm⟩
 ·rw [LX (by simp;omega)] at a;cases a
theorem m_nm:∀ i<12,∀ j<12,(mT i).name=(mT j).name->i=j:=by decide +kernel
theorem Hv (k:Nat)(b:k<=12):∀ n,n<=k->mi (mB k) n=0
 | 0,_=>rfl
 | n+1,g=>by
  have c:=Hv k b n om_;show (if mi (mB k) n≠0 then mi (mB k) n else obZ (mB k) ((mB k).obs.take n) ((mB k).obs.getD n zH))=0;rw [aC (by rw [c];decide)];have d:(mB k).obs.getD n zH=mO n:=Hs (by
   show ((List.range k).map mO)[n]?=_;rw [LU,Mr om_];rfl)
  rw [d];unfold obZ;rw [aC (by rw [show fE (mB k).pts (mB k).tris (mB k).col (mO n)=0 from m_ov n om_];decide),aC fun hm=>?_];obtain ⟨o,f,e⟩:=L4.1 hm;obtain ⟨j,a⟩:=M2 f;rw [Mz] at a;split at a
  ·rename_i h;obtain ⟨_,rfl⟩:=IR a;rw [Hu j om_,Hu n om_] at e;have:=m_nm j om_ n om_ e;omega
  ·cases a
theorem eZ (k:Nat):(mB k).obs.length=k:=by simp [mB]
theorem LB (k:Nat)(a:k<=12):gN (mB k)=0:=by
 unfold gN;rw [aC (by show ¬ (zW pB.pts.length pB.terr≠0);decide +kernel),aC (by show ¬ (sH pB.col≠0);decide +kernel),aC (by rw [eZ];omega),eZ];exact Hv k a k (LP _)
theorem LC (k:Nat)(f:k<=12):BookR (mB k):=by
 obtain ⟨a,b,c,_⟩:=p_br;refine ⟨a,b,c,fun o d=>?_⟩;obtain ⟨i,e⟩:=M2 d;obtain ⟨h1,rfl⟩:=IR e;exact Lw i om_
theorem Kp (k i:Nat)(a:i<12):Fine (mB k) pFs (mO i) (mP i) 0 (0,1,2) 9:=by
 obtain ⟨f,b,c,d,e⟩:=Ko i a;refine ⟨⟨Z,Z,e,⟨bx b,bx c⟩,fun _=>Ly i a⟩,⟨[],IP i a⟩,Z,Lu i a,by decide +kernel, ?_,m_w i a, ?_,Lf,fun _ h=>absurd Z h, ?_⟩
 ·unfold kO;rw [aI (by rfl),show (mO i).depth=mX i from rfl,IQ i a];exact d
 ·exact (Kj i a).2.2.2
 ·rw [Ht k i a];exact Kl i a
theorem kZ (k:Nat)(b:k<=12):Calm (mB k) pFs mR:=by
 refine ⟨⟨Hq,LC k b,LB k b,⟨xQ.1,xQ.2,xQ.3⟩,(by decide:3<=60),fun i o c=>?_⟩,(by decide:3<=12),fun r hr=>?_,fun i a=>Km i (by rw [eZ] at a;omega), ?_,fun i a=>?_,by rw [eZ];omega⟩
 ·obtain ⟨h1,rfl⟩:=IR c;exact ⟨_,_,_,_,Kp k i om_,(Ht k i om_).symm⟩
 ·have:bu (mB k)=[]:=rfl;rw [this] at hr;cases hr
 ·have:bu (mB k)=[]:=rfl;rw [this];decide
 ·have:∀ i<12,(mR i).length<=8:=by decide +kernel
  exact this i (by rw [eZ] at a;omega)
def gS (s:Nat):Bool:=decide (fZ s<=1)
theorem rX :ep (mB k) mR l=l.flatMap mR:=by rw [jZ];rfl
theorem Lv:∀ i<5,∀ r∈mR i,Lp.sumN (fun j=>r.f.getD j 0*(9-mD i)) 3<=r.b:=by decide +kernel
theorem mR_e (a:i<9):mR i=pR (9-mD i):=aI a
theorem Kk {y:Nat->Rat}(c:i<9)(d:j<9)(g:i∈l)(h:j∈l)(a:∀ r∈ep (mB k) mR l,Lp.sumN (fun j=>r.f.getD j 0*y j) (bs (mB k)*bp (mB k))<=r.b):mD j<=mD i:=by
 rw [rX] at a;have h1:=a ⟨[-1/2, -1/2,0], -(9-mD i)⟩ (List.mem_flatMap.2 ⟨i,g,by rw [mR_e c];exact LW _ aF⟩);have h2:=a ⟨[1/2,1/2,0],9-mD j⟩ (List.mem_flatMap.2 ⟨j,h,by rw [mR_e d];exact aF⟩);have e:bs (mB k)*bp (mB k)=3:=rfl;rw [e] at h1 h2;simp only [Lp.sumN,ak,List.getElem?_cons_zero,NC,M9] at h1 h2;grind
theorem Kr:∀ i<5,∀ j<5,mD i=mD j->i=j:=by decide +kernel
theorem m_hS {s:Nat}(c:k<6)(d:s<2 ^ k):hS (mB k) mR s=gS s:=by
 obtain ⟨a,b⟩:=sN k c s d;unfold hS gS fZ;generalize bY s=l at a b
 match l,a,b with
 | [],_,_=>exact sf (iw.2 ⟨fun _=>0,fun r hr=>by rw [rX] at hr;cases hr⟩)
 | [i],a,_ =>
  refine sf (iw.2 ⟨fun _=>9-mD i,fun r hr=>?_⟩);rw [rX,List.flatMap_cons,List.flatMap_nil,Mi] at hr;have:=a i aF;exact Lv i om_ r hr
 | i::j::t,a,b =>
  have e:=a i aF;have f:=a j (LW _ aF);have g:i<j:=(MI.1 b).1 j aF;rw [Mk (by simp)];refine uw fun h=>?_;obtain ⟨y,hy⟩:=iw.1 h;have h1:=Kk om_ om_ aF (LW _ aF) hy;have h2:=Kk om_ om_ (LW _ aF) aF hy;have:=Kr i om_ j om_ (Rat.le_antisymm h2 h1);omega
theorem oH {h g:Nat->Bool}:∀ (l f:List Nat),(∀ s∈l,h s=g s)->l.foldl (fe h) f=l.foldl (fe g) f
 | [],_,_=>rfl
 | s::l,f,e=>by
  rw [M8,M8,show fe h f s=fe g f s by unfold fe;rw [e s aF]];exact oH l _ fun t a=>e t (LW _ a)
theorem pJ {h g:Nat->Bool}:∀ (l f:List Nat),(∀ s∈l,h s=g s)->l.foldl (kL h) f=l.foldl (kL g) f
 | [],_,_=>rfl
 | s::l,f,e=>by
  rw [M8,M8,show kL h f s=kL g f s by unfold kL;rw [e s aF]];exact pJ l _ fun t a=>e t (LW _ a)
theorem Dg (a:k<6):dP (hS (mB k) mR) (bO k)=dP gS (bO k):=oH _ _ fun _b hs=>m_hS a (eJ hs)
theorem Kn (a:k<6):nE (hC (mB k) mR) (bO k)=nE (fun s=>gS (Ba (2 ^ k-1) s)) (bO k):=pJ _ _ fun s hs=>by
 unfold hC;rw [eZ];exact m_hS a (yA k a s (eJ hs))
theorem De:∀ k<6,0<k->(dP gS (bO k)).length=k*(k-1) / 2/\(dP gS (bO k)).head?=(if 1<k then some 3 else none)/\(nE (fun s=>gS (Ba (2 ^ k-1) s)) (bO k)).length=k/\∀ x∈nE (fun s=>gS (Ba (2 ^ k-1) s)) (bO k),(bY x).length=k-1:=by decide +kernel
theorem LL:AscIn 2 [0,1]:=⟨by decide,by decide⟩
theorem asc1:AscIn 2 [1]:=⟨by decide,by decide⟩
theorem zD {D:Mem}{v a b:Value}{p q:List Nat}(c:Sl D 1 a (p.map aU))(d:Sl D 1 b (q.map aU))(e:Sl D 1 v [[a],[b]]):OutsIn D v [p,q] :=
 ⟨[a,b],(OutL.nil D).snoc c |>.snoc d,e⟩
theorem vC {D:Mem}{u:Value}(h:SmallO [x] D u):∃ v,u=.tuple #[v,.bool true,.int .i64 0]/\Sl D 1 v ((bY x).map aU):=by
 cases h with
 | none h=>cases h
 | some y v h1 h2 =>
  cases h1
  exact ⟨v,Z,h2⟩
theorem Dl (C:Mem)(b:Tabs C):Gives cx.P 11 [] C (.bool true):=by
 refine Ph func11 71 U3 fun w0=>O7 1 Z fun R a=>P0 [] trivial (a _ _ _ Z ?_);refine Pb fun R a=>PK (CH _ b.m_) U7 (fun y _ _ c=>?_);obtain ⟨w1,z,A,B,D,rfl,g,h,i,k,l⟩:=id c.ex;obtain ⟨E,F,rfl,_⟩:=id g;obtain ⟨A2,c2,rfl,_⟩:=id h;obtain ⟨H,I,rfl,_⟩:=id i;obtain ⟨J,K,rfl,_⟩:=id k;obtain ⟨L,M,rfl,_⟩:=id l;refine Pq U5 fun N=>Pg (j:=0) U12<|Pd [1] a Z<|G.freeze 0 Z fun _ _ e=>Pb fun R a=>O8 (bkT e 5) U8<|Ps [[.int .i64 0],[.int .i64 1]] U12 fun O _ _ m=>Pn (yL _ b.m_ _ _ pB pFs pRO [0,1] c.m_ xR LL m.m_) U7<|C4 5 [1,2,3] a Z<|Pb fun R a=>O8 (bkT e 5) U8<|Ps [[.int .i64 1]] U12 fun Q _ _ n=>Pn (yL _ b.m_ _ _ pB pFs pRO [1] c.m_ xR asc1 n.m_) U7<|C4 5 [1,2,3,4,5] a Z<|Pb fun R a=>O8 (bkT e 5) U8<|PI (oS _ b.m_ _ pB pFs pRO c.m_ xR dc_) U7 fl_ (fun S _ _ o=>?_);have p:=IC ▸ o;obtain ⟨T,rfl,q⟩:=vC p;refine C4 7 [1,2,3,4,5,6,7,8] a Z<|Pb fun R a=>O8 (bkT e 5) U8<|PI (qS _ b.m_ _ pB pFs pRO c.m_ xR dc_) U7 fl_ (fun U _ _ r=>?_);obtain ⟨V,rfl,f⟩:=r;rw [show pB.obs.length=2 from rfl,Ke] at f;exact C4 5 [2,3,4,5,6,7,8,9,10] a Z<|O7 5 Z fun R a=>Pz U8<|Pc 2 Z<|Pz U8<|Pc 3 Z<|Pz U8<|Pc 2 Z<|Qj [[.int .i64 0],[.int .i64 1]] U12 fl_ U2 fun W _ _ s=>Pw (fun d=>oh _ _ _ [0,1] [0,1] q.m_ ((s (by exact d)).mono mup)) U9<|Pz U8<|Pc 2 Z<|Pz U8<|Pc 3 Z<|Pz U8<|Pc 2 Z<|Qj [[.int .i64 0]] U12 fl_ U2 fun t _ _ u=>Qj [[.int .i64 1]] U12 fl_ U2 fun v _ _ w=>Qj [[.slice (some ⟨t,0,none⟩) 1 1],[.slice (some ⟨v,0,none⟩) 1 1]] U12 fl_ U2 fun X _ _ x=>Pw (fun d=>F5 _ _ _ [[0],[1]] [[0],[1]] f.m_ (zD ((u (by exact d)).mono mup) ((w (by exact d)).mono mup) ((x (by exact d)).mono mup)) dc_) U9<|Pz U8<|Pc 3 Z<|Pz U8<|C4 1 [0] a Z<|Pf U2<|⟨by rw [p_h3,p_h2];rfl,Z⟩
end Go.Proofs.YthnpijdjlddpmaaGreatDoor
