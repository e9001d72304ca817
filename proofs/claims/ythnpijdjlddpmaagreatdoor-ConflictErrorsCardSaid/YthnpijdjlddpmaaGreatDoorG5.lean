/- Laws that the proofs of this seat share, part 5. -/
import Derived.Test.YthnpijdjlddpmaaGreatDoorG4
import Derived.Test.YthnpijdjlddpmaaGreatDoorShelf
import Derived.RangeFuncSeq
import Derived.Sort.Walk0
import Derived.Shelf.SlSortCmp.Insertion
import Derived.Test.YthnpijdjlddpmaaGreatDoorProg
import Derived.RangeFuncBox
import Derived.RangeFuncLeaves
import Derived.Shelf.Abstract
import Derived.WalkKit
import Derived.OwnWalkIn
import Derived.TacticsInMore
import Derived.LoopNIn
import Derived.LoopIn
set_option maxHeartbeats 4000000
namespace Go.Jog
open Go
variable {F:Fence}{K N:Act->World->Prop}{P:Program}{a:Act}{i n:Nat}{next:Act->World->Prop}{o:Oper}{ops:Array Oper}{r:Option Nat}{w:World}
def Fo (o:Option Nat):Fence:={ Fence.wide with round:=o }
theorem HZ {Q:Exit->Act->World->Prop}(b:∀ c,o.op≠.defer c)(h:o.wp P a w next Q):o.wpIn (Fo r) n P a w next Q:=by
 refine ⟨fun _ _=>trivial, ?_⟩;show o.uponIn (Fo r) n P a next Q ((o.semAt r a.eval).run P w);rw [Oper.semAt_eq r a.eval o b];unfold Oper.wp at h;revert h;generalize (execOp a.eval o).run P w=r;intro h;cases r with
 | ok x w' =>
  cases x with
  | value v=>exact h
  | skip=>exact h
  | defer d=>exact h
  | enter f args=>exact ⟨(fun h=>(by cases h)),callsIn_wide.2 h⟩
  | row row args =>
   refine ⟨(fun h=>(by cases h)),fun c cs _=>?_⟩;obtain ⟨v,e,h1,h2⟩:=h c cs;exact ⟨v,e,h1,stepsIn_wide.2 h2⟩
  | _=>exact h.elim
 | halt x w' =>
  cases x <;> exact h
theorem GM {d:Act->World->Prop}(e:fN ops=true)(b:∀ a w,K a w->d a w)
  (h:wpOp P ops (QN N) i K a w):wpOpIn (Fo r) n P ops (QN N) i d a w:=by
 unfold wpOp at h;unfold wpOpIn;cases c:ops[i]? with
 | none=>rw [c] at h;exact b _ _ h
 | some o =>
  rw [c] at h;simp only at h ⊢;split
  ·rename_i hw;rw [aI hw] at h;rcases h with h | ⟨_,f,w',h⟩
   ·exact HZ (re e c) (Oper.wp_mono b h)
   exact h.elim
  rename_i hw;rw [aA hw] at h;exact ⟨fun _ _=>trivial,b _ _ h⟩
theorem GU {x:Result Next}(h:o.uponIn F n P a next (QN fun _ _=>False) x):o.uponIn F n P a next (QN N) x:=by
 cases x with
 | ok x w' =>
  cases x with
  | value v=>exact h
  | skip=>exact h
  | defer d=>exact h
  | enter f args =>
   refine ⟨h.1,CallsIn.mono h.2 fun e g b=>?_⟩;cases e with
   | returned v=>exact b
   | panicked c=>exact b.elim
   | outgrown=>obtain ⟨_,_,b⟩:=b;exact b.elim
  | row row args=>exact h
  | round l f tmps assign body =>
   refine ⟨h.1,RoundIn.mono h.2 fun e g b=>?_⟩;cases e with
   | returned v=>exact b
   | panicked c=>exact b.elim
   | outgrown=>obtain ⟨_,_,b⟩:=b;exact b.elim
  | _=>exact h.elim
 | halt x w' =>
  cases x <;> exact h
theorem GN (h:wpOpIn F n P ops (QN fun _ _=>False) i K a w):wpOpIn F n P ops (QN N) i K a w:=by
 unfold wpOpIn at *;cases b:ops[i]? with
 | none=>rw [b] at h;exact h
 | some o =>
  rw [b] at h;simp only at h ⊢;split
  ·rename_i hw;rw [aI hw] at h;exact ⟨h.1,GU h.2⟩
  rename_i hw;rw [aA hw] at h;exact h
section
variable {P:Program} {ops:Array Oper} {ι:Type} {cls:ι->World->Prop} {le:ι->ι->Prop} {md:Region.Mode} {r:Option Nat} {n y:Nat}
def xd (r:Option Nat)(n y:Nat)(P:Program)(ops:Array Oper)(cls:ι->World->Prop)(le:ι->ι->Prop)(kd i:Nat)(K:Act->ι->Prop)(a:Act)(κ:ι):Prop :=
 if i=y then ∀ w,cls κ w->wpOpIn (Fo r) n P ops (QN fun _ _=>False) i (fun a' w'=>∃ κ',cls κ' w'/\K a' κ') a w
 else fC P ops cls le kd i K a κ
theorem nD (e:fN ops=true)(f:∀ κ,le κ κ){g i:Nat}{K:Act->ι->Prop}{b N:Act->World->Prop}{a:Act}{κ:ι}{w:World}(c:cls κ w)
  (d:∀ a κ w,K a κ->cls κ w->b a w) (h:xd r n y P ops cls le g i K a κ):wpOpIn (Fo r) n P ops (QN N) i b a w:=by
 unfold xd at h;split at h
 ·exact GN (wpOpIn_mono (fun j w' ⟨k,h1,h2⟩=>d _ _ _ h2 h1) (h w c))
 exact GM e (fun _ _ h=>h) (gm (Q:=QN N) f c d h)
def DY (r:Option Nat)(n y:Nat)(P:Program)(ops:Array Oper)(cls:ι->World->Prop)(le:ι->ι->Prop)(kd:Nat->Nat)(Post:Act->ι->Prop):List Nat->Act->ι->Prop
 | [],a,κ=>Post a κ
 | i::π,a,κ=>xd r n y P ops cls le (kd i) i (DY r n y P ops cls le kd Post π) a κ
theorem tY {c:Nat->Nat}{Post d:Act->ι->Prop}{ρ:List Nat}(f:∀ a κ,d a κ->DY r n y P ops cls le c Post ρ a κ):∀ (b:List Nat)(a:Act)(κ:ι),y ∉ b->DU P ops cls le c d b a κ->DY r n y P ops cls le c Post (b++ρ) a κ
 | [],_,_,_,h=>f _ _ h
 | i::b,a,κ,hy,h=>by
  show xd r n y P ops cls le (c i) i (DY r n y P ops cls le c Post (b++ρ)) a κ;unfold xd;rw [aA (fun e=>hy (by rw [e];exact aJ ..))];exact fV (fun a κ h=>tY f b a κ (fun g=>hy (OA _ g)) h) h
theorem kA (c:fN ops=true)(d:∀ κ,le κ κ){g:Nat->Nat}{e:Act->ι->Prop}{N:Act->World->Prop}(f:∀ a κ w,e a κ->cls κ w->N a w) :
  ∀ (b:List Nat)(a:Act)(κ:ι)(w:World),cls κ w->DY r n y P ops cls le g e b a κ->wpOpsIn (Fo r) n P ops (QN N) b a w
 | [],_,_,_,hw,h=>f _ _ _ h hw
 | i::b,a,κ,w,hw,h=>by
  rw [wpOpsIn_cons];exact nD c d hw (fun j k w' l m=>kA c d f b j k w' m l) h
theorem mN (c:fN ops=true)(d:∀ κ,le κ κ){f:Nat->Nat}{b:Act->ι->Prop}{g:Nat}{Q:Exit->Act->World->Prop}{a:Act}{w:World}{κ:ι}
  (i:cls κ w) (h:DY r n y P ops cls le f b (List.range ops.size) a κ) (j:∀ a κ w,b a κ->cls κ w->Q .normal a w):(Code.region g ops false).wpIn (Fo r) n P Q a w :=
 wpIn_mono (wpIn_region (kA c d (N:=fun a w=>Q .normal a w) j _ _ _ _ i h)) (fun e a w q=>by cases e <;> first | exact q | exact q.elim)
end
end Go.Jog
namespace Go.Jog
open Go
variable {C C1:Mem}{L:List Ent}{P:Program}{W:World}{assign body:Code}{fn l:Nat}{tmps:Array Value}{w:World}
theorem Sep.lessC (h:Sep C1 L w)(a:C.le C1):Sep C L w :=
 ⟨fun b o f=>h.c b o (a b o f),h.e,h.d,fun k g=>by
  cases i:C k with
  | none=>rfl
  | some o=>have:=a k o i;rw [h.n k g] at this;cases this⟩
theorem St.up {m:Mem}{g:List Ent}{j:World}(a:Sep C1 L W)(k:St W C L m g j):St W C1 L C1 g j:=by
 refine ⟨⟨fun b o f=>?_,k.sep.e,k.sep.d,fun i p=>?_⟩,k.ev,Mem.le.refl _,fun _ _ h=>.inl h,k.ln⟩
 ·rw [k.ev.block b (bX (a.c b o f)) (fun q=>by have:=a.n b q;rw [f] at this;cases this)];exact a.c b o f
 cases l:C1 i with
 | none=>rfl
 | some o =>
  rcases k.ln i p with h | h
  ·have:=bX (a.c i o l);omega
  have:=a.n i h;rw [l] at this;cases this
theorem Sep.front {b f:List Ent}(h:Sep C (b++f) w):Sep C b w :=
 ⟨h.c,fun x a=>h.e x (PP _ a),(Q5.1 h.d).1,fun k ⟨x,a,g⟩=>h.n k ⟨x,PP _ a,g⟩⟩
def YC (P:Program)(l:Nat)(vs:List Value)(C:Mem)(L:List Ent)(R:Bool->List Ent->Prop):Prop :=
 ∀ W,Sep C L W->YieldAt Fence.wide 1 P l vs.toArray W fun e W'=>∃ b L1,e=.returned (.bool b)/\R b L1/\St W C L C L1 W'
theorem xm {R:Ending->World->Prop}{m n:Nat}{r:Option Nat}(h:RoundIn Fence.wide m P l fn tmps assign body W R):RoundIn (Fo r) n P l fn tmps assign body W R :=
 ⟨trivial,fun c cs _=>h.2 c cs (room_wide _)⟩
theorem D2 {a:Act}{o:Oper}{f:Operand}{b:Array Operand}{d:Array TypeId}{c:List Value}
  (e:o.op=.call ⟨.value f,b,d⟩) (g:a.eval f=.func (.yield l) #[] #[]) (h:b.toList.map a.eval=c) (i:(Instr.yield l c.toArray).run P w=.ok (.round l fn tmps assign body) w) :
  (execOp a.eval o).run P w=.ok (.round l fn tmps assign body) w:=by
 have j:execOp a.eval o=(do let dd <- resolve a.eval ⟨.value f,b,d⟩ o.type;invoke dd.target dd.args:Sem Next):=by unfold execOp;rw [e]
 have k:b.map a.eval=c.toArray:=by apply PW;rw [<- h];simp
 rw [j];simp only [resolve,g,Deferred.ofValue,k,Sem.run_bind,Sem.run_pure,Result.andThen_ok,invoke];simpa using i
def YW (P:Program)(W:Cw P)(r:Option Nat)(n:Nat):Prop:=∀ {c:Code}{Q:Exit->Act->World->Prop}{a:Act}{w:World},c.wpIn (Fo r) n P Q a w->W.wp c Q a w
theorem YW.plain (P:Program):YW P (Cw.plain P) none 3:=fun h=>(wpIn_wide (n:=3)).1 h
end Go.Jog
namespace Go.Jog
open Go
def HD:List (Nat × Value)->Fr->Fr
 | [],fr=>fr
 | (p,v)::l,fr=>HD l ((p,[],v)::fr)
def zI (n:Nat):List (Nat × Value)->Fr->Bool
 | [],_=>true
 | (p,v)::l,fr=>aP n [] ((p,[],v)::fr) p && zI n l ((p,[],v)::fr)
theorem FrOk.puts {n:Nat}:∀ {l:List (Nat × Value)}{fr:Fr}{t:Array Value},FrOk n [] [] fr { tmps:=t,defers:=[] }->zI n l fr=true->FrOk n [] [] (HD l fr) { tmps:=l.foldl (fun t x=>t.setIfInBounds x.1 x.2) t,defers:=[] }
 | [],_,_,h,_=>h
 | (p,v)::l,fr,t,h,a=>by
  simp only [zI,OC] at a;have h1:=FrOk.put (u:=v) h a.1 ⟨fun _=>rfl,fun b=>absurd (fun p c=>by cases c) b⟩;exact FrOk.puts (l:=l) ⟨h1.size,Z,h1.ent⟩ a.2
def GK:Exit->Option Code
 | .ret=>some .ret
 | .exit id=>some (.exit id)
 | _=>none
end Go.Jog
namespace Go.Jog
open Go
def IterM (P:Program)(gf:FuncId)(fb lb:Array Value)(C:Mem)(M0:List Ent)(vss:List (List Value)):Prop :=
 ∀ (l:Nat)(I X:Nat->List Ent->Prop)(L:List Ent),(∀ k v L',vss[k]?=some v->I k L'->YC P l v C L' (fun b L1=>(b=true/\I (k+1) L1)∨(b=false/\X k L1)))->I 0 L ->
  ∀ W,Sep C (M0++L) W->CallsIn Fence.wide 2 P gf (fb++#[.func (.yield l) #[] #[]]++lb) W fun e W'=>(∃ v,e=.returned v)/\∃ M' L',(I vss.length L'∨∃ k,k<vss.length/\X k L')/\St W C (M0++L) C (M'++L') W'
def EndM (n:Nat)(I X:Nat->List Ent->Prop)(L2:List Ent):Prop:=∃ M' L',L2=M'++L'/\(I n L'∨∃ k,k<n/\X k L')
theorem IterM.intro {a:Cx}{f:FuncId}{g:Func}{c:Code}{fb lb:List Value}{C:Mem}{i:List Ent}{j:List (List Value)}(m:Enters a.P f=true)(o:a.P.funcs[f]?=some g)(p:g.body=some c)
  (n:Nat) (q:g.ntmps=n) (r:Nat.ble (fb++.func (.yield 0) #[] #[]::lb).length n=true)
  (h:∀ (l:Nat)(I X:Nat->List Ent->Prop)(L:List Ent),(∀ k v d,j[k]?=some v->I k d->YC a.P l v C d (fun b L1=>(b=true/\I (k+1) L1)∨(b=false/\X k L1)))->I 0 L ->
   ∀ w0,G ⟨a,g,n,⟨w0,C,i++L⟩,fun _ _ d=>EndM j.length I X d,Cw.plain a.P,[],bodyPost a.P g (mQ ⟨w0,C,i++L⟩ fun _ _ d=>EndM j.length I X d)⟩
    (ig 64 [.code c]) .normal (wz (fb++.func (.yield l) #[] #[]::lb) 0) C (i++L)):IterM a.P f fb.toArray lb.toArray C i j:=fun l I X L hy h0 W s=>by
 have t:=Fn.intro (args:=fb++.func (.yield l) #[] #[]::lb) m o p n q (by rw [<- r];congr 1;simp) (h l I X L hy h0);have e:(fb.toArray++#[Value.func (.yield l) #[] #[]]++lb.toArray)=(fb++Value.func (.yield l) #[] #[]::lb).toArray:=by simp
 rw [e];refine callsIn_wide.2 ((t.2 W s).mono fun e w' ⟨v,C',d,u,hs,w,x,y,z⟩=>⟨⟨v,u⟩,w,x,z, ?_⟩);subst y;exact St.less hs (Mem.le.refl _) hs.c0
theorem St.dropFront {a:World}{b:Mem}{c:List Ent}{C:Mem}{W:World}:∀ (M:List Ent){L:List Ent},St a b c C (M++L) W->St a b c C L W
 | [],_,h=>h
 | _::M,_,h=>St.dropFront M h.drop
section
variable {F:Fx} {k:List KI} {fr:Fr} {C:Mem} {L:List Ent}
theorem Vc {g:Operand}{ps:List Nat}{assign body:Code}{gf:FuncId}{fb lb:Array Value}{vss:List (List Value)}(hW:F.W=Cw.plain F.cx.P)
  (hg:ev fr [] g=some (.func (.func gf) fb lb)) (hen:Enters F.cx.P gf=true) {M0 Lr:List Ent} (hseq:IterM F.cx.P gf fb lb C M0 vss) (hL:L.Perm (M0++Lr)) (hps:∀ v∈vss,v.length=ps.length)
  (I:Nat->List Ent->Prop) (X:Code->Nat->List Ent->Prop) (h0:I 0 Lr)
  (hok:∀ v∈vss,zI F.n (ps.zip v) fr=true) (A:Nat->List Ent->Fr->List Ent->Prop)
  (hassign:∀ l j v L' W1,I j L'->vss[j]?=some v->G ⟨F.cx,F.fn,F.n,⟨W1,C,L'⟩,F.post,Cw.round F.cx.P l 1,[],fun e a w'=>e=.normal/\∃ frA LA,A j L' frA LA/\FrOk F.n [] [] frA a/\St W1 C L' C LA w'⟩ (ig 64 [.code assign]) .normal (HD (ps.zip v) fr) C L')
  (hbody:∀ l j v L' frA LA W1,I j L'->vss[j]?=some v->A j L' frA LA ->
   G ⟨F.cx,F.fn,F.n,⟨W1,C,LA⟩,F.post,Cw.round F.cx.P l 1,[],fun e _ w'=>(e=.normal/\∃ L1,I (j+1) L1/\St W1 C LA C L1 w')∨(∃ c L1,GK e=some c/\X c j L1/\St W1 C LA C L1 w')⟩ (ig 64 [.code body]) .normal frA C LA)
  (hdone:∀ D L',I vss.length L'->G { F with dd:={ target:=.collected D,args:=#[] }::F.dd } (ig 64 k) .normal fr C (.obj D (.deferred (some []))::L'))
  (hstop:∀ D j c L',j<vss.length->X c j L'->G { F with dd:={ target:=.collected D,args:=#[] }::F.dd } (.code c::k) .normal fr C (.obj D (.deferred (some []))::L')) :
  G F (.code (.rangeFunc g ps.toArray assign body)::k) .normal fr C L:=fun hle a w ha hw=>by
 simp only [Kq,hW];show (Code.rangeFunc g ps.toArray assign body).wp F.cx.P (Kq F k) a w;refine (wpIn_wide (n:=3)).1 (wpIn_rangeFunc fun fn _=>?_);have hga:a.eval g=.func (.func gf) fb lb:=bx ha (fun p hp=>by cases hp) hg;obtain ⟨rec,hrec⟩:∃ rec:LoopState->Option Code->Loop,rec=fun st pe=>{ state:=st,pending:=pe,fn,tmps:=a.tmps,params:=ps.toArray,assign,body,defers:=w.heap.size }:=⟨_,rfl⟩;obtain ⟨z,hz⟩:∃ z,w.heap.size=z:=⟨_,rfl⟩;obtain ⟨W1,hW1⟩:∃ W1,(w.alloc (.deferred (some []))).alloc (.loop (rec .ready none))=W1:=⟨_,rfl⟩;have hS1:St F.b.w0 F.b.C0 F.b.L0 C (M0++.obj (z+1) (.loop (rec .ready none))::.obj z (.deferred (some []))::Lr) W1:=by
  have:=St.alloc (St.alloc (St.perm hw hL) (.deferred (some []))) (.loop (rec .ready none));rw [World.size_alloc,hz] at this;rw [<- hW1];exact St.perm this (((Ov [_,_]).append O2).trans (O2 (l₁:=[_,_]++Lr)))
 refine ⟨z+1,[{ target:=.collected z,args:=#[] }],W1,{ target:=.fn (.func gf) lb,args:=fb++#[.func (.yield (z+1)) #[] #[]] },W1,gf,
  fb++#[.func (.yield (z+1)) #[] #[]]++lb,W1, ?_, ?_,fun _ _=>trivial, ?_,fun _=>by decide, ?_⟩
 ·rw [<- hW1,hrec,<- hz];exact run_enterLoop_outer _ _ _ _ _
 ·simp only [resolve,hga];simp [go_sem]
 ·simp [invoke,go_sem,eG hen]
 refine (hseq (z+1) (fun j L2=>∃ L',I j L'/\L2=.obj (z+1) (.loop (rec .ready none))::.obj z (.deferred (some []))::L')
  (fun j L2=>∃ c L',X c j L'/\L2=.obj (z+1) (.loop (rec .done (some c)))::.obj z (.deferred (some []))::L') _ ?_ ⟨Lr,h0,rfl⟩ W1 hS1.sep).mono ?_
 ·rintro j v L2 hj ⟨L',hi,rfl⟩ W hW0;have hmem:v∈vss:=Oq hj;have hs:=St.start hW0;have hl:W.heap[z+1]?=some (.loop (rec .ready none)):=hs.sep.e _ (aJ ..);have hy:=run_yield (P:=F.cx.P) (args:=v.toArray) hl (by rw [hrec];simp [hps v hmem]);rw [hrec] at hy;have hzz:(ps.toArray.zip v.toArray).foldl (fun tmps (x:Nat × Value)=>match x with | (t,a)=>tmps.setIfInBounds t a) a.tmps=(ps.zip v).foldl (fun t x=>t.setIfInBounds x.1 x.2) a.tmps:=by simp
  dsimp only at hy;rw [hzz] at hy;refine ⟨fn,_,assign,body,hy,roundIn_of_wpIn trivial ?_⟩;have hfr:FrOk F.n [] [] (HD (ps.zip v) fr) { tmps:=(ps.zip v).foldl (fun t x=>t.setIfInBounds x.1 x.2) a.tmps,defers:=[] } :=
   FrOk.puts ⟨ha.size,rfl,ha.ent⟩ (hok v hmem)
  have hA:=Tm (hassign (z+1) j v L' W hi hj) (Mem.le.refl _) hfr (St.start hs.drop.drop.sep);refine wpIn_mono hA (fun e a1 W2 q=>?_);obtain ⟨rfl,frA,LA,hAA,hfr1,hs1⟩:=q;have hs2a:=St.call (Lp:=L') (Lr:=[.obj (z+1) (.loop (rec .ready none)),.obj z (.deferred (some []))]) (St.perm hs (O2 (l₁:=[_,_]))) hs1;have hs2:St W C (.obj (z+1) (.loop (rec .ready none))::.obj z (.deferred (some []))::L') C (.obj (z+1) (.loop (rec .ready none))::.obj z (.deferred (some []))::LA) W2:=St.perm hs2a (O2 (l₂:=[_,_]));have hl2:W2.heap[z+1]?=some (.loop (rec .ready none)):=hs2.sep.e _ (aJ ..);refine ⟨_,run_beginRound hl2 (by rw [hrec]), ?_⟩;have hs3:St W C (.obj (z+1) (.loop (rec .ready none))::.obj z (.deferred (some []))::L') C (.obj (z+1) (.loop (rec .busy none))::.obj z (.deferred (some []))::LA) (W2.putObj (z+1) (.loop { rec .ready none with state:=.busy })):=by
   have:=St.putObj (o':=.loop { rec .ready none with state:=.busy }) hs2;rw [hrec] at this ⊢;exact this
  have hB:=Tm (hbody (z+1) j v L' frA LA (W2.putObj (z+1) (.loop { rec .ready none with state:=.busy })) hi hj hAA) (Mem.le.refl _) hfr1 (St.start hs3.drop.drop.sep);refine wpIn_mono hB (fun e a2 W4 q=>?_);have back:∀ L1,St (W2.putObj (z+1) (.loop { rec .ready none with state:=.busy })) C LA C L1 W4->St W C (.obj (z+1) (.loop (rec .ready none))::.obj z (.deferred (some []))::L') C (.obj (z+1) (.loop (rec .busy none))::.obj z (.deferred (some []))::L1) W4:=fun L1 hs4=>by
   have hs5:=St.call (Lp:=LA) (Lr:=[.obj (z+1) (.loop (rec .busy none)),.obj z (.deferred (some []))]) (St.perm hs3 (O2 (l₁:=[_,_]))) hs4;exact St.perm hs5 (O2 (l₂:=[_,_]))
  have leave:∀ (c:Code) L1,X c j L1->St (W2.putObj (z+1) (.loop { rec .ready none with state:=.busy })) C LA C L1 W4->∃ v W5,(Instr.endRound (z+1) (some c)).run F.cx.P W4=.ok v W5/\∃ b L2,Ending.returned v=.returned (.bool b) /\
    ((b=true/\∃ L',I (j+1) L'/\L2=.obj (z+1) (.loop (rec .ready none))::.obj z (.deferred (some []))::L')∨(b=false/\∃ c L',X c j L'/\L2=.obj (z+1) (.loop (rec .done (some c)))::.obj z (.deferred (some []))::L')) /\
    St W C (.obj (z+1) (.loop (rec .ready none))::.obj z (.deferred (some []))::L') C L2 W5:=fun c L1 hX hs4=>by
   have hs6:=back L1 hs4;have hl4:W4.heap[z+1]?=some (.loop (rec .busy none)):=hs6.sep.e _ (aJ ..);refine ⟨_,_,run_endRound (some c) hl4,false,_,Z,.inr ⟨Z,c,L1,hX,Z⟩, ?_⟩;have:=St.putObj (o':=.loop { rec .busy none with state:=if (some c).isNone then .ready else .done,pending:=some c }) hs6;rw [hrec] at this ⊢;exact this
  rcases q with ⟨rfl,L1,hi1,hs4⟩ | ⟨c,L1,hc,hX,hs4⟩
  ·have hs6:=back L1 hs4;have hl4:W4.heap[z+1]?=some (.loop (rec .busy none)):=hs6.sep.e _ (aJ ..);refine ⟨_,_,run_endRound none hl4,true,_,Z,.inl ⟨Z,L1,hi1,Z⟩, ?_⟩;have:=St.putObj (o':=.loop { rec .busy none with state:=if (none:Option Code).isNone then .ready else .done,pending:=none }) hs6;rw [hrec] at this ⊢;exact this
  cases e <;> simp only [GK] at hc <;> cases hc
  ·exact leave _ L1 hX hs4
  exact leave _ L1 hX hs4
 rintro e W2 ⟨⟨v,rfl⟩,M',L2,hL2,hs⟩;have hs':St F.b.w0 F.b.C0 F.b.L0 C L2 W2:=by
  have:=St.call (Lr:=[]) (by rw [OX];exact hS1) hs;rw [OX] at this;exact St.dropFront M' this
 have hfr:FrOk F.n [] ({ target:=.collected z,args:=#[] }::F.dd) fr { a with defers:=[{ target:=.collected z,args:=#[] }]++a.defers }:=⟨ha.size,by rw [ha.defers];rfl,ha.ent⟩;rcases hL2 with ⟨L',hi,rfl⟩ | ⟨j,hj,c,L',hX,rfl⟩
 ·have hl:W2.heap[z+1]?=some (.loop (rec .ready none)):=hs'.sep.e _ (aJ ..);refine ⟨none,_,by have:=run_endLoop (P:=F.cx.P) hl (by rw [hrec];simp);rw [hrec] at this;exact this, ?_⟩;have hs2:St F.b.w0 F.b.C0 F.b.L0 C (.obj z (.deferred (some []))::L') (W2.putObj (z+1) (.loop { rec .ready none with state:=.exhausted })):=(St.putObj hs').drop;have:=SK 64 (hdone z L' hi) hle _ _ hfr hs2;rw [wD] at this;rw [hrec] at this;exact this
 have hl:W2.heap[z+1]?=some (.loop (rec .done (some c))):=hs'.sep.e _ (aJ ..);refine ⟨some c,_,by have:=run_endLoop (P:=F.cx.P) hl (by rw [hrec];simp);rw [hrec] at this;exact this, ?_⟩;have hs2:St F.b.w0 F.b.C0 F.b.L0 C (.obj z (.deferred (some []))::L') (W2.putObj (z+1) (.loop { rec .done (some c) with state:=.exhausted })):=(St.putObj hs').drop;have:=hstop z j c L' hj hX hle _ _ hfr hs2;rw [wD] at this;simp only [Kq,hW] at this;rw [hrec] at this;exact (wpIn_wide (n:=3)).2 this
theorem Va {id:Nat}{l:List Oper}(y:Nat)(t j:List Nat)(B:List (Nat × Nat)){r:Option Nat}{n:Nat}(ai:YW F.cx.P F.W r n)(m:fr.all (fun x=>x.2.1.isEmpty)=true)(aj:fN l.toArray=true)
  (hB:t++y::j=List.range l.toArray.size)
  (T:((t++y::j).all (fun i=>Nat.blt i l.length) && (!t.contains y && !j.contains y))=true)
  {f:Operand} {U:Array Operand} {ts:Array TypeId} {d:Nat} (V:(jC l y).op=.call ⟨.value f,U,ts⟩) (hd:(jC l y).dst=some d)
  (h:∀ R:Rg F.n (l.map (·.dst)),C.le R.b.C0 ->
   (∀ {lp:Nat}{vs:List Value}{J Lo:List Ent}{K:Mem}{M:Bool->List Ent->Prop}{o:Fr}{C1:Mem}{L1:List Ent},YC F.cx.P lp vs K J M->K.le C1->gOn (l.map (·.dst)) o (jC l y).guard=true->∀ {g:GL},gOf (l.map (·.dst)) o (jC l y).guard=some g->ev o g f=some (.func (.yield lp) #[] #[]) ->
    jD (ev o g) U.toList=some vs->L1.Perm (J++Lo)->(∀ v,aP F.n (l.map (·.dst)) ((d,[],v)::o) d=true) ->
    (∀ b z,M b z->∀ q:Rg F.n (l.map (·.dst)),C.le q.b.C0->(∀ fr C L,fr.all (fun x=>x.2.1.isEmpty)=true->G F (ig 64 k) .normal fr C L->D F.cx q [] fr C L)->D F.cx q (gb l B j) ((d,[],.bool b)::o) C1 (z++Lo)) ->
    D F.cx R [] o C1 L1) ->
   D F.cx R (gb l B t) fr C L) :
  G F (.code (.region id l.toArray false)::k) .normal fr C L:=fun h0 a w A hw=>by
 simp only [Kq];simp only [OC,RM,List.all_cons,QC,List.contains_eq_mem,OL] at T;obtain ⟨⟨ak,X,al⟩,am,an⟩:=T
 let kd:=fun i=>ovr B i (fI (jC l i))
 let b:Bs:=⟨F.b.w0,C,F.b.L0⟩
 let Post:Act->Mem × List Ent->Prop:=fun a κ=>∀ w,b.cls κ w->Kq F k .normal a w
 let q:Rg F.n (l.map (·.dst)):=⟨b,l.toArray,kd,Post,fun tmps=>dR l tmps,F.dd⟩
 let ao:Act->Mem × List Ent->Prop:=fun a κ=>DY r n y F.cx.P l.toArray b.cls kle kd Post (y::j) a κ
 let Y:Rg F.n (l.map (·.dst)):=⟨b,l.toArray,kd,ao,fun tmps=>dR l tmps,F.dd⟩
 have un:∀ κ w,b.cls κ w->F.b.cls κ w:=fun κ w E=>St.unbase h0 hw.cn E;have ap:∀ fr C L,fr.all (fun x=>x.2.1.isEmpty)=true->G F (ig 64 k) .normal fr C L->D F.cx q [] fr C L:=fun fr C' L m hG N _ a A w hw=>SK 64 hG (h0.trans N) a w ⟨A.size,A.defers,fun s g v H=>by
  have hm:=OM.1 m _ (Fr.get_mem H);simp only [QF] at hm;subst hm;exact ⟨fun _=>(A.ent s [] v H).1 (fun p m=>by cases m),fun O=>absurd (fun p m=>by cases m) O⟩⟩ (un _ _ hw)
 have aa:∀ (R:Rg F.n (l.map (·.dst)))(Q:List Nat),R.ops=l.toArray->R.kd=kd->Q.all (fun i=>Nat.blt i l.length)=true->∀ x∈gb l B Q,R.kd x.1=x.2.1/\R.ops[x.1]?=some x.2.2:=fun R Q ho hk aq x S=>by
  obtain ⟨h1,h2,h3⟩:=ga S;refine ⟨by rw [hk];exact h2.symm, ?_⟩;have ab:=OM.1 aq x.1 h1;rw [Rp] at ab;rw [ho,Px,fg ab,h3]
 rw [Rp] at X;have ar:l.toArray[y]?=some (jC l y):=by rw [Px,fg X]
 have hD:=h Y (Mem.le.refl _) (fun {lp vs J Lo K M o C1 L1} hY au H g av hf aw hL ax ay N _ a1 I=>by
  show xd r n y F.cx.P l.toArray b.cls kle (kd y) y (DY r n y F.cx.P l.toArray b.cls kle kd Post j) a1 (C1,L1);unfold xd;rw [aI rfl];intro w1 az;unfold wpOpIn;rw [ar];simp only;have ac:Region.wanted (jC l y) (yielded l.toArray a1.tmps)=true:=nF (fun tmps=>dR l tmps) I H;rw [aI ac];refine ⟨fun _ _=>trivial, ?_⟩;have ad:=St.perm az hL;have ae:=ad.sep.front;obtain ⟨fn,tmps,assign,body,hy,hR⟩:=hY w1 (ae.lessC au);have af:∀ x u,ev o g x=some u->a1.eval x=u:=fun x u S=>bx I ((iY (fun tmps=>dR l tmps) I av).1 ac) S;show Oper.uponIn (Fo r) n F.cx.P (jC l y) a1 _ _ (((jC l y).semAt r a1.eval).run F.cx.P w1);rw [Oper.semAt_eq r a1.eval (jC l y) (fun c E=>by rw [V] at E;cases E),D2 V (af _ _ hf) (dV af aw) hy];rw [Oper.uponIn_round];refine ⟨(fun h=>(by cases h)),(xm hR).mono fun e W' ⟨bb,z,he,aA,hs⟩=>?_⟩;subst he;refine ⟨(C1,z++Lo),St.call ad (St.up ae hs), ?_⟩;have ag:=ay bb z aA q (Mem.le.refl _) ap N (aa q j rfl rfl al) _ (I.put (ax (.bool bb)) ⟨fun _=>rfl,fun O=>absurd (fun p m=>by cases m) O⟩);rw [dG] at ag;have:=tY (r:=r) (n:=n) (y:=y) (ρ:=[]) (Post:=Post) (fun _ _ h=>h) j _ _ an ag;rw [OX] at this;rw [hd];exact this) (Mem.le.refl _) (aa Y t Z Z ak) a (A.enter _ m)
 rw [dG] at hD;have ah:=tY (r:=r) (n:=n) (y:=y) (ρ:=y::j) (Post:=Post) (fun _ _ h=>h) t _ _ am hD;rw [hB] at ah;exact ai (mN aj (cls:=b.cls) (le:=kle) kle.refl (St.rebase hw) ah (fun a κ w hP hw=>hP w hw))
end
end Go.Jog
namespace Go.Jog
open Go
section
variable {cx:Cx} {fn:Func} {n:Nat} {fr:Fr} {C C':Mem} {L L1 LA:List Ent} {W1:World} {post:Value->Mem->List Ent->Prop} {W:Cw cx.P}
theorem UX {A:Fr->List Ent->Prop}(b:Fr)(d:Has fr b)(f:A b LA) :
  G ⟨cx,fn,n,⟨W1,C,L⟩,post,W,[],fun e a w'=>e=.normal/\∃ c LA,A c LA/\FrOk n [] [] c a/\St W1 C L C LA w'⟩ [] .normal fr C' LA:=fun g _ _ h hw =>
 ⟨rfl,b,LA,f,h.weaken d.sub,St.less hw (Mem.le.refl _) g⟩
theorem Vf {I:List Ent->Prop}{X:Code->List Ent->Prop}{e:Exit}{c:Code}(a:GK e=some c)(b:X c L1) :
  G ⟨cx,fn,n,⟨W1,C,L⟩,post,W,[],fun e _ w'=>(e=.normal/\∃ L1,I L1/\St W1 C L C L1 w')∨(∃ c L1,GK e=some c/\X c L1/\St W1 C L C L1 w')⟩ [] e fr C' L1:=fun d _ _ _ hw =>
 .inr ⟨c,L1,a,b,St.less hw (Mem.le.refl _) d⟩
end
end Go.Jog
namespace Go.Jog
open Go
section
variable {cx:Cx} {fn:Func} {n:Nat} {fr:Fr} {C C':Mem} {L L1 LA:List Ent} {W1:World} {post:Value->Mem->List Ent->Prop} {W:Cw cx.P}
theorem Ue {Ds:List Nat}{b:Bs}{e:Exit}(j:e=.ret∨e=.normal){v:Value}
  (d:∀ a w,FrOk n [] (Ds.map xZ) fr a->St b.w0 b.C0 b.L0 C L w->(results fn a.tmps).run cx.P w=.ok v w) (h:post v C []) :
  G ⟨cx,fn,n,b,post,Cw.plain cx.P,Ds.map xZ,bodyPostM Fence.wide 3 cx.P fn (mQ b post)⟩ [] e fr C (Ds.map qu++L):=fun o a w f hw=>by
 have k:LeavesInM Fence.wide 3 cx.P fn a.tmps (mQ b post) a.defers .returning w:=by
  have g:=f;rw [f.defers];have l:∀ (c:List Nat)(w:World),St b.w0 b.C0 b.L0 C (c.map qu++L) w->LeavesInM Fence.wide 3 cx.P fn a.tmps (mQ b post) (c.map xZ) .returning w:=by
   intro c;induction c with
   | nil=>exact fun w hw=>⟨v,d a _ g hw,v,C,[],rfl,St.dropAll hw,h⟩
   | cons D c m =>
    intro w hw;have i:w.heap[D]?=some (.deferred (some [])):=hw.sep.e _ (aJ ..);have hs:=(St.putObj (o':=.deferred none) hw).drop;cases c with
    | nil=>exact ⟨by simp,.inl ⟨D,_,rfl,run_takeDeferred i,v,d a _ g hs,v,C,[],rfl,St.dropAll hs,h⟩⟩
    | cons E c=>exact ⟨by simp,.inl ⟨D,_,rfl,run_takeDeferred i,m _ hs⟩⟩
  exact l Ds w hw
 rcases j with rfl | rfl <;> exact k
end
end Go.Jog
namespace Go.Proofs.YthnpijdjlddpmaaGreatDoor
open Go.Proofs.Tryz
open Go Go.Jog
variable {C:Mem}{i k:Nat}{l:List Nat}{m n:Nat}{u v:Value}
def tab:Tab:=[(2,⟨.int .i64,1,8,[.int .i64],false⟩),
 (3,⟨.int .i64,1,8,[.int .i64],false⟩),
 (4,⟨.bool,1,1,[.bool],false⟩),
 (5,⟨.int .u8,1,1,[.int .u8],false⟩),
 (9,⟨.str,1,16,[.str],false⟩),
 (12,⟨.int .u64,1,8,[.int .u64],false⟩),
 (21,⟨.int .i32,1,4,[.int .i32],false⟩),
 (22,⟨.int .i8,1,1,[.int .i8],false⟩),
 (23,⟨.arr 2 22,2,2,[.int .i8,.int .i8],true⟩),
 (25,⟨.struct [(5,0),(23,1),(4,3)],4,4,[.int .u8,.int .i8,.int .i8,.bool],true⟩),
 (26,⟨.arr 6 22,6,6,[.int .i8,.int .i8,.int .i8,.int .i8,.int .i8,.int .i8],true⟩),
 (28,⟨.struct [(26,0),(4,6)],7,7,[.int .i8,.int .i8,.int .i8,.int .i8,.int .i8,.int .i8,.bool],true⟩),
 (29,⟨.slice 140,1,24,[.slice],false⟩),
 (31,⟨.struct [(25,0),(28,4),(29,11)],12,40,[.int .u8,.int .i8,.int .i8,.bool,.int .i8,.int .i8,.int .i8,.int .i8,.int .i8,.int .i8,.bool,.slice],true⟩),
 (33,⟨.slice 58,1,24,[.slice],false⟩),
 (34,⟨.slice 108,1,24,[.slice],false⟩),
 (36,⟨.struct [(33,0),(34,1)],2,48,[.slice,.slice],true⟩),
 (37,⟨.slice 56,1,24,[.slice],false⟩),
 (38,⟨.slice 56,1,24,[.slice],false⟩),
 (39,⟨.slice 111,1,24,[.slice],false⟩),
 (40,⟨.slice 62,1,24,[.slice],false⟩),
 (42,⟨.struct [(36,0),(38,2),(39,3),(40,4)],5,120,[.slice,.slice,.slice,.slice,.slice],true⟩),
 (45,⟨.slice 50,1,24,[.slice],false⟩),
 (46,⟨.int .i64,1,8,[.int .i64],false⟩),
 (50,⟨.slice 3,1,24,[.slice],false⟩),
 (56,⟨.str,1,16,[.str],false⟩),
 (58,⟨.struct [(56,0),(56,1)],2,32,[.str,.str],true⟩),
 (60,⟨.struct [(56,0),(56,1),(56,2)],3,48,[.str,.str,.str],true⟩),
 (62,⟨.struct [(3,0),(9,1),(58,2),(56,4),(9,5),(9,6),(60,7)],10,152,[.int .i64,.str,.str,.str,.str,.str,.str,.str,.str,.str],true⟩),
 (63,⟨.slice 5,1,24,[.slice],false⟩),
 (75,⟨.struct [(37,0)],1,24,[.slice],true⟩),
 (78,⟨.slice 123,1,24,[.slice],false⟩),
 (80,⟨.struct [(3,0),(78,1),(37,2)],3,56,[.int .i64,.slice,.slice],true⟩),
 (89,⟨.struct [(5,0),(5,1),(56,2)],3,24,[.int .u8,.int .u8,.str],true⟩),
 (96,⟨.ptr 153,1,8,[.ptr],false⟩),
 (99,⟨.int .u64,1,8,[.int .u64],false⟩),
 (100,⟨.slice 99,1,24,[.slice],false⟩),
 (107,⟨.arr 3 3,3,24,[.int .i64,.int .i64,.int .i64],true⟩),
 (108,⟨.arr 3 3,3,24,[.int .i64,.int .i64,.int .i64],true⟩),
 (111,⟨.struct [(9,0),(56,1),(56,2)],3,48,[.str,.str,.str],true⟩),
 (119,⟨.slice 125,1,24,[.slice],false⟩),
 (123,⟨.struct [(37,0),(56,1)],2,40,[.slice,.str],true⟩),
 (125,⟨.struct [(3,0),(123,1)],3,48,[.int .i64,.slice,.str],true⟩),
 (127,⟨.func,1,8,[.func],false⟩),
 (137,⟨.arr 2 5,2,2,[.int .u8,.int .u8],true⟩),
 (138,⟨.arr 3 22,3,3,[.int .i8,.int .i8,.int .i8],true⟩),
 (140,⟨.struct [(5,0),(23,1),(137,3),(5,5),(138,6)],9,9,[.int .u8,.int .i8,.int .i8,.int .u8,.int .u8,.int .u8,.int .i8,.int .i8,.int .i8],true⟩),
 (142,⟨.struct [(3,0),(3,1)],2,16,[.int .i64,.int .i64],true⟩),
 (149,⟨.map 9 4,1,8,[.map],false⟩),
 (151,⟨.map 99 4,1,8,[.map],false⟩),
 (153,⟨.struct [(42,0),(151,5)],6,128,[.slice,.slice,.slice,.slice,.slice,.map],true⟩),
 (158,⟨.int .u32,1,4,[.int .u32],false⟩),
 (160,⟨.int .u64,1,8,[.int .u64],false⟩),
 (164,⟨.struct [(3,0),(56,1),(37,2),(75,3),(37,4)],5,96,[.int .i64,.str,.slice,.slice,.slice],true⟩),
 (167,⟨.str,1,16,[.str],false⟩),
 (177,⟨.func,1,8,[.func],false⟩),
 (179,⟨.slice 183,1,24,[.slice],false⟩),
 (183,⟨.arr 2 3,2,16,[.int .i64,.int .i64],true⟩),
 (186,⟨.arr 3 9,3,48,[.str,.str,.str],true⟩),
 (189,⟨.map 58 4,1,8,[.map],false⟩),
 (202,⟨.ptr 212,1,8,[.ptr],false⟩),
 (209,⟨.struct [(56,0),(37,1)],2,40,[.str,.slice],true⟩),
 (210,⟨.slice 209,1,24,[.slice],false⟩),
 (212,⟨.struct [(3,0),(50,1),(210,2),(50,3),(209,4)],6,120,[.int .i64,.slice,.slice,.slice,.str,.slice],true⟩),
 (242,⟨.map 183 3,1,8,[.map],false⟩),
 (245,⟨.map 3 4,1,8,[.map],false⟩),
 (249,⟨.arr 3 58,6,96,[.str,.str,.str,.str,.str,.str],true⟩),
 (253,⟨.slice 38,1,24,[.slice],false⟩),
 (255,⟨.func,1,8,[.func],false⟩),
 (263,⟨.func,1,8,[.func],false⟩),
 (264,⟨.arr 32 5,32,32,[.int .u8,.int .u8,.int .u8,.int .u8,.int .u8,.int .u8,.int .u8,.int .u8,.int .u8,.int .u8,.int .u8,.int .u8,.int .u8,.int .u8,.int .u8,.int .u8,.int .u8,.int .u8,.int .u8,.int .u8,.int .u8,.int .u8,.int .u8,.int .u8,.int .u8,.int .u8,.int .u8,.int .u8,.int .u8,.int .u8,.int .u8,.int .u8],true⟩),
 (272,⟨.func,1,8,[.func],false⟩),
 (273,⟨.slice 37,1,24,[.slice],false⟩),
 (278,⟨.map 3 56,1,8,[.map],false⟩),
 (284,⟨.func,1,8,[.func],false⟩),
 (295,⟨.ptr 3,1,8,[.ptr],false⟩),
 (305,⟨.slice 160,1,24,[.slice],false⟩),
 (307,⟨.struct [(4,0),(305,1)],2,32,[.bool,.slice],true⟩),
 (315,⟨.func,1,8,[.func],false⟩),
 (317,⟨.map 3 3,1,8,[.map],false⟩),
 (318,⟨.func,1,8,[.func],false⟩),
 (327,⟨.arr 3 56,3,48,[.str,.str,.str],true⟩),
 (328,⟨.arr 3 56,3,48,[.str,.str,.str],true⟩),
 (346,⟨.iface,1,16,[.iface],false⟩),
 (352,⟨.ptr 354,1,8,[.ptr],false⟩),
 (354,⟨.struct [(352,0),(63,1)],2,32,[.ptr,.slice],true⟩),
 (357,⟨.func,1,8,[.func],false⟩),
 (371,⟨.ptr 209,1,8,[.ptr],false⟩),
 (372,⟨.arr 24 5,24,24,[.int .u8,.int .u8,.int .u8,.int .u8,.int .u8,.int .u8,.int .u8,.int .u8,.int .u8,.int .u8,.int .u8,.int .u8,.int .u8,.int .u8,.int .u8,.int .u8,.int .u8,.int .u8,.int .u8,.int .u8,.int .u8,.int .u8,.int .u8,.int .u8],true⟩),
 (383,⟨.ptr 5,1,8,[.ptr],false⟩),
 (386,⟨.arr 20 160,20,160,[.int .u64,.int .u64,.int .u64,.int .u64,.int .u64,.int .u64,.int .u64,.int .u64,.int .u64,.int .u64,.int .u64,.int .u64,.int .u64,.int .u64,.int .u64,.int .u64,.int .u64,.int .u64,.int .u64,.int .u64],true⟩),
 (390,⟨.struct [(58,0),(56,2)],3,48,[.str,.str,.str],true⟩),
 (391,⟨.arr 3 390,9,144,[.str,.str,.str,.str,.str,.str,.str,.str,.str],true⟩),
 (393,⟨.func,1,8,[.func],false⟩),
 (395,⟨.int .i64,1,8,[.int .i64],false⟩),
 (398,⟨.ptr 408,1,8,[.ptr],false⟩),
 (408,⟨.struct [(9,0),(9,1),(346,2)],3,48,[.str,.str,.iface],true⟩),
 (410,⟨.ptr 412,1,8,[.ptr],false⟩),
 (412,⟨.struct [(9,0)],1,16,[.str],true⟩),
 (415,⟨.arr 0 16,0,0,[],true⟩)]
noncomputable def cx:Cx:={ P:=Tryz.prog,T:=tab,mixed:=by kernel_rfl,hT:=by kernel_rfl }
abbrev Str:=List UInt8
/-! ### The model -/
structure Rel where
 kind:Int
 upper:Str
 lower:Str
 deriving DecidableEq,Inhabited
def oQ (b:UInt8):Bool:=(decide (97<=(b.toNat:Int)) && decide ((b.toNat:Int)<=122)) || (decide (65<=(b.toNat:Int)) && decide ((b.toNat:Int)<=90))
def vW (b:UInt8):Bool:=(decide (48<=(b.toNat:Int)) && decide ((b.toNat:Int)<=57)) || ((b.toNat:Int) == 95)
def jk (k:Nat)(b:UInt8):Bool:=oQ b || (!(k == 0) && vW b)
def gD:Nat->Str->Bool
 | _,[]=>true
 | k,b::s=>jk k b && gD (k+1) s
def fo (s:Str):Bool:=!(s == []) && decide (s.length<=32) && gD 0 s
theorem oG:∀ {s:Str}{k i:Nat}{b:UInt8},s[i]?=some b->jk (k+i) b=false->gD k s=false
 | [],k,i,b,h,_=>by simp at h
 | c::s,k,0,b,h,a=>by
  simp at h;subst h;simp only [Qh] at a;simp [gD,a]
 | c::s,k,i+1,b,h,a=>by
  have:=oG (k:=k+1) (by simpa using h) (by rw [show k+1+i=k+(i+1) by omega];exact a);simp [gD,this]
theorem mF:∀ {s:Str}{k:Nat},(∀ i b,s[i]?=some b->jk (k+i) b=true)->gD k s=true
 | [],k,_=>rfl
 | c::s,k,h=>by
  have h0:=h 0 c am;simp only [Qh] at h0;have h1:=mF (s:=s) (k:=k+1) (fun i b a=>by
   have:=h (i+1) b (by simpa using a)
   rwa [show k+(i+1)=k+1+i by omega] at this)
  simp [gD,h0,h1]
/-! ### IsName -/
set_option maxRecDepth 100000 in
theorem gK (C:Mem)(s:Str)(B:s.length<1000000):Gives cx.P 105 [ai s] C (.bool (fo s)):=by
 refine Sc func105 57 U3 fun w0=>?_;refine C6 1 [0,2] Z ?_;refine R4 6 Z fun R a=>?_;refine SA U8 ?_;refine Sa [0,13] a Z ?_;refine G.cond Z (fun h=>?_) (fun h=>?_)
 ·refine C6 1 [2] Z ?_;refine Sb U2 ?_;refine ⟨?_,Z⟩;congr 1;simp only [PX,PV,Oz] at h;unfold fo;rcases h with h | h
  ·have:s=[]:=h;simp [this]
  have h2:¬ s.length<=32:=by omega
  simp [h2]
 simp only [PR,PN,OL] at h;have q:s≠[]:=h.1;have r:s.length<=32:=by have:=h.2;omega
 refine R4 1 Z fun R a=>?_;refine Uk Z Z Z Z Z Z Z Z Z Z (by simp only [maxLen];omega) fl_ (fun D _ _ g=>?_);have t:=g;obtain ⟨A,c,rfl,_⟩:=t;refine C4 2 [15,16,17] a Z ?_;refine G.loop (fun fr C' j m=>∃ k:Nat,k<=s.length/\(∀ i b,i<k->s[i]?=some b->jk (0+i) b=true)/\fr=[(15,[],.slice A (s.map fun b=>[Value.int .u8 b.toNat]).length c),(16,[],.int .i64 (s.map fun b=>[Value.int .u8 b.toNat]).length),(17,[],.int .i64 k)]/\j=[]/\m=s.length-k) (m:=s.length) (hn_ [15,16,17] Z) ⟨0,Ow _,fun i b u=>by omega,Z,Z,Z⟩ (fun fr C' j m l v=>?_);obtain ⟨k,E,n,rfl,rfl,rfl⟩:=v;refine C6 1 [15,16,17,18] Z ?_;refine G.cond Z (fun h=>?_) (fun h=>?_)
 ·simp only [al,Oz] at h;have w:k<s.length:=by omega
  obtain ⟨b,d⟩:∃ b,s[k]?=some b:=⟨s[k],ak w⟩;have x:=g.mono l;refine R4 1 Z fun R a=>?_;refine Sm x U10 om_ (row:=[.int .u8 b.toNat]) (by simp [d]) fl_ (fun F y=>?_);refine R5 y U8 ?_;refine C4 2 [3,4,15,16,17] a Z ?_;refine R4 5 Z fun R a=>?_;refine Sv U8 ?_;refine R9 6 Z ?_;refine Sv U8 ?_;refine SA U8 ?_;refine R7 U6 ?_;refine Ts [E_ 3 _,E_ 4 _,(5,[],.bool (oQ b)),E_ 15 _,E_ 16 _,E_ 17 _] a ?_;refine R4 5 Z fun R a=>?_;refine Sv U8 ?_;refine R9 3 Z ?_;refine SA U8 ?_;refine R7 U6 ?_;refine Ts [E_ 3 _,E_ 5 _,(6,[],.bool (vW b)),E_ 15 _,E_ 16 _,E_ 17 _] a ?_;refine R4 8 Z fun R a=>?_;refine SA U8 ?_;refine Sv U8 ?_;refine Ts [E_ 15 _,E_ 16 _,E_ 17 _,(55,[],.bool (!(oQ b) && (((k:Int) == 0) || !(vW b))))] a ?_;have o:(!(oQ b) && (((k:Int) == 0) || !(vW b)))=!(jk (0+k) b):=by
   have e:((k:Int) == 0)=(0+k == 0):=by
    rw [PJ];by_cases p:k=0
    ·subst p;rfl
    have:¬ (k:Int)=0:=by omega
    rw [PN.2 this,PN.2 p]
   unfold jk;rw [e];cases oQ b <;> cases vW b <;> cases (0+k == 0) <;> rfl
  refine G.cond Z (fun h=>?_) (fun h=>?_)
  ·rw [o] at h;refine C6 1 [2] Z ?_;refine Sb U2 ?_;refine ⟨?_,Z⟩;have:=oG (k:=0) d (by simpa using h);simp [fo,this]
  rw [o] at h;refine R8 fun R a=>?_;refine SH ((k+1:Nat):Int) U4 om_ om_ om_ U2 ?_;refine C4 1 [15,16,17] a Z ?_;refine Sj (m':=s.length-(k+1)) om_ l (hn_ [15,16,17] Z) ⟨k+1,by omega, ?_,Z,Z,Z⟩;intro i z u f;rcases OZ i k with h1 | h1
  ·exact n i z h1 f
  have:i=k:=by omega
  subst this;rw [d] at f;cases f
  simpa using h
 simp only [al,OL] at h;refine C6 1 [2] Z ?_;refine Sb U2 ?_;refine ⟨?_,Z⟩;have:=mF (s:=s) (k:=0) (fun i b d=>n i b (by have:=(aF.1 d).1;omega) d);simp [fo,this,q,r]
set_option maxRecDepth 100000
structure ArcE where
 lower:Str
 upper:Str
 deriving DecidableEq,Inhabited
theorem Ni (a b:Str):(a == b)=decide (a=b):=by by_cases h:a=b <;> simp [h]
set_option maxRecDepth 100000
def J1 (a b:Int):Int:=if a<b then -1 else if a=b then 0 else 1
/-! ### Comparisons -/
structure TotC {α:Type}(f:α->α->Int):Prop where
 eq:∀ x y,f x y=0 ↔ x=y
 sym:∀ x y,f x y<0 ↔ 0<f y x
 trans:∀ x y z,f x y<0->f y z<0->f x z<0
section
variable {α:Type} {f:α->α->Int}
variable [DecidableEq α]
def ins (f:α->α->Int)(x:α):List α->List α
 | []=>[x]
 | y::l=>if f y x<0 then y::ins f x l else if y=x then y::l else x::y::l
end
def jF (x:Int):List Value:=[.int .i64 x]
def aQ (i:Nat):List Value:=[.int .i64 i]
abbrev NI (b:Nat):Value:=.pointer (some ⟨b,0,none⟩)
abbrev LU (b:Nat)(q:Option Addr)(v:Value):Ent:=.obj b (.cells ⟨[.pointer q,v]⟩ 354 (0,0))
abbrev u8s (s:Str):List Value:=s.map fun c=>Value.int .u8 c.toNat
abbrev LV (v:Value)(s:Str):Ent:=.arr v 5 1 s.length (u8s s)
theorem rN (C:Mem)(b:Nat)(q:Option Addr)(v:Value)(g:q=none∨q=some ⟨b,0,none⟩):Jog.Fn cx.P 284 [NI b] C [LU b q v] fun _ _ d=>d=[LU b (some ⟨b,0,none⟩) v]:=by
 refine Sc func284 20 U3 fun w0=>Sp (L':=[.obj b (.cells ⟨[.pointer q,v]⟩ 354 (0,0))]) Z<|R4 3 Z fun R a=>Sd af U9<|Uv (e:=354) Z Z Z Z Z kr_ kr_ Z Z<|Sa [0,6] a Z<|R6 (fun c=>?_) fun c=>?_
 ·have h:q=none:=by simpa using c
  subst h;refine R4 2 Z fun R a=>Uj (t:=354) Z Z Z Z Z af kr_ kr_ kr_ am fl_<|Um (fn:=Tryz.f311) Z Z Z Z Z func311 kr_ kr_ kr_ kr_ fl_<|UA (t:=354) Z Z Z Z Z af kr_ kr_ kr_ kr_ fl_<|R9 2 Z<|Sf (j:=0) U12<|Ta [] trivial (a _ _ _ Z ?_);refine Td Z ?_;rfl
 have i:q=some ⟨b,0,none⟩:=by
  rcases g with rfl | rfl
  ·simp at c
  rfl
 subst i;refine R4 3 Z fun R a=>Sd af U9<|R7 U6<|UG (e:=354) Z Z Z Z Z Z kr_ kr_ Z Z<|Sa [19] a Z<|R6 (fun f=>?_) fun f=>?_
 ·cases f
 refine Td Z ?_;rfl
theorem uk (C:Mem)(b:Nat)(q:Option Addr)(v:Value)(s:Str)(c:UInt8)(i:q=none∨q=some ⟨b,0,none⟩)(m:s.length<=1000000000):Jog.Fn cx.P 253 [NI b,.int .u8 c.toNat] C [LU b q v,LV v s] fun _ _ a=>∃ h,a=[LU b (some ⟨b,0,none⟩) h,LV h (s++[c])]:=by
 refine Sc func253 17 U3 fun w0=>Sp (L':=[.obj b (.cells ⟨[.pointer q,v]⟩ 354 (0,0)),.arr v 5 1 s.length (u8s s)]) Z<|C6 1 [0,1] Z<|Sx [(1,3)] Z fun R d=>R7 U6<|D.call (rN _ b q v i) Z (.inr dc_) U6 (Ov _) fl_ fun n _ o _ k=>Sa [0,1] d Z ?_;subst k;refine Sp (L':=[.obj b (.cells ⟨[.pointer (some ⟨b,0,none⟩),v]⟩ 354 (0,0)),.arr v 5 1 s.length (u8s s)]) Z<|R4 4 Z fun R d=>Sd af U9<|R7 U6<|Sr [[.int .u8 c.toNat]] U12 fun p _ _ l=>SB (j:=1) U11 l Z aw (by simp only [aV];omega) fl_ fun e f g=>R9 2 Z<|Sf (j:=1) U12<|Ta [] trivial (d _ _ _ Z ?_);refine C6 1 [4] Z<|G.perm (L':=[.obj b (.cells ⟨[.pointer (some ⟨b,0,none⟩),.slice e f g]⟩ 354 (0,0)),.arr (.slice e f g) 5 1 (s.length+1) (u8s s++[Value.int .u8 c.toNat])]) (Ov _)<|Sh (SP Z Z ?_);exact ⟨.slice e f g,by simp [LV,u8s]⟩
theorem jI (C:Mem)(b:Nat)(q:Option Addr)(v:Value)(s t:Str)(e:q=none∨q=some ⟨b,0,none⟩)(g:s.length+t.length<=1000000000):Jog.Fn cx.P 256 [NI b,ai t] C [LU b q v,LV v s] fun _ _ a=>∃ d,a=[LU b (some ⟨b,0,none⟩) d,LV d (s++t)]:=by
 refine Sc func256 19 U3 fun w0=>Sp (L':=[.obj b (.cells ⟨[.pointer q,v]⟩ 354 (0,0)),.arr v 5 1 s.length (u8s s)]) Z<|C6 2 [0,1] Z<|Sx [(1,3)] Z fun R c=>R7 U6<|D.call (rN _ b q v e) Z (.inr dc_) U6 (Ov _) fl_ fun h _ i _ f=>Sa [0,1] c Z ?_;subst f;refine Sp (L':=[.obj b (.cells ⟨[.pointer (some ⟨b,0,none⟩),v]⟩ 354 (0,0)),.arr v 5 1 s.length (u8s s)]) Z<|R4 4 Z fun R c=>Sd af U9<|R7 U6<|UC (j:=1) Z Z Z Z Z Z Z Z Z Z Z Z Z Z Z om_ fl_ fun A2 n2 c2=>R9 2 Z<|Sf (j:=1) U12<|Sa [1] c Z<|C6 4 [4,5] Z<|G.perm (L':=[.obj b (.cells ⟨[.pointer (some ⟨b,0,none⟩),.slice A2 n2 c2]⟩ 354 (0,0)),.arr (.slice A2 n2 c2) 5 1 (s.length+t.length) (u8s s++t.map fun b=>Value.int .u8 b.toNat)]) (Ov _)<|Sh (Sy U3 ?_);exact ⟨.slice A2 n2 c2,by simp [LV,u8s]⟩
theorem CF (C:Mem)(b:Nat)(q:Option Addr)(v:Value)(s:Str)(a:s≠[])(g:s.length<=1000000000):Jog.Fn cx.P 257 [NI b] C [LU b q v,LV v s] fun u _ c=>u=ai s/\c=[]:=by
 refine Sc func257 14 U3 fun w0=>Sp (L':=[.obj b (.cells ⟨[.pointer q,v]⟩ 354 (0,0)),.arr v 5 1 s.length (u8s s)]) Z<|G.form ae (fun d h=>?_);have i:=O9.2 a;rcases d with ⟨h1,h2⟩ | ⟨g0,c0,rfl,k,l⟩
 ·omega
 exact C6 1 [0] Z<|Ss [0,1,2,3,4,5,6,7,8,9,10,11] [(4,0)] Z kr_ fun R m f=>R9 3 Z<|Sd af U9<|UE Z Z Z Z Z om_ Z Z<|R9 3 Z<|Sd af U9<|R7 U6<|UD (j:=1) (e:=5) Z Z Z Z kr_ kr_ Z Z Z a om_ fl_<|C4 1 [2] f Z<|Sb U2<|⟨Z,Z⟩
def bZ (x:Nat):List Value:=[.int .u64 x]
theorem eg (x:Nat):(bZ x).length=1:=rfl
def NineC (C:Mem)(v:Value)(n:Nat):Prop:=∃ l,wR l/\bq l=n/\Sl C 1 v (l.map bZ)
theorem NineC.mono {C D:Mem}{v:Value}{n:Nat}(h:NineC C v n)(a:C.le D):NineC D v n:=by
 obtain ⟨l,h1,h2,h3⟩:=h;exact ⟨l,h1,h2,h3.mono a⟩
theorem NineC.m_ {D:Mem}(h:NineC C v n)(a:C.le D:=by exact mup):NineC D v n:=NineC.mono h a
theorem yR (C:Mem)(v:Value)(l:List Nat)(d:Sl C 1 v (l.map bZ)):Pur cx.P 252 [v] C fun u C'=>Sl C' 1 u ((De l).map bZ):=by
 obtain ⟨o,c0,rfl,p,_⟩:=id d;simp only [al] at d p ⊢;refine Sc func252 21 U3 fun w0=>C6 1 [0] Z<|G.loop (fun fr C' q r=>∃ (k:Nat)(A:Option Addr)(c:Nat),(k<=l.length/\Sl C' 1 (.slice A k c) ((l.take k).map bZ)/\mg l l.length=mg l k)/\fr=[(0,[],.slice A k c)]/\q=[]/\r=k+1) (hn_ [0] Z) ⟨l.length,o,c0,⟨Oo _,by rw [OH];exact d,Z⟩,Z,Z,Z⟩ (fun fr F H m _ s=>?_);obtain ⟨k,A,c,⟨I,hs,g⟩,rfl,rfl,rfl⟩:=s;obtain ⟨_,J,t,w,_⟩:=id hs;have K:maxLen<=9223372036854775807:=by simp [maxLen]
 have L:k<=c:=by
  rw [al,OG] at w;injection t with h1 h2 h3;omega
 have x:0<k->((l.take k).map bZ)[((k:Int)-1).toNat]?=some (bZ (g9 l (k-1))):=fun h=>by
  rw [show ((k:Int)-1).toNat=k-1 by omega,Ou,O8,aI om_,ak (by omega:k-1<l.length)];unfold g9;rw [ax,ak (by omega:k-1<l.length)];rfl
 refine R4 7 Z fun R f=>Se _ U7<|D.index U10 (fun i=>⟨hs,(by have h:decide ((0:Int)<(k:Int))=true:=i.1;simp at h;omega),x (by have h:decide ((0:Int)<(k:Int))=true:=i.1;simp at h;omega)⟩) fl_ Z fun M y=>Sz U6 y U3<|R7 U6<|Sv U8<|Sa [0,14] f Z<|R6 (fun b=>?_) fun b=>?_
 ·have a:0<k/\g9 l (k-1)=0:=by
   have:(0:Int)<(k:Int)/\((g9 l (k-1):Nat):Int)=0:=by simpa using b
   omega
  refine R4 3 Z fun R f=>SH (((k-1:Nat):Int)) U4 om_ om_ om_ U2<|SX 0 (k-1) c U12 (fun _=>⟨.inl ⟨Z,Z⟩,.inr ⟨_,Z⟩,.inl ⟨Z,Z⟩,by omega,by omega,Oo _⟩) U2<|C4 1 [0] f Z ?_;have n:=Sl.sub hs (l:=0) (h:=k-1) (m:=c) (Ow _) ap om_ (Oo _);have z:(((l.take k).map bZ).take (k-1)).drop 0=(l.take (k-1)).map bZ:=by
   rw [Pz,<- Rb,Rq,PK om_]
  rw [z] at n;have B:mg l l.length=mg l (k-1):=by
   rw [g];obtain ⟨j,rfl⟩:∃ j,k=j+1:=⟨k-1,by omega⟩;simp only [Qw] at a ⊢;rw [mg,aI];unfold g9 at a;rw [ax,ak om_] at a;rw [ak om_];exact congrArg some a.2
  refine Sj (m':=k-1+1) om_ mup (hn_ [0] Z) ⟨k-1,_,c,⟨by omega,n.mono mup,B⟩,Z,Z,Z⟩
 have a:¬ (0<k/\g9 l (k-1)=0):=fun E=>by
  have h1:(decide ((0:Int)<(k:Int)) && (((g9 l (k-1):Nat):Int) == 0))=true:=by
   rw [E.2];simp;omega
  rw [h1] at b;cases b
 refine C6 2 [2] Z<|Sb U2<|⟨Z, ?_⟩;have e:mg l k=k:=by
  cases k with
  | zero=>rfl
  | succ j =>
   simp only [Qw] at a;rw [mg,aA];intro h;refine a ⟨by omega, ?_⟩;unfold g9;rw [ax,h];rfl
 unfold De;rw [g,e];exact hs
theorem fT (C:Mem)(v:Value)(l:List Nat)(a:l.length=n):Jog.Fn cx.P 252 [v] C [.arr v 160 1 n (l.map bZ).flatten] fun u C' b=>b=[]/\Sl C' 1 u ((De l).map bZ) :=
 Jog.Fn.give (l.map bZ) kr_ (by intro r hr;obtain ⟨y,_,rfl⟩:=OB.1 hr;rfl) (by rw [al,a]) (fun C' _ hs=>yR C' v l hs)
def ji (m n:Nat):Int:=if m<n then -1 else if n<m then 1 else 0
theorem iH :ji m n<0 ↔ m<n:=by unfold ji;split <;> (try split) <;> omega
theorem EC :0<ji m n ↔ n<m:=by unfold ji;split <;> (try split) <;> omega
theorem EB (C:Mem)(w z:Value)(a b:List Nat)(d:Sl C 1 w (a.map bZ))(f:Sl C 1 z (b.map bZ))(n:wR a)(o:wR b):Gives cx.P 217 [w,z] C (.int .i64 (ji (bq a) (bq b))):=by
 have Y:maxLen<=9223372036854775807:=by simp [maxLen]
 obtain ⟨F,c0,rfl,H,aa,_⟩:=id d;obtain ⟨I,J,rfl,K,ab,_⟩:=id f;simp only [al] at d f H K ⊢;refine Sc func217 41 U3 fun w0=>C6 1 [0,1] Z<|C6 5 [0,1,10] Z<|R6 (fun g=>?_) fun g=>?_
 ·have ac:a.length≠b.length:=fun e=>by
   rw [e] at g;simp at g
  refine C6 5 [15] Z<|R6 (fun p=>?_) fun p=>?_
  ·have q:a.length<b.length:=by
    have:(a.length:Int)<b.length:=by simpa using p
    omega
   exact C6 1 [4] Z<|Sb U2<|⟨by rw [show ji (bq a) (bq b)=-1 from aI (sZ n.1 o q)],Z⟩
  have q:b.length<a.length:=by
   have:¬ (a.length:Int)<b.length:=by simpa using p
   omega
  have r:=sZ o.1 n q;exact C6 1 [4] Z<|Sb U2<|⟨by rw [show ji (bq a) (bq b)=1 from by unfold ji;rw [aA om_,aI r]],Z⟩
 have s:a.length=b.length:=by
  have:(a.length:Int)=b.length:=by simpa using g
  omega
 refine R4 2 Z fun R c=>Se _ U7<|C4 1 [0,1,5] c Z<|G.loop (fun fr C' L M=>∃ (k:Nat),(k<=a.length/\a.drop k=b.drop k)/\fr=[(0,[],.slice F a.length c0),(1,[],.slice I b.length J),(5,[],.int .i64 ((k:Int)-1))]/\L=[]/\M=k+1) (hn_ [0,1,5] Z) ⟨a.length,⟨Oo _,by rw [Py,s,Py]⟩,Z,Z,Z⟩ (fun fr ad ae m _ N=>?_);obtain ⟨k,⟨hk,i⟩,rfl,rfl,rfl⟩:=N;refine C6 2 [0,1,5,20] Z<|R6 (fun t=>?_) fun t=>?_
 ·have A:0<k:=by
   have:(0:Int)<=(k:Int)-1:=by simpa using t
   omega
  obtain ⟨j,rfl⟩:∃ j,k=j+1:=⟨k-1,by omega⟩;obtain ⟨x,l⟩:∃ x,a[j]?=some x:=⟨a[j],ak om_⟩;obtain ⟨y,hy⟩:∃ y,b[j]?=some y:=⟨b[j],ak om_⟩;have B:(a.map bZ)[(((j+1:Nat):Int)-1).toNat]?=some (bZ x):=by
   rw [show (((j+1:Nat):Int)-1).toNat=j by omega,Ou,l];rfl
  have D:(b.map bZ)[(((j+1:Nat):Int)-1).toNat]?=some (bZ y):=by
   rw [show (((j+1:Nat):Int)-1).toNat=j by omega,Ou,hy];rfl
  refine Ss [0,1,2,3,4,5,6,7,8] [] Z kr_ fun R O c=>R9 2 Z<|Sm d.m_ U10 om_ B fl_ fun af Q=>R5 Q U8<|R9 2 Z<|Sm f.m_ U10 om_ D fl_ fun ag S=>R5 S U8<|C4 1 [0,1,5,31] c Z<|R6 (fun u=>?_) fun u=>?_
  ·have E:x≠y:=fun h=>by
    subst h;simp at u
   refine Ss [0,1,2,3,4,5,6,7,8] [] Z kr_ fun R O c=>R9 2 Z<|Sm d.m_ U10 om_ B fl_ fun ah T=>R5 T U8<|R9 2 Z<|Sm f.m_ U10 om_ D fl_ fun ai U=>R5 U U8<|C4 1 [40] c Z<|R6 (fun v=>?_) fun v=>?_
   ·have E:x<y:=by
     have:(x:Int)<y:=by simpa using v
     omega
    exact C6 1 [4] Z<|Sb U2<|⟨by rw [show ji (bq a) (bq b)=-1 from aI (J4 n.1 s l hy E i)],Z⟩
   have V:y<x:=by
    have:¬ (x:Int)<y:=by simpa using v
    omega
   have r:=J4 o.1 s.symm hy l V i.symm;exact C6 1 [4] Z<|Sb U2<|⟨by rw [show ji (bq a) (bq b)=1 from by unfold ji;rw [aA om_,aI r]],Z⟩
  have W:x=y:=by
   have:(x:Int)=y:=by simpa using u
   omega
  refine R4 1 Z fun R c=>Se _ U7<|C4 1 [0,1,5] c Z ?_;rw [show ((j+1:Nat):Int)-1-1=(j:Int)-1 by omega];refine Sj (m':=j+1) om_ mup (hn_ [0,1,5] Z) ⟨j,⟨by omega,by
   rw [OW (by omega:j<a.length),OW (by omega:j<b.length),i,(aF.1 l).2,(aF.1 hy).2,W]⟩,rfl,rfl,rfl⟩
 have A:k=0:=by
  have:¬ (0:Int)<=(k:Int)-1:=by simpa using t
  omega
 subst A;refine C6 1 [4] Z<|Sb U2 ?_;have X:a=b:=by simpa using i
 subst X;exact ⟨by rw [show ji (bq a) (bq a)=0 from by unfold ji;rw [aA om_,aA om_]],Z⟩
theorem vN (h:i<l.length):l[i]?=some (g9 l i):=by rw [ak h,xE (ak h)]
theorem iQ (h:i<l.length):(l.map bZ)[i]?=some (bZ (g9 l i)):=by rw [Ou,vN h];rfl
theorem JR (h:l.length<=i):g9 l i=0:=by
 unfold g9;rw [ax,OD h];rfl
theorem B9v:B9=1000000000:=rfl
theorem KQ (C:Mem)(z E:Value)(a b:List Nat)(p:Sl C 1 z (a.map bZ))(q:Sl C 1 E (b.map bZ))(F:Dig9 a)(H:Dig9 b)(N:a.length<=10000000)(O:b.length<=10000000) :
  Pur cx.P 215 [z,E] C fun u C'=>NineC C' u (bq a+bq b):=by
 obtain ⟨A0,c0,rfl,_⟩:=id p;obtain ⟨B0,d0,rfl,_⟩:=id q;simp only [al] at p q ⊢;have hB:=B9v;refine Sc func215 53 U3 fun w0=>C6 1 [0,1] Z<|C6 5 [0,1,13] Z<|G.cut (fun fr C' k l=>∃ (e lb:List Nat)(A:Option Addr)(c:Nat)(B:Option Addr)(d:Nat),(Sl C' 1 (.slice A e.length c) (e.map bZ)/\Sl C' 1 (.slice B lb.length d) (lb.map bZ)/\lb.length<=e.length/\bq e+bq lb=bq a+bq b/\Dig9 e/\Dig9 lb/\e.length<=10000000)/\fr=[(0,[],.slice A e.length c),(1,[],.slice B lb.length d)]/\k=[]) ?_ (fun fr _ ai l _ o=>?_)
 ·refine R6 (fun s=>?_) fun s=>?_
  ·have Q:a.length<b.length:=by
    have:(a.length:Int)<b.length:=by simpa using s
    omega
   refine C6 4 [0,1] Z<|Si 0 (Mem.le.refl _) (hn_ [0,1] Z) ⟨b,a,_,_,_,_,⟨q.mono mup,p.mono mup,by omega,by omega,H,F,O⟩,Z,Z⟩
  have Q:¬ a.length<b.length:=fun h=>by
   have:(a.length:Int)<b.length:=by omega
   simp [this] at s
  refine Si 0 (Mem.le.refl _) (hn_ [0,1] Z) ⟨a,b,_,_,_,_,⟨p.mono mup,q.mono mup,by omega,Z,F,H,N⟩,Z,Z⟩
 obtain ⟨e ,lb ,A ,c ,B ,d,⟨S,T,U,V,W,X,aj⟩,rfl,rfl⟩:=o;refine R4 2 Z fun R g=>Se _ U7<|S3 U9 (Ow _) (by show 8*(e.length+1)<=281474976710656;omega) (by simp only [maxLen];omega) fl_ fun ak=>C4 1 [0,1,5] g Z<|C6 1 [0,1,5,6] Z<|C6 3 [1,5,6,20,21,22] Z<|G.loop (fun fr C' k l=>∃ (i:Nat)(out:List Nat)(f:Nat)(w:Value),(i<=e.length/\out.length=i/\Dig9 out/\f<=1/\bq out+B9 ^ i*f=bq (e.take i)+bq (lb.take i))/\fr=[(1,[],.slice B lb.length d),(5,[],w),(6,[],.int .u64 f),(20,[],.slice A e.length c),(21,[],.int .i64 e.length),(22,[],.int .i64 i)]/\k=[.arr w 160 1 i (out.map bZ).flatten]/\l=e.length-i) (hn_ [1,5,6,20,21,22] Z) ⟨0,[],0,_,⟨Ow _,Z,(fun x Y=>(by cases Y)),by omega,Z⟩,Z,Z,Z⟩ (fun fr am an m _ o=>?_);obtain ⟨i,out,f,w,⟨hi,r,I,J,K⟩,rfl,rfl,rfl⟩:=o;refine C6 1 [1,5,6,20,21,22,23] Z<|R6 (fun t=>?_) fun t=>?_
 ·have v:i<e.length:=by simpa using t
  have aa:=kc W i;have ab:=kc X i;refine R4 1 Z fun R g=>Sm S.m_ U10 om_ (iQ (i:=i) v) fl_ fun ao ac=>R5 ac U8<|C4 2 [1,5,6,7,8,20,21,22] g Z<|R4 2 Z fun R g=>D.int (((f+g9 e i:Nat):Int)) U4 (by rw [IntKind.wrap_u64];omega) U2<|C4 1 [1,5,6,7,20,21,22] g Z<|C6 4 [1,5,6,7,20,21,22,33] Z<|G.cut (fun fr C' k l=>(True)/\fr=[(1,[],.slice B lb.length d),(5,[],w),(6,[],.int .u64 ((f+g9 e i+g9 lb i:Nat):Int)),(20,[],.slice A e.length c),(21,[],.int .i64 e.length),(22,[],.int .i64 i)]/\k=[.arr w 160 1 i (out.map bZ).flatten]) ?_ (fun fr _ ap l _ o=>?_)
  ·refine R6 (fun y=>?_) fun y=>?_
   ·have ad:i<lb.length:=by simpa using y
    refine R4 3 Z fun R g=>Sm T.m_ U10 om_ (iQ (i:=i) ad) fl_ fun aq ae=>R5 ae U8<|D.int (((f+g9 e i+g9 lb i:Nat):Int)) U4 (by rw [IntKind.wrap_u64];omega) U2<|C4 1 [1,5,6,20,21,22] g Z<|Si 0 (Mem.le.refl _) (hn_ [1,5,6,20,21,22] Z) ⟨trivial,Z,Z⟩
   have hz:g9 lb i=0:=JR (by have h:¬ i<lb.length:=(by simpa using y);omega);refine Si 0 (Mem.le.refl _) (hn_ [1,5,6,20,21,22] Z) ⟨trivial,by rw [hz];rfl,Z⟩
  obtain ⟨ar,rfl,rfl⟩:=o;refine R4 2 Z fun R g=>SZ (f+g9 e i+g9 lb i) (B9) U6 om_ U2<|Sr [bZ ((f+g9 e i+g9 lb i) % B9)] U12 fun au _ _ af=>D.append (j:=0) U11 af Z aw (by show (i+1)*8<=_;omega) fl_ fun L=>C4 1 [1,5,6,20,21,22] g Z<|R4 1 Z fun R g=>S9 (f+g9 e i+g9 lb i) (B9) U6 om_ (.inr ⟨Z,by omega⟩) U2<|C4 1 [1,5,6,20,21,22] g Z<|R8 fun R g=>Se _ U7<|C4 1 [1,5,6,20,21,22] g Z ?_;have M:f+g9 e i+g9 lb i=g9 e i+g9 lb i+f:=by omega
  refine Sp (L':=[.arr L 160 1 (i+1) ((out++[(g9 e i+g9 lb i+f) % B9]).map bZ).flatten]) (by rw [M];simp [bZ]) ?_;rw [M];refine Sj (m':=e.length-(i+1)) om_ mup (hn_ [1,5,6,20,21,22] Z) ⟨i+1,out++[(g9 e i+g9 lb i+f) % B9],(g9 e i+g9 lb i+f) / B9,L,⟨by omega,by simp [r],I.snoc (Pd _ dc_),Ge aa ab J,Gq r K⟩,Z,Z,Z⟩
 have v:i=e.length:=by
  have:¬ i<e.length:=by simpa using t
  omega
 refine Sx [(4,3)] Z fun R g=>R9 2 Z<|Sr [bZ f] U12 fun av _ _ ag=>D.append (j:=0) U11 ag Z aw (by show (i+1)*8<=_;omega) fl_ fun ax=>D.call (fT _ _ (out++[f]) (n:=i+1) (by simp [r])) Z (.inr dc_) U6 (by rw [O7,Pg];exact Ov _) fl_ (fun ay _ az _ ah=>?_);obtain ⟨rfl,hu⟩:=ah;refine C4 1 [4] g Z<|Sb U2<|⟨Z,De (out++[f]),gW (I.snoc (Pk J dc_)), ?_,hu⟩;rw [gV,iy,r,K,v,OH,Pa U,V]
theorem H4 (C:Mem)(F H:Value)(a b:List Nat)(p:Sl C 1 F (a.map bZ))(q:Sl C 1 H (b.map bZ))(K:Dig9 a)(I:Dig9 b)(ab:a.length<=10000000)(L:b.length<=a.length)(ac:bq b<=bq a) :
  Pur cx.P 218 [F,H] C fun u C'=>NineC C' u (bq a-bq b):=by
 obtain ⟨r,c0,rfl,_⟩:=id p;obtain ⟨s,t,rfl,_⟩:=id q;simp only [al] at p q ⊢;have M:=B9v;refine Sc func218 45 U3 fun w0=>C6 1 [0,1] Z<|R4 2 Z fun R d=>S3 U9 (Ow _) (by show 8*a.length<=281474976710656;omega) (by simp only [maxLen];omega) fl_ fun ad=>C4 1 [0,1,5] d Z<|C6 1 [0,1,5,6] Z<|C6 3 [1,5,6,13,14,15] Z<|G.loop (fun fr C' e f=>∃ (i:Nat)(out:List Nat)(c:Nat)(w:Value),(i<=a.length/\out.length=i/\Dig9 out/\c<=1/\bq out+bq (b.take i)=bq (a.take i)+B9 ^ i*c)/\fr=[(1,[],.slice s b.length t),(5,[],w),(6,[],.int .u64 c),(13,[],.slice r a.length c0),(14,[],.int .i64 a.length),(15,[],.int .i64 i)]/\e=[.arr w 160 1 i (out.map bZ).flatten]/\f=a.length-i) (hn_ [1,5,6,13,14,15] Z) ⟨0,[],0,_,⟨Ow _,Z,(fun x N=>(by cases N)),by omega,Z⟩,Z,Z,Z⟩ (fun fr ae af m _ g=>?_);obtain ⟨i,out,c,w,⟨hi,k,v,y,l⟩,rfl,rfl,rfl⟩:=g;refine C6 1 [1,5,6,13,14,15,16] Z<|R6 (fun z=>?_) fun z=>?_
 ·have o:i<a.length:=by simpa using z
  have O:=kc K i;have Q:=kc I i;refine R4 1 Z fun R d=>Sm p.m_ U10 om_ (iQ (i:=i) o) fl_ fun ag S=>R5 S U8<|C4 2 [1,5,6,7,8,13,14,15] d Z<|C6 2 [1,5,7,8,9,13,14,15] Z<|C6 4 [1,5,7,8,9,13,14,15,24] Z<|G.cut (fun fr C' e f=>(True)/\fr=[(1,[],.slice s b.length t),(5,[],w),(8,[],.int .u64 (g9 a i)),(9,[],.int .u64 ((c+g9 b i:Nat):Int)),(13,[],.slice r a.length c0),(14,[],.int .i64 a.length),(15,[],.int .i64 i)]/\e=[.arr w 160 1 i (out.map bZ).flatten]) ?_ (fun fr _ ah f _ g=>?_)
  ·refine R6 (fun A=>?_) fun A=>?_
   ·have T:i<b.length:=by simpa using A
    refine R4 3 Z fun R d=>Sm q.m_ U10 om_ (iQ (i:=i) T) fl_ fun ai U=>R5 U U8<|D.int (((c+g9 b i:Nat):Int)) U4 (by rw [IntKind.wrap_u64];omega) U2<|C4 1 [1,5,8,9,13,14,15] d Z<|Si 0 (Mem.le.refl _) (hn_ [1,5,8,9,13,14,15] Z) ⟨trivial,Z,Z⟩
   have V:g9 b i=0:=JR (by have h:¬ i<b.length:=(by simpa using A);omega);refine Si 0 (Mem.le.refl _) (hn_ [1,5,8,9,13,14,15] Z) ⟨trivial,by rw [V];rfl,Z⟩
  obtain ⟨aj,rfl,rfl⟩:=g;refine C6 1 [1,5,6,8,9,13,14,15] Z<|C6 3 [1,5,6,8,9,13,14,15,33] Z<|G.cut (fun fr C' e f=>(True)/\fr=[(1,[],.slice s b.length t),(5,[],w),(6,[],.int .u64 ((ui (g9 a i) (g9 b i) c:Nat):Int)),(8,[],.int .u64 ((g9 a i+B9*ui (g9 a i) (g9 b i) c:Nat):Int)),(9,[],.int .u64 ((c+g9 b i:Nat):Int)),(13,[],.slice r a.length c0),(14,[],.int .i64 a.length),(15,[],.int .i64 i)]/\e=[.arr w 160 1 i (out.map bZ).flatten]) ?_ (fun fr _ ak f _ g=>?_)
  ·refine R6 (fun B=>?_) fun B=>?_
   ·have E:ui (g9 a i) (g9 b i) c=1:=by
     have:(g9 a i:Int)<((c+g9 b i:Nat):Int):=by simpa using B
     unfold ui;rw [aI om_]
    refine R4 1 Z fun R d=>D.int (((g9 a i+B9*1:Nat):Int)) U4 (by rw [IntKind.wrap_u64];omega) U2<|C4 2 [1,5,6,8,9,13,14,15] d Z<|Si 0 (Mem.le.refl _) (hn_ [1,5,6,8,9,13,14,15] Z) ⟨trivial,by rw [E];rfl,Z⟩
   have E:ui (g9 a i) (g9 b i) c=0:=by
    have:¬ (g9 a i:Int)<((c+g9 b i:Nat):Int):=by simpa using B
    unfold ui;rw [aA om_]
   refine Si 0 (Mem.le.refl _) (hn_ [1,5,6,8,9,13,14,15] Z) ⟨trivial,by rw [E];rfl,Z⟩
  obtain ⟨am,rfl,rfl⟩:=g;refine R4 3 Z fun R d=>?_;have an:ui (g9 a i) (g9 b i) c<=1:=Gh _ _ _;have W:c+g9 b i<=g9 a i+B9*ui (g9 a i) (g9 b i) c:=by
   unfold ui;split <;> omega
  refine D.int (((FP (g9 a i) (g9 b i) c:Nat):Int)) U4 (by rw [IntKind.wrap_u64];unfold FP;rw [M] at W ⊢;omega) U2<|Sr [bZ (FP (g9 a i) (g9 b i) c)] U12 fun ao _ _ X=>D.append (j:=0) U11 X Z aw (by show (i+1)*8<=_;omega) fl_ fun J=>C4 1 [1,5,6,13,14,15] d Z<|R8 fun R d=>Se _ U7<|C4 1 [1,5,6,13,14,15] d Z<|Sp (L':=[.arr J 160 1 (i+1) ((out++[FP (g9 a i) (g9 b i) c]).map bZ).flatten]) (by simp [bZ])<|Sj (m':=a.length-(i+1)) om_ mup (hn_ [1,5,6,13,14,15] Z) ⟨i+1,out++[FP (g9 a i) (g9 b i) c],ui (g9 a i) (g9 b i) c,J,⟨by omega,by simp [k],v.snoc (LB O Q y),Gh _ _ _,DG I y k l⟩,Z,Z,Z⟩
 have o:i=a.length:=by
  have:¬ i<a.length:=by simpa using z
  omega
 refine Sx [(1,3)] Z fun R d=>R7 U6<|D.call (fT _ _ out (n:=i) k) Z (.inr dc_) U6 (Ov _) fl_ (fun ap _ aq _ Y=>?_);obtain ⟨rfl,hu⟩:=Y;refine C4 1 [4] d Z<|Sb U2<|⟨Z,De out,gW v, ?_,hu⟩;rw [o,OH,Pa L] at l;have h0:=iz v;rw [k,o] at h0;have aa:c=0:=by
  rcases Nat.le_one_iff_eq_zero_or_eq_one.1 y with h | h
  ·exact h
  rw [h,Qi] at l;omega
 rw [aa,Nat.mul_zero] at l;rw [gV];omega
abbrev qU (g c n:Nat):Value:=.slice (some ⟨g,0,none⟩) n c
theorem Dg (n:Nat):jH ([.int .u64 0]:List Value) n=((List.replicate n 0).map bZ).flatten:=by
 rw [dQ,Ro];rfl
theorem oY {j z:Nat}(h:i≠j):g9 (l.set i z) j=g9 l j:=by
 unfold g9;rw [ax,ax,RL h]
theorem Ai (n j:Nat):g9 (List.replicate n 0) j=0:=by
 unfold g9;rw [ax,Qr];split <;> rfl
theorem G1 (C:Mem)(S T:Value)(a b:List Nat)(v:Sl C 1 S (a.map bZ))(w:Sl C 1 T (b.map bZ))(ag:Dig9 a)(ai:Dig9 b)(av:a.length<=1000000)(aw:b.length<=1000000) :
  Pur cx.P 219 [S,T] C fun u C'=>NineC C' u (bq a*bq b):=by
 obtain ⟨y,c0,rfl,_⟩:=id v;obtain ⟨s,t,rfl,_⟩:=id w;simp only [al] at v w ⊢;have hB:=B9v;obtain ⟨N,hN⟩:∃ N,a.length+b.length+1=N:=⟨_,rfl⟩;refine Sc func219 79 U3 fun w0=>C6 1 [0,1] Z<|R4 4 Z fun R d=>SH (((a.length+b.length:Nat):Int)) U4 om_ om_ om_ U2<|SH (((N:Nat):Int)) U4 om_ om_ om_ U2<|S3 U9 (Oo _) (by show 8*N<=281474976710656;omega) (by simp only [maxLen];omega) fl_ fun f=>C4 1 [0,1,5] d Z<|C6 3 [1,5,19,20,21] Z<|Sp (L':=[.arr (qU f N N) 160 1 N ((List.replicate N 0).map bZ).flatten]) (by rw [<- Dg];rfl)<|G.loop (fun fr C' g n=>∃ (i:Nat)(o:List Nat),(i<=a.length/\o.length=N/\Dig9 o/\bq o=bq (a.take i)*bq b/\∀ j,i+b.length<=j->g9 o j=0)/\fr=[(1,[],.slice s b.length t),(5,[],qU f N N),(19,[],.slice y a.length c0),(20,[],.int .i64 a.length),(21,[],.int .i64 i)]/\g=[.arr (qU f N N) 160 1 N (o.map bZ).flatten]/\n=a.length-i) (hn_ [1,5,19,20,21] Z) ⟨0,List.replicate N 0,⟨Ow _,P1,(fun x l=>by rw [Qo l];decide),by rw [qF (fun x l=>Qo l)];simp [bq],fun j _=>Ai _ j⟩,Z,Z,Z⟩ (fun fr ax ay m _ p=>?_);obtain ⟨i,o,⟨hi,U,V,W,hz⟩,rfl,rfl,rfl⟩:=p;refine C6 1 [1,5,19,20,21,22] Z<|R6 (fun A=>?_) fun A=>?_
 ·have B:i<a.length:=by simpa using A
  have l:=kc ag i;refine R4 1 Z fun R d=>Sm v.m_ U10 om_ (iQ (i:=i) B) fl_ fun az aj=>R5 aj U8<|C4 2 [1,5,6,7,19,20,21] d Z<|C6 1 [1,5,6,7,8,19,20,21] Z<|C6 3 [1,5,6,7,8,19,20,21,26,27,28] Z<|G.loop (fun fr C' g n=>∃ (k:Nat)(q:List Nat)(c:Nat),(k<=b.length/\q.length=N/\Dig9 q/\c<B9/\bq q+B9 ^ (i+k)*c=bq o+B9 ^ i*(g9 a i*bq (b.take k))/\∀ j,i+b.length<=j->g9 q j=0)/\fr=[(1,[],.slice s b.length t),(5,[],qU f N N),(6,[],.int .i64 i),(7,[],.int .u64 (g9 a i)),(8,[],.int .u64 c),(19,[],.slice y a.length c0),(20,[],.int .i64 a.length),(21,[],.int .i64 i),(26,[],.slice s b.length t),(27,[],.int .i64 b.length),(28,[],.int .i64 k)]/\g=[.arr (qU f N N) 160 1 N (q.map bZ).flatten]/\n=b.length-k) (hn_ [1,5,6,7,8,19,20,21,26,27,28] Z) ⟨0,o,0,⟨Ow _,U,V,by decide,by simp [bq],hz⟩,Z,Z,Z⟩ (fun fr aA aB m _ p=>?_);obtain ⟨k,q,c,⟨hk,E,F,H,I,J⟩,rfl,rfl,rfl⟩:=p;refine C6 1 [1,5,6,7,8,19,20,21,26,27,28,29] Z<|R6 (fun K=>?_) fun K=>?_
  ·have L:k<b.length:=by simpa using K
   have hy:=kc ai k;have X:=kc F (i+k);have Y:q[i+k]?=some (g9 q (i+k)):=vN om_;have ak:=rj H l hy X;rw [show B9*B9=1000000000000000000 from rfl] at ak;refine R4 1 Z fun R d=>Sm w.m_ U10 om_ (iQ (i:=k) L) fl_ fun aC am=>R5 am U8<|C4 2 [1,5,6,7,8,9,10,19,20,21,26,27,28] d Z<|R4 4 Z fun R d=>SH (((i+k:Nat):Int)) U4 om_ om_ om_ U2<|SC ((i+k)*1) U10 ah U2<|SS af U6 (fun _=>(by rw [ec eg Y];rfl)) U2<|R9 2 Z<|D.int (((g9 a i*g9 b k:Nat):Int)) U4 (by rw [<- Pj,IntKind.wrap_u64];omega) U2<|D.int (((g9 q (i+k)+g9 a i*g9 b k:Nat):Int)) U4 (by rw [IntKind.wrap_u64];omega) U2<|D.int (((c+g9 a i*g9 b k+g9 q (i+k):Nat):Int)) U4 (by rw [IntKind.wrap_u64];omega) U2<|C4 1 [1,5,6,7,8,9,19,20,21,26,27,28] d Z<|R4 3 Z fun R d=>SH (((i+k:Nat):Int)) U4 om_ om_ om_ U2<|R7 U6<|SZ (c+g9 a i*g9 b k+g9 q (i+k)) (B9) U6 om_ U2<|SC ((i+k)*1) U10 ah U2<|SG (j:=0) U11 (by show (i+k)*1+1<=_;rw [bQ eg,E];omega)<|Sa [1,5,6,7,8,19,20,21,26,27,28] d Z<|R4 1 Z fun R d=>S9 (c+g9 a i*g9 b k+g9 q (i+k)) (B9) U6 om_ (.inr ⟨Z,by omega⟩) U2<|C4 1 [1,5,6,7,8,19,20,21,26,27,28] d Z<|R8 fun R d=>Se _ U7<|C4 1 [1,5,6,7,8,19,20,21,26,27,28] d Z<|Sp (L':=[.arr (qU f N N) 160 1 N ((q.set (i+k) ((c+g9 a i*g9 b k+g9 q (i+k)) % B9)).map bZ).flatten]) (by rw [<- bJ eg _ (by omega:i+k<q.length)];rfl)<|Sj (m':=b.length-(k+1)) om_ mup (hn_ [1,5,6,7,8,19,20,21,26,27,28] Z) ⟨k+1,q.set (i+k) ((c+g9 a i*g9 b k+g9 q (i+k)) % B9),(c+g9 a i*g9 b k+g9 q (i+k)) / B9,⟨by omega,by simp [E],F.set (Pd _ dc_),Gd H l hy X,EM Y Z I,fun j r=>by rw [oY om_];exact J j r⟩,Z,Z,Z⟩
  have L:k=b.length:=by
   have:¬ k<b.length:=by simpa using K
   omega
  refine R4 3 Z fun R d=>SH (((i+b.length:Nat):Int)) U4 om_ om_ om_ U2<|C4 1 [1,5,8,11,19,20,21] d Z<|G.loop (fun fr C' g n=>∃ (m:Nat)(e:List Nat)(c2:Nat),(i+b.length<=m/\m<=i+b.length+1/\e.length=N/\Dig9 e/\c2<B9/\(m=i+b.length+1->c2=0)/\(m=i+b.length->g9 e m=0)/\bq e+B9 ^ m*c2=bq o+B9 ^ i*(g9 a i*bq b)/\∀ j,i+b.length+1<=j->g9 e j=0)/\fr=[(1,[],.slice s b.length t),(5,[],qU f N N),(8,[],.int .u64 c2),(11,[],.int .i64 m),(19,[],.slice y a.length c0),(20,[],.int .i64 a.length),(21,[],.int .i64 i)]/\g=[.arr (qU f N N) 160 1 N (e.map bZ).flatten]/\n=2-(m-(i+b.length))) (hn_ [1,5,8,11,19,20,21] Z) ⟨i+b.length,q,c,⟨Oo _,by omega,E,F,H,fun h=>by omega,fun _=>J _ (Oo _),by rw [L,OH] at I;exact I,fun j r=>J j om_⟩,Z,Z,Z⟩ (fun fr aD aE m _ p=>?_);obtain ⟨m,e,c2,⟨aF,aG,M,aa,O,an,ao,ab,ac⟩,rfl,rfl,rfl⟩:=p;refine C6 2 [1,5,8,11,19,20,21,60] Z<|R6 (fun h60=>?_) fun h60=>?_
  ·have ad:0<c2:=by
    have:(0:Int)<(c2:Int):=by simpa using h60
    omega
   have ap:m=i+b.length:=by
    rcases OZ m (i+b.length+1) with h | h
    ·omega
    have:=an om_;omega
   have Q:=ao ap;have ae:e[m]?=some (g9 e m):=vN om_;refine R4 3 Z fun R d=>SC (m*1) U10 ah U2<|SS af U6 (fun _=>(by rw [ec eg ae];rfl)) U2<|D.int (((c2+g9 e m:Nat):Int)) U4 (by rw [IntKind.wrap_u64];omega) U2<|C4 1 [1,5,8,11,19,20,21] d Z<|R4 3 Z fun R d=>SZ (c2+g9 e m) (B9) U6 om_ U2<|SC (m*1) U10 ah U2<|SG (j:=0) U11 (by show m*1+1<=_;rw [bQ eg,M];omega)<|Sa [1,5,8,11,19,20,21] d Z<|R4 1 Z fun R d=>S9 (c2+g9 e m) (B9) U6 om_ (.inr ⟨Z,by omega⟩) U2<|C4 1 [1,5,8,11,19,20,21] d Z<|R4 1 Z fun R d=>Se _ U7<|C4 1 [1,5,8,11,19,20,21] d Z ?_;have aq:(c2+g9 e m) % B9=c2:=by rw [Q,Qh];exact QU O
   have ar:(c2+g9 e m) / B9=0:=by rw [Q,Qh];exact QG O
   refine Sp (L':=[.arr (qU f N N) 160 1 N ((e.set m c2).map bZ).flatten]) (by rw [aq,<- bJ eg _ (by omega:m<e.length)];rfl) ?_;rw [ar];refine Sj (m':=2-(m+1-(i+b.length))) om_ mup (hn_ [1,5,8,11,19,20,21] Z) ⟨m+1,e.set m c2,0,⟨by omega,by omega,by simp [M],aa.set O,by decide,fun _=>rfl,fun h=>by omega,by
    have h1:=so (z:=c2) ae;rw [Q] at h1;omega,fun j r=>by rw [oY om_];exact ac j r⟩,rfl,rfl,rfl⟩
  have ad:c2=0:=by
   have:¬ (0:Int)<(c2:Int):=by simpa using h60
   omega
  refine R8 fun R d=>Se _ U7<|C4 1 [1,5,19,20,21] d Z<|Sj (m':=a.length-(i+1)) om_ mup (hn_ [1,5,19,20,21] Z) ⟨i+1,e,⟨by omega,M,aa,by
   rw [ad,Nat.mul_zero,Qh] at ab;rw [lJ,P9,<- W,QD];exact ab,fun j r=>ac j om_⟩,Z,Z,Z⟩
 have B:i=a.length:=by
  have:¬ i<a.length:=by simpa using A
  omega
 refine Sx [(1,3)] Z fun R d=>R7 U6<|D.call (fT _ _ o U) Z (.inr dc_) U6 (Ov _) fl_ (fun aH _ aI _ au=>?_);obtain ⟨rfl,hu⟩:=au;refine C4 1 [4] d Z<|Sb U2<|⟨Z,De o,gW V, ?_,hu⟩;rw [gV,W,B,OH]
theorem rR (h:wR l)(a:bq l<B9 ^ m):l.length<=m:=by
 rcases OZ m l.length with h1 | h1
 ·have h2:=tS h om_;have h3:B9 ^ m<=B9 ^ (l.length-1):=OO dc_ om_;omega
 exact h1
theorem NineC.get (h:NineC C v n)(a:n<B9 ^ m):∃ l,wR l/\bq l=n/\l.length<=m/\Sl C 1 v (l.map bZ):=by
 obtain ⟨l,h1,h2,h3⟩:=h;exact ⟨l,h1,h2,rR h1 (by rw [h2];exact a),h3⟩
theorem NineC.zero (C:Mem):NineC C (.slice none 0 0) 0:=⟨[],⟨(fun x a=>(by cases a)),by simp⟩,rfl,Sl.nil C 1⟩
theorem NineC.form (h:NineC C v n):∃ A m c,v=.slice A m c:=by
 obtain ⟨l,_,_,A,c,h,_⟩:=h;exact ⟨A,_,c,h⟩
theorem df (h:m<B9 ^ n)(a:n<=k):m<B9 ^ k:=PD h (OO dc_ a)
theorem oD (C:Mem)(c:NineC C u m)(d:NineC C v n):Gives cx.P 217 [u,v] C (.int .i64 (ji m n)):=by
 obtain ⟨a,h1,h2,h3⟩:=c;obtain ⟨b,h4,h5,e⟩:=d;rw [<- h2,<- h5];exact EB C u v a b h3 e h1 h4
theorem JF (C:Mem)(c:NineC C u m)(d:NineC C v n)(e:m<B9 ^ k)(f:n<B9 ^ k)(i:k<=1000000):Pur cx.P 215 [u,v] C fun w D=>NineC D w (m+n):=by
 obtain ⟨a,h1,h2,h3,h4⟩:=c.get e;obtain ⟨b,h5,g,j,h⟩:=d.get f;rw [<- h2,<- g];exact KQ C u v a b h4 h h1.1 h5.1 om_ om_
theorem sX (C:Mem)(c:NineC C u m)(d:NineC C v n)(e:m<B9 ^ k)(i:n<=m)(j:k<=1000000):Pur cx.P 218 [u,v] C fun w D=>NineC D w (m-n):=by
 obtain ⟨a,h1,h2,h3,h4⟩:=c.get e;obtain ⟨b,h5,f,g⟩:=d;rw [<- h2,<- f];refine H4 C u v a b h4 g h1.1 h5.1 om_ ?_ om_;rcases OZ a.length b.length with h | h
 ·have:=sZ h1.1 h5 h;omega
 exact h
theorem Dy (C:Mem)(c:NineC C u m)(d:NineC C v n)(e:m<B9 ^ k)(f:n<B9 ^ k)(i:k<=1000000):Pur cx.P 219 [u,v] C fun w D=>NineC D w (m*n):=by
 obtain ⟨a,h1,h2,h3,h4⟩:=c.get e;obtain ⟨b,h5,g,j,h⟩:=d.get f;rw [<- h2,<- g];exact G1 C u v a b h4 h h1.1 h5.1 om_ om_
theorem uB (C:Mem)(a:Dig9 l)(b:Sl C 1 u (l.map bZ)):Pur cx.P 252 [u] C fun w D=>NineC D w (bq l) :=
 (yR C u l b).mono fun _c _d _e _ ⟨h1,h2⟩=>⟨h1,De l,gW a,gV l,h2⟩
theorem xe (C:Mem){d:Nat}(a:NineC C u m)(f:m<B9 ^ k)(g:d<B9)(p:k<=999999):Pur cx.P 279 [u,.int .u64 d] C fun w D=>NineC D w (m*d):=by
 obtain ⟨A,n,c,rfl⟩:=a.form;refine Sc func279 10 U3 fun w0=>C6 1 [0,1] Z<|R4 2 Z fun R h=>Sr [bZ d] U12 fun q _ _ i=>SD (uB _ (l:=[d]) (fun x j=>by rw [OP.1 j];exact g) i) U7 fl_ fun r _ _ o=>SD (Dy (k:=k+1) _ a.m_ o (df f om_) (by show d+B9*0<_;rw [PE];have:0<B9 ^ k:=QI dc_;have h2:=Po B9 this;omega) om_) U7 fl_ fun s _ _ b=>C4 1 [4] h Z<|Sb U2<|⟨Z, ?_⟩;have e:bq [d]=d:=by show d+B9*0=d;omega
 rw [e] at b;exact b
open Go Go.Jog Go.RowKit Go.Shelf
attribute [local go_sem] Oper.semAt_some
set_option maxRecDepth 100000 in
theorem I4 (l Bs b off len cap:Nat)(zs:Nat->Int)(hlen:len<1000000)(J:Nat->World->Prop)
  (hJ:∀ k W,J k W->W.cell? ⟨Bs,0,none⟩=some (.slice (some ⟨b,off,none⟩) len cap)/\∀ j,j<len->W.cell? ⟨b,off+j,none⟩=some (.int .u64 (zs j)))
  (hY:∀ k W,J k W->k<len->YieldAt Fence.wide 1 Tryz.prog l #[.int .i64 ((len-1-k:Nat):Int),.int .u64 (zs (len-1-k))] W fun e W'=>e=.returned (.bool true)/\J (k+1) W')
  (W:World) (h0:J 0 W) :
  CallsIn Fence.wide 2 Tryz.prog 285 #[.func (.yield l) #[] #[],.pointer (some ⟨Bs,0,none⟩)] W fun e W'=>(∃ v,e=.returned v)/\J len W':=by
 refine callsIn_of_wp func285 Z trivial ?_ Z;simp only [Tryz.ntmps285,Qj,OI,O4,Nat.reduceAdd,Nat.reduceSub,RN,RP,List.push_toArray,List.append_toArray,P7,PZ];have hBs:=(hJ 0 W h0).1
 gi_wp2
 gi_loopw [3] (fun i wr=>∃ k:Nat,k<=len/\i=.int .i64 ((len:Int)-1-k)/\J k wr) (fun i _=>(intOf i+1).toNat)
 case atStart=>exact ⟨0,Ow _,by simp,h0⟩
 case round =>
  obtain ⟨k,hk,rfl,hJs⟩:=hrel;obtain ⟨hB2,hcx⟩:=hJ k wr hJs;by_cases hlt:k<len
  ·obtain ⟨fn,tmps,assign,body,hy,hR⟩:=hY k wr hJs hlt;have hcx':=hcx (len-1-k) om_;have e1:((len-1-k:Nat):Int)=(len:Int)-1-k:=by omega
   rw [e1] at hy
   gi_wp2
   refine hR.mono ?_;rintro e W3 ⟨rfl,hJ3⟩
   gi_wp2
   go_roundw
   case rel=>exact ⟨k+1,by omega,by congr 1;omega,hJ3⟩
   case measure=>simp [intOf];omega
  obtain rfl:k=len:=by omega
  gi_wp2
  go_end0
  exact ⟨⟨_,Z⟩,hJs⟩
set_option maxRecDepth 100000 in
theorem ww (l Bs:Nat)(A:Option Addr)(cap:Nat)(J:Nat->World->Prop)(W:World)(hBs:W.cell? ⟨Bs,0,none⟩=some (.slice A 0 cap))(h0:J 0 W) :
  CallsIn Fence.wide 2 Tryz.prog 285 #[.func (.yield l) #[] #[],.pointer (some ⟨Bs,0,none⟩)] W fun e W'=>(∃ v,e=.returned v)/\J 0 W':=by
 refine callsIn_of_wp func285 Z trivial ?_ Z;simp only [Tryz.ntmps285,Qj,OI,O4,Nat.reduceAdd,Nat.reduceSub,RN,RP,List.push_toArray,List.append_toArray,P7,PZ]
 gi_wp2
 gi_loopw [3] (fun i wr=>i=.int .i64 (-1)/\J 0 wr) (fun _ _=>0)
 case atStart=>exact ⟨rfl,h0⟩
 case round =>
  obtain ⟨rfl,hJs⟩:=hrel
  gi_wp2
  go_end0
  exact ⟨⟨_,Z⟩,hJs⟩
def Gl (xs:List Nat):List (Value × Value):=(List.range xs.length).map fun k=>(.int .i64 ((xs.length-1-k:Nat):Int),.int .u64 ((xs.getD (xs.length-1-k) 0:Nat):Int))
theorem fu (a:List Nat):(Gl a).length=a.length:=by simp [Gl]
theorem tU {a:List Nat}(h:k<a.length):(Gl a)[k]?=some (.int .i64 ((a.length-1-k:Nat):Int),.int .u64 ((a.getD (a.length-1-k) 0:Nat):Int)):=by
 simp [Gl,h]
theorem rS (C:Mem)(b t:Nat)(v:Value)(a:List Nat)(p:C b=some (.cells ⟨[v]⟩ t (0,0)))(q:Sl C 1 v (a.map fun n:Nat=>[Value.int .u64 (n:Int)]))(r:a.length<1000000) :
  NK Tryz.prog 285 #[.pointer (some ⟨b,0,none⟩)] C (Gl a):=by
 intro l J W hC B s h0;obtain ⟨A,d,rfl,D,_,_,e⟩:=q;rw [al] at *;have f:∀ {W:World}{k:Nat},J k W->W.cell? ⟨b,0,none⟩=some (.slice A a.length d):=fun {W k} c=>by
  simp [World.cell?,hC k W c b _ p]
 rw [fu];rcases PM a.length with h | h
 ·have h1:=f h0;rw [h] at h1 ⊢;exact ww l b A d J W h1 h0
 obtain ⟨u,rfl,g,_⟩:=e 0 _ (ak (by simpa using h));obtain ⟨i,w,E⟩:=u;simp only at g;subst g;refine I4 l b i w a.length d (fun j=>((a.getD j 0:Nat):Int)) r J (fun k W c=>⟨f c,fun j x=>?_⟩) (fun k W c y=>s k _ W c (tU y)) W h0;have h3:(a.map fun n:Nat=>[Value.int .u64 (n:Int)])[j]?=some [Value.int .u64 ((a.getD j 0:Nat):Int)]:=by
  simp [x]
 obtain ⟨a2,h4,_,h5⟩:=e j _ h3;cases h4
 have m:=h5 0 _ rfl;rw [Addr.add_lit] at m;obtain ⟨_,blk,F,fz,o,z⟩:=m;simp only at o;simp only [World.cell?,hC k W c i _ o];simpa using z
theorem AR (C:Mem)(A:Option Addr)(n c:Nat):Pur cx.P 254 [.slice A n c] C fun r C'=>∃ b,r=.func (.func 285) #[] #[.pointer (some ⟨b,0,none⟩)]/\C' b=some (.cells ⟨[.slice A n c]⟩ 305 (0,0)):=by
 exact Sc func254 4 U3 fun w0=>R8 fun R a=>So U6 fun e=>C4 1 [1] a Z<|C6 2 [2] Z<|G.freeze 0 Z fun f g d=>Sb U2<|⟨Z,_,Z,d⟩
abbrev qW (b n c:Nat):Value:=.slice (some ⟨b,0,none⟩) n c
theorem BY (C:Mem)(s:Str)(c:UInt8):Gives cx.P 300 [ai s,.int .u8 c.toNat] C (.int .i64 (Lib.indexByte s c)):=by
 have h:=Gives.ofCalls (f:=300) (args:=[ai s,.int .u8 c.toNat]) (P:=cx.P) kr_ (fun w=>Any.stringslite_IndexByte Tryz.idxByte ⟨s.toArray⟩ (c.toNat:Int) w) C;simpa using h
theorem Fg (C:Mem)(s:Str)(c:UInt8):Gives cx.P 277 [ai s,ai [c]] C (.int .i64 (Lib.indexByte s c)):=by
 refine Sc func277 143 U3 fun w0=>C6 1 [0,1] Z<|C6 3 [0,1,5] Z<|R4 6 Z fun R a=>SA U8<|C4 1 [0,1,5,16] a Z<|R6 (fun b=>?_) fun b=>?_
 ·refine C6 1 [4] Z<|Sb U2<|⟨?_,Z⟩;have h:([c]:Str)=s:=by simpa using b
  subst h;simp [Lib.indexByte]
 refine C6 3 [0,1,5,24] Z<|R6 (fun d=>?_) fun d=>?_
 ·exact R4 2 Z fun R a=>SY U8 (fun _=>⟨by omega,(rfl:([c]:Str)[(0:Int).toNat]?=some c)⟩) U2<|Sg (BY _ s c) U7<|C4 1 [4] a Z<|Sb U2<|⟨Z,Z⟩
 exact absurd d am
theorem LG (C:Mem)(s:Str)(c:UInt8)(g:s.length<1000000):Gives cx.P 246 [ai s,ai [c]] C (.tuple #[ai (jt c s).1,ai ((jt c s).2.getD []),.bool (jt c s).2.isSome]):=by
 refine Sc func246 23 U3 fun w0=>C6 3 [0,1] Z<|R4 2 Z fun R b=>Sg (Fg _ s c) U7<|C4 1 [0,1,7] b Z<|C6 2 [0,1,7,12] Z<|R6 (fun d=>?_) fun d=>?_
 ·have h0:0<=Lib.indexByte s c:=by simpa using d
  obtain ⟨a,post,h1,h2,h3⟩:=IM h0;have h:s.length=a.length+1+post.length:=by rw [h2];simp;omega
  rw [h1,h3];refine Ss [0,1,2,3,4,5,6,7,8,9,10,11] [] Z kr_ fun R i b=>R9 2 Z<|S2 0 a.length U9 (fun _=>⟨.inl ⟨Z,Z⟩,.inr ⟨_,Z⟩,.inl ⟨Z,Z⟩,by omega,by omega,Oo _⟩) U2<|R9 4 Z<|SH (((a.length+1:Nat):Int)) U4 am om_ om_ U2<|S2 (a.length+1) s.length U9 (fun _=>⟨.inr ⟨_,Z⟩,.inl ⟨Z,Z⟩,.inl ⟨Z,Z⟩,by omega,Oo _,Oo _⟩) U2<|C4 3 [4,5,6] b Z<|Sh (G.dropAll (S4 U4 ?_));refine ⟨?_,Z⟩;have e:(s.take a.length).drop 0=a:=by rw [h2];simp
  have f:(s.take s.length).drop (a.length+1)=post:=by rw [OH,h2];simp
  rw [e,f];rfl
 have h0:¬ 0<=Lib.indexByte s c:=by simpa using d
 rw [F1 h0];refine C6 4 [4,5,6] Z<|Sh (G.dropAll (S4 U4 ?_));exact ⟨Z,Z⟩
theorem JZ (C:Mem)(s:Str)(c:UInt8)(a:s.length<1000000):Gives cx.P 206 [ai s,ai [c]] C (.tuple #[ai (jt c s).1,ai ((jt c s).2.getD []),.bool (jt c s).2.isSome]):=by
 refine Sc func206 13 U3 fun w0=>C6 3 [0,1] Z<|R4 2 Z fun R b=>Sg (LG _ s c a) U7<|C4 6 [4,5,6] b Z<|Sh (G.dropAll (S4 U4 ?_));exact ⟨Z,Z⟩
theorem xC (C:Mem)(s:Str)(c:UInt8):Gives cx.P 280 [ai s,ai [c]] C (.bool (cC c s).2):=by
 refine Sc func280 18 U3 fun w0=>C6 1 [0,1] Z<|R4 9 Z fun R d=>S2 0 1 U9 (fun e=>⟨.inl ⟨Z,Z⟩,.inr ⟨_,Z⟩,.inl ⟨Z,Z⟩,by omega,(by have h:decide ((1:Int)<=(s.length:Int))=true:=e.1;simp at h;omega),Oo _⟩) U2<|R9 2 Z<|Sv U8<|C4 1 [4] d Z<|Sb U2<|⟨?_,Z⟩;cases s with
 | nil=>rfl
 | cons b s =>
  have h1:decide ((1:Int)<=((b::s).length:Nat))=true:=by simp;omega
  unfold cC;by_cases a:b=c
  ·subst a;simp;omega
  simp [a]
theorem IL (C:Mem)(s:Str)(c:UInt8):Gives cx.P 278 [ai s,ai [c]] C (.tuple #[ai (cC c s).1,.bool (cC c s).2]):=by
 refine Sc func278 15 U3 fun w0=>C6 2 [0,1] Z<|R4 2 Z fun R d=>Sg (xC _ s c) U7<|C4 1 [0,1,9] d Z<|R6 (fun a=>?_) fun a=>?_
 ·have h:¬ s.head?=some c:=fun h=>by unfold cC at a;rw [aI h] at a;cases a
  refine C6 3 [4,5] Z<|Sh (G.dropAll (Sy U3 ?_));unfold cC;rw [aA h];exact ⟨Z,Z⟩
 have h:s.head?=some c:=O3 fun h=>by unfold cC at a;rw [aA h] at a;cases a
 have e:1<=s.length:=by cases s with
  | nil=>cases h
  | cons b s=>simp
 refine R4 3 Z fun R d=>S2 1 s.length U9 (fun _=>⟨.inr ⟨_,Z⟩,.inl ⟨Z,Z⟩,.inl ⟨Z,Z⟩,by omega,Oo _,Oo _⟩) U2<|C4 2 [4,5] d Z<|Sh (G.dropAll (Sy U3 ?_));unfold cC;rw [aI h];refine ⟨?_,Z⟩;rw [OH,List.drop_one];rfl
theorem F0 (C:Mem)(s:Str)(c:UInt8):Gives cx.P 247 [ai s,ai [c]] C (.tuple #[ai (cC c s).1,.bool (cC c s).2]):=by
 refine Sc func247 11 U3 fun w0=>C6 2 [0,1] Z<|R4 2 Z fun R a=>Sg (IL _ s c) U7<|C4 4 [4,5] a Z<|Sh (G.dropAll (Sy U3 ?_));exact ⟨Z,Z⟩
structure Tabs (C:Mem):Prop where
 pow : VarC cx.P C "internal/strconv.uint64pow10" (Lib.pow10Tab.map fun z => Value.int .u64 z).toArray
 db : VarC cx.P C "math/bits.deBruijn64tab" (Lib.deBruijn64tab.map fun z : Nat => Value.int .u8 (z : Int)).toArray
theorem Tabs.mono {C D:Mem}(h:Tabs C)(a:C.le D):Tabs D:=⟨h.pow.mono a,h.db.mono a⟩
theorem Tabs.m_ {D:Mem}(h:Tabs C)(a:C.le D:=by exact mup):Tabs D:=Tabs.mono h a
theorem JN (C:Mem)(a:Tabs C)(n:Int)(b:-9223372036854775808<=n)(c:n<=9223372036854775807):Gives cx.P 123 [.int .i64 n] C (ai (Lib.itoa n)) :=
 Ld Tryz.itoa n b c C a.pow kr_
structure FV where
 b:Bool
 A:Option Addr
 n:Nat
 c:Nat
 A2:Option Addr
 n2:Nat
 c2:Nat
theorem split_fn (C:Mem)(s:Str):Gives cx.P 258 [ai s] C (.tuple #[.bool (cC 45 s).2,ai (cC 45 s).1]):=by
 refine Sc func258 17 U3 fun w0=>C6 2 [0] Z<|C6 2 [4] Z<|R4 5 Z fun R d=>SY (b:=s.headD 0) U8 (fun e=>⟨by omega,(by
  cases s with
  | nil=>exact Bool.noConfusion (show false=true from e.1)
  | cons b s=>rfl)⟩) U2 ?_
 refine R7 U6<|Sv U8<|Sa [4,13] d Z<|R6 (fun a=>?_) fun a=>?_
 ·have c:s.head?=some 45:=by
   cases s with
   | nil=>cases a
   | cons b s =>
    have h1:b=45:=by
     refine RH.1 ?_;show b.toNat=45;simp at a;omega
    rw [h1];rfl
  have f:1<=s.length:=by cases s with
   | nil=>cases c
   | cons b s=>simp
  refine Ss [0,1,2,3] [] Z kr_ fun R g d=>R7 U6<|S2 1 s.length U9 (fun _=>⟨.inr ⟨_,Z⟩,.inl ⟨Z,Z⟩,.inl ⟨Z,Z⟩,by omega,Oo _,Oo _⟩) U2<|C4 2 [2,3] d Z<|Sh (G.dropAll (Sy U3 ?_));unfold cC;rw [aI c];refine ⟨?_,Z⟩;rw [OH,List.drop_one];rfl
 have c:¬ s.head?=some 45:=by
  cases s with
  | nil=>simp
  | cons b s =>
   intro h;have h1:b=45:=by simpa using h
   subst h1;simp at a
 refine C6 3 [2,3] Z<|Sh (G.dropAll (Sy U3 ?_));unfold cC;rw [aA c];exact ⟨Z,Z⟩
def wo (s:Str):Bool:=(cC 45 s).1.all eB && !((cC 45 s).1 == []) && !((cC 45 s).1.head? == some 48 && ((cC 45 s).2 || decide (1<(cC 45 s).1.length)))
def cA (s:Str):Bool:=wo s && decide ((cC 45 s).1.length<=200)
theorem AD (C:Mem)(v:Value)(l:List Nat)(d:Sl C 1 v (l.map aQ)):Pur cx.P 288 [v] C fun u C'=>Sl C' 1 u ((vY l).map aQ):=by
 obtain ⟨o,c0,rfl,p,_⟩:=id d;simp only [al] at d p ⊢;refine Sc func288 21 U3 fun w0=>C6 1 [0] Z<|G.loop (fun fr C' q r=>∃ (k:Nat)(A:Option Addr)(c:Nat),(k<=l.length/\Sl C' 1 (.slice A k c) ((l.take k).map aQ)/\Ct l l.length=Ct l k)/\fr=[(0,[],.slice A k c)]/\q=[]/\r=k+1) (hn_ [0] Z) ⟨l.length,o,c0,⟨Oo _,by rw [OH];exact d,Z⟩,Z,Z,Z⟩ (fun fr F H m _ s=>?_);obtain ⟨k,A,c,⟨I,hs,g⟩,rfl,rfl,rfl⟩:=s;obtain ⟨_,J,t,w,_⟩:=id hs;have K:maxLen<=9223372036854775807:=by simp [maxLen]
 have L:k<=c:=by
  rw [al,OG] at w;injection t with h1 h2 h3;omega
 have x:0<k->((l.take k).map aQ)[((k:Int)-1).toNat]?=some (aQ (gP l (k-1))):=fun h=>by
  rw [show ((k:Int)-1).toNat=k-1 by omega,Ou,O8,aI om_,ak (by omega:k-1<l.length)];unfold gP;rw [ax,ak (by omega:k-1<l.length)];rfl
 refine R4 7 Z fun R f=>Se _ U7<|D.index U10 (fun i=>⟨hs,(by have h:decide ((0:Int)<(k:Int))=true:=i.1;simp at h;omega),x (by have h:decide ((0:Int)<(k:Int))=true:=i.1;simp at h;omega)⟩) fl_ Z fun M y=>Sz U6 y U3<|R7 U6<|Sv U8<|Sa [0,14] f Z<|R6 (fun b=>?_) fun b=>?_
 ·have a:0<k/\gP l (k-1)=0:=by
   have:(0:Int)<(k:Int)/\((gP l (k-1):Nat):Int)=0:=by simpa using b
   omega
  refine R4 3 Z fun R f=>SH (((k-1:Nat):Int)) U4 om_ om_ om_ U2<|SX 0 (k-1) c U12 (fun _=>⟨.inl ⟨Z,Z⟩,.inr ⟨_,Z⟩,.inl ⟨Z,Z⟩,by omega,by omega,Oo _⟩) U2<|C4 1 [0] f Z ?_;have n:=Sl.sub hs (l:=0) (h:=k-1) (m:=c) (Ow _) ap om_ (Oo _);have z:(((l.take k).map aQ).take (k-1)).drop 0=(l.take (k-1)).map aQ:=by
   rw [Pz,<- Rb,Rq,PK om_]
  rw [z] at n;have B:Ct l l.length=Ct l (k-1):=by
   rw [g];obtain ⟨j,rfl⟩:∃ j,k=j+1:=⟨k-1,by omega⟩;simp only [Qw] at a ⊢;rw [Ct,aI];unfold gP at a;rw [ax,ak om_] at a;rw [ak om_];exact congrArg some a.2
  refine Sj (m':=k-1+1) om_ mup (hn_ [0] Z) ⟨k-1,_,c,⟨by omega,n.mono mup,B⟩,Z,Z,Z⟩
 have a:¬ (0<k/\gP l (k-1)=0):=fun E=>by
  have h1:(decide ((0:Int)<(k:Int)) && (((gP l (k-1):Nat):Int) == 0))=true:=by
   rw [E.2];simp;omega
  rw [h1] at b;cases b
 refine C6 2 [2] Z<|Sb U2<|⟨Z, ?_⟩;have e:Ct l k=k:=by
  cases k with
  | zero=>rfl
  | succ j =>
   simp only [Qw] at a;rw [Ct,aA];intro h;refine a ⟨by omega, ?_⟩;unfold gP;rw [ax,h];rfl
 unfold vY;rw [g,e];exact hs
theorem tH (C:Mem)(v:Value)(l:List Nat)(a:l.length=n):Jog.Fn cx.P 288 [v] C [.arr v 3 1 n (l.map aQ).flatten] fun u C' b=>b=[]/\Sl C' 1 u ((vY l).map aQ) :=
 Jog.Fn.give (l.map aQ) kr_ (by intro r hr;obtain ⟨y,_,rfl⟩:=OB.1 hr;rfl) (by rw [al,a]) (fun C' _ hs=>AD C' v l hs)
def PieC (C:Mem)(v:Value)(n:Nat):Prop:=∃ l,Be l/\bI l=n/\Sl C 1 v (l.map aQ)
theorem HS (C:Mem)(s t:Value)(a b:List Nat)(d:Sl C 1 s (a.map aQ))(f:Sl C 1 t (b.map aQ))(n:Be a)(o:Be b):Gives cx.P 289 [s,t] C (.bool (decide (bI a<bI b))):=by
 have Q:maxLen<=9223372036854775807:=by simp [maxLen]
 obtain ⟨A,c0,rfl,B,S,_⟩:=id d;obtain ⟨D,E,rfl,F,T,_⟩:=id f;simp only [al] at d f B F ⊢;refine Sc func289 41 U3 fun w0=>C6 1 [0,1] Z<|C6 5 [0,1,10] Z<|R6 (fun g=>?_) fun g=>?_
 ·have U:a.length≠b.length:=fun e=>by
   rw [e] at g;simp at g
  refine C6 6 [4] Z<|Sb U2<|⟨?_,Z⟩;congr 1;rw [Pp];rcases OZ a.length b.length with h | h
  ·have:=E4 n.1 o h;constructor
   ·intro _;exact this
   intro _;omega
  have:=E4 o.1 n om_;constructor <;> intro _ <;> omega
 have p:a.length=b.length:=by
  have:(a.length:Int)=b.length:=by simpa using g
  omega
 refine R4 2 Z fun R c=>Se _ U7<|C4 1 [0,1,5] c Z<|G.loop (fun fr C' H I=>∃ (k:Nat),(k<=a.length/\a.drop k=b.drop k)/\fr=[(0,[],.slice A a.length c0),(1,[],.slice D b.length E),(5,[],.int .i64 ((k:Int)-1))]/\H=[]/\I=k+1) (hn_ [0,1,5] Z) ⟨a.length,⟨Oo _,by rw [Py,p,Py]⟩,Z,Z,Z⟩ (fun fr V W m _ J=>?_);obtain ⟨k,⟨X,i⟩,rfl,rfl,rfl⟩:=J;refine C6 2 [0,1,5,20] Z<|R6 (fun q=>?_) fun q=>?_
 ·have u:0<k:=by
   have:(0:Int)<=(k:Int)-1:=by simpa using q
   omega
  obtain ⟨j,rfl⟩:∃ j,k=j+1:=⟨k-1,by omega⟩;obtain ⟨x,l⟩:∃ x,a[j]?=some x:=⟨a[j],ak om_⟩;obtain ⟨y,hy⟩:∃ y,b[j]?=some y:=⟨b[j],ak om_⟩;have v:(a.map aQ)[(((j+1:Nat):Int)-1).toNat]?=some (aQ x):=by
   rw [show (((j+1:Nat):Int)-1).toNat=j by omega,Ou,l];rfl
  have w:(b.map aQ)[(((j+1:Nat):Int)-1).toNat]?=some (aQ y):=by
   rw [show (((j+1:Nat):Int)-1).toNat=j by omega,Ou,hy];rfl
  refine Ss [0,1,2,3,4,5,6,7,8] [] Z kr_ fun R K c=>R9 2 Z<|Sm d.m_ U10 om_ v fl_ fun Y L=>R5 L U8<|R9 2 Z<|Sm f.m_ U10 om_ w fl_ fun aa M=>R5 M U8<|C4 1 [0,1,5,31] c Z<|R6 (fun r=>?_) fun r=>?_
  ·have z:x≠y:=fun e=>by
    subst e;simp at r
   refine Ss [0,1,2,3,4,5,6,7,8,9] [] Z kr_ fun R K c=>R9 2 Z<|Sm d.m_ U10 om_ v fl_ fun ab N=>R5 N U8<|R9 2 Z<|Sm f.m_ U10 om_ w fl_ fun ac O=>R5 O U8<|C4 2 [4] c Z<|Sb U2<|⟨?_,Z⟩;congr 1;rw [Pp];rcases OZ x y with h | h
   ·have:=J3 n.1 p l hy h i;constructor
    ·intro _;exact this
    intro _;omega
   have:=J3 o.1 p.symm hy l om_ i.symm;constructor <;> intro _ <;> omega
  have z:x=y:=by
   have:(x:Int)=y:=by simpa using r
   omega
  refine R4 1 Z fun R c=>Se _ U7<|C4 1 [0,1,5] c Z ?_;rw [show ((j+1:Nat):Int)-1-1=(j:Int)-1 by omega];refine Sj (m':=j+1) om_ mup (hn_ [0,1,5] Z) ⟨j,⟨by omega,by
   rw [OW (by omega:j<a.length),OW (by omega:j<b.length),i,(aF.1 l).2,(aF.1 hy).2,z]⟩,rfl,rfl,rfl⟩
 have u:k=0:=by
  have:¬ (0:Int)<=(k:Int)-1:=by simpa using q
  omega
 subst u;refine C6 1 [4] Z<|Sb U2<|⟨?_,Z⟩;have:a=b:=by simpa using i
 subst this;simp
theorem FY {s:Str}{a:Nat}{c:UInt8}(d:a<=i)(b:s[i]?=some c):bS (gi s a (i+1))=10*bS (gi s a i)+(c.toNat-48):=by
 have f:=(aF.1 b).1;have e:gi s a (i+1)=gi s a i++[c]:=by
  unfold gi;rw [OS,b,PF,Q6,OG,PK om_,show a-i=0 by omega];rfl
 rw [e];unfold bS;rw [List.foldl_append];rfl
theorem IJ (s:Str)(a:Nat):gi s a a=[]:=by
 unfold gi;rw [List.drop_eq_nil_iff,OG];omega
theorem Kj (C:Mem)(s:Str)(g:∀ c∈s,eB c=true)(K:s.length<=100000):Pur cx.P 262 [ai s] C fun u D=>PieC D u (bS s):=by
 refine Sc func262 35 U3 fun w0=>C6 1 [0] Z<|C6 1 [0,3] Z<|C6 3 [0,3,4] Z<|G.nilArr 3 1<|G.loop (fun fr C' d k=>∃ (e j:Nat)(b:Int)(out:List Nat)(w:Value),((b=e/\e+4*j=s.length∨b<=0/\e=0)/\-4<=b/\b<=100000/\e<=s.length/\out.length=j/\j<=100000/\DigP out/\bI out=bS (s.drop e))/\fr=[(0,[],ai s),(3,[],w),(4,[],.int .i64 b)]/\d=[.arr w 3 1 j (out.map aQ).flatten]/\k=e+1) (hn_ [0,3,4] Z) ⟨s.length,0,(s.length:Int),[],_,⟨.inl ⟨Z,Z⟩,by omega,by omega,Oo _,Z,by omega,(fun x B=>(by cases B)),by rw [Py];rfl⟩,Z,Z,Z⟩ (fun fr L M m _ l=>?_);obtain ⟨e,j,b,out,w,⟨q,N,O,Q,n,S,r,t⟩,rfl,rfl,rfl⟩:=l;refine C6 2 [0,3,4,10] Z<|R6 (fun f=>?_) fun f=>?_
 ·obtain ⟨rfl,E⟩:b=e/\e+4*j=s.length:=by
   have h0:0<b:=by simpa using f
   rcases q with h | h
   ·exact h
   omega
  have v:0<e:=by
   have h0:(0:Int)<(e:Int):=by simpa using f
   omega
  refine C6 1 [0,3,4,5] Z<|R4 1 Z fun R a=>Se _ U7<|D.max (((e-4:Nat):Int)) U6 om_ U2<|C4 1 [0,3,4,5,6] a Z ?_;rw [show (Value.int .i64 0)=.int .i64 ((bS (gi s (e-4) (e-4)):Nat):Int) by rw [IJ];rfl];refine G.loop (fun fr C' d k=>∃ (i:Nat),(e-4<=i/\i<=e)/\fr=[(0,[],ai s),(3,[],w),(4,[],.int .i64 (e:Int)),(5,[],.int .i64 (bS (gi s (e-4) i):Nat)),(6,[],.int .i64 i)]/\d=[.arr w 3 1 j (out.map aQ).flatten]/\k=e-i) (hn_ [0,3,4,5,6] Z) ⟨e-4,⟨Oo _,by omega⟩,Z,Z,Z⟩ (fun fr T U m _ l=>?_);obtain ⟨i,⟨F,V⟩,rfl,rfl,rfl⟩:=l;refine C6 3 [0,3,4,5,6,18] Z<|R6 (fun o=>?_) fun o=>?_
  ·have y:i<e:=by simpa using o
   obtain ⟨c,p⟩:∃ c,s[i]?=some c:=⟨s[i]'om_,ak _⟩;have z:=g c (Oq p);have W:48<=c.toNat/\c.toNat<=57:=by unfold eB at z;simpa using z
   have X:bS (gi s (e-4) i)<10000:=FZ g om_;refine R4 1 Z fun R a=>SH (((10*bS (gi s (e-4) i):Nat):Int)) U4 om_ om_ om_ U2<|R9 2 Z<|SY U8 (fun _=>⟨by omega,p⟩) U2<|SL (c:=((c.toNat:Nat):Int)) U8 (by rw [IntKind.wrap_i64];omega) fl_<|SH (((10*bS (gi s (e-4) i)+c.toNat:Nat):Int)) U4 om_ om_ om_ U2<|SH (((10*bS (gi s (e-4) i)+(c.toNat-48):Nat):Int)) U4 om_ om_ om_ U2<|C4 1 [0,3,4,5,6] a Z<|R4 1 Z fun R a=>Se _ U7<|C4 1 [0,3,4,5,6] a Z ?_;rw [<- FY F p];refine Sj (m':=e-(i+1)) om_ mup (hn_ [0,3,4,5,6] Z) ⟨i+1,⟨by omega,by omega⟩,Z,Z,Z⟩
  have y:i=e:=by
   have:¬ i<e:=by simpa using o
   omega
  subst y;refine R4 2 Z fun R a=>Sr [aQ (bS (gi s (i-4) i))] U12 fun Y _ _ H=>D.append (j:=0) U11 H Z aw (by show (j+1)*8<=_;omega) fl_ fun A=>C4 1 [0,3,4] a Z<|R4 1 Z fun R a=>Se _ U7<|C4 1 [0,3,4] a Z<|Sp (L':=[.arr A 3 1 (j+1) ((out++[bS (gi s (i-4) i)]).map aQ).flatten]) (by simp [aQ])<|Sj (m':=i-4+1) om_ mup (hn_ [0,3,4] Z) ⟨i-4,j+1,(i:Int)-4,out++[bS (gi s (i-4) i)],A,⟨by
   rcases OZ i 4 with h | h
   ·exact .inr ⟨by omega,by omega⟩
   exact .inl ⟨by omega,by omega⟩,by omega,by omega,by omega,by simp [n],by omega,r.snoc (FZ g om_),Dz E n om_ t⟩,Z,Z,Z⟩
 have v:e=0:=by
  have h0:¬ 0<b:=by simpa using f
  rcases q with h | h
  ·omega
  exact h.2
 refine Sx [(1,3)] Z fun R a=>R7 U6<|D.call (tH _ _ out n) Z (.inr dc_) U6 (Ov _) fl_ (fun aa _ ab _ I=>?_);obtain ⟨rfl,J⟩:=I;refine C4 1 [2] a Z<|Sb U2<|⟨Z,vY out,lu r, ?_,J⟩;rw [gU,t,v,Pz]
end Go.Proofs.YthnpijdjlddpmaaGreatDoor
