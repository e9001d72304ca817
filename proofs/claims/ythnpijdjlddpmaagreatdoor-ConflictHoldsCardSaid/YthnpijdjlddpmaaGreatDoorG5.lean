/- Laws that the proofs of this seat share, part 5. -/
import Derived.Test.YthnpijdjlddpmaaGreatDoorG4
import Derived.Test.YthnpijdjlddpmaaGreatDoorShelf
import Derived.Sort.Walk0
import Derived.Shelf.SlSortCmp.Insertion
import Derived.Test.YthnpijdjlddpmaaGreatDoorProg
import Derived.RangeFuncBox
import Derived.RangeFuncLeaves
import Derived.Shelf.Abstract
import Derived.WalkKit
import Derived.OwnWalkIn
import Derived.TacticsInMore
import Derived.LoopNIn
import Derived.LoopIn
set_option maxHeartbeats 4000000
namespace Go.Jog
open Go
variable {C C1:Mem}{L:List Ent}{P:Program}{W:World}{assign body:Code}{fn l:Nat}{tmps:Array Value}{w:World}
theorem Sep.lessC (h:Sep C1 L w)(a:C.le C1):Sep C L w :=
 ⟨fun b o f=>h.c b o (a b o f),h.e,h.d,fun k g=>by
  cases i:C k with
  | none=>rfl
  | some o=>have:=a k o i;rw [h.n k g] at this;cases this⟩
theorem St.up {m:Mem}{g:List Ent}{j:World}(a:Sep C1 L W)(k:St W C L m g j):St W C1 L C1 g j:=by
 refine ⟨⟨fun b o f=>?_,k.sep.e,k.sep.d,fun i p=>?_⟩,k.ev,Mem.le.refl _,fun _ _ h=>.inl h,k.ln⟩
 ·rw [k.ev.block b (bY (a.c b o f)) (fun q=>by have:=a.n b q;rw [f] at this;cases this)];exact a.c b o f
 cases l:C1 i with
 | none=>rfl
 | some o =>
  rcases k.ln i p with h | h
  ·have:=bY (a.c i o l);omega
  have:=a.n i h;rw [l] at this;cases this
theorem Sep.front {b f:List Ent}(h:Sep C (b++f) w):Sep C b w :=
 ⟨h.c,fun x a=>h.e x (Sf _ a),(SV.1 h.d).1,fun k ⟨x,a,g⟩=>h.n k ⟨x,Sf _ a,g⟩⟩
def YC (P:Program)(l:Nat)(vs:List Value)(C:Mem)(L:List Ent)(R:Bool->List Ent->Prop):Prop :=
 ∀ W,Sep C L W->YieldAt Fence.wide 1 P l vs.toArray W fun e W'=>∃ b L1,e=.returned (.bool b)/\R b L1/\St W C L C L1 W'
theorem yw {R:Ending->World->Prop}{m n:Nat}{r:Option Nat}(h:RoundIn Fence.wide m P l fn tmps assign body W R):RoundIn (Fo r) n P l fn tmps assign body W R :=
 ⟨trivial,fun c cs _=>h.2 c cs (room_wide _)⟩
theorem Ft {a:Act}{o:Oper}{f:Operand}{b:Array Operand}{d:Array TypeId}{c:List Value}
  (e:o.op=.call ⟨.value f,b,d⟩) (g:a.eval f=.func (.yield l) #[] #[]) (h:b.toList.map a.eval=c) (i:(Instr.yield l c.toArray).run P w=.ok (.round l fn tmps assign body) w) :
  (execOp a.eval o).run P w=.ok (.round l fn tmps assign body) w:=by
 have j:execOp a.eval o=(do let dd <- resolve a.eval ⟨.value f,b,d⟩ o.type;invoke dd.target dd.args:Sem Next):=by unfold execOp;rw [e]
 have k:b.map a.eval=c.toArray:=by apply Sp;rw [<- h];simp
 rw [j];simp only [resolve,g,Deferred.ofValue,k,Sem.run_bind,Sem.run_pure,Result.andThen_ok,invoke];simpa using i
def YW (P:Program)(W:Cw P)(r:Option Nat)(n:Nat):Prop:=∀ {c:Code}{Q:Exit->Act->World->Prop}{a:Act}{w:World},c.wpIn (Fo r) n P Q a w->W.wp c Q a w
theorem YW.plain (P:Program):YW P (Cw.plain P) none 3:=fun h=>(wpIn_wide (n:=3)).1 h
end Go.Jog
namespace Go.Jog
open Go
def Jl:List (Nat × Value)->Fr->Fr
 | [],fr=>fr
 | (p,v)::l,fr=>Jl l ((p,[],v)::fr)
def By (n:Nat):List (Nat × Value)->Fr->Bool
 | [],_=>true
 | (p,v)::l,fr=>aP n [] ((p,[],v)::fr) p && By n l ((p,[],v)::fr)
theorem FrOk.puts {n:Nat}:∀ {l:List (Nat × Value)}{fr:Fr}{t:Array Value},FrOk n [] [] fr { tmps:=t,defers:=[] }->By n l fr=true->FrOk n [] [] (Jl l fr) { tmps:=l.foldl (fun t x=>t.setIfInBounds x.1 x.2) t,defers:=[] }
 | [],_,_,h,_=>h
 | (p,v)::l,fr,t,h,a=>by
  simp only [By,QU] at a;have h1:=FrOk.put (u:=v) h a.1 ⟨fun _=>rfl,fun b=>absurd (fun p c=>by cases c) b⟩;exact FrOk.puts (l:=l) ⟨h1.size,Z,h1.ent⟩ a.2
def Io:Exit->Option Code
 | .ret=>some .ret
 | .exit id=>some (.exit id)
 | _=>none
end Go.Jog
namespace Go.Jog
open Go
def IterM (P:Program)(gf:FuncId)(fb lb:Array Value)(C:Mem)(M0:List Ent)(vss:List (List Value)):Prop :=
 ∀ (l:Nat)(I X:Nat->List Ent->Prop)(L:List Ent),(∀ k v L',vss[k]?=some v->I k L'->YC P l v C L' (fun b L1=>(b=true/\I (k+1) L1)∨(b=false/\X k L1)))->I 0 L ->
  ∀ W,Sep C (M0++L) W->CallsIn Fence.wide 2 P gf (fb++#[.func (.yield l) #[] #[]]++lb) W fun e W'=>(∃ v,e=.returned v)/\∃ M' L',(I vss.length L'∨∃ k,k<vss.length/\X k L')/\St W C (M0++L) C (M'++L') W'
def EndM (n:Nat)(I X:Nat->List Ent->Prop)(L2:List Ent):Prop:=∃ M' L',L2=M'++L'/\(I n L'∨∃ k,k<n/\X k L')
theorem IterM.intro {a:Cx}{f:FuncId}{g:Func}{c:Code}{fb lb:List Value}{C:Mem}{i:List Ent}{j:List (List Value)}(m:Enters a.P f=true)(o:a.P.funcs[f]?=some g)(p:g.body=some c)
  (n:Nat) (q:g.ntmps=n) (r:Nat.ble (fb++.func (.yield 0) #[] #[]::lb).length n=true)
  (h:∀ (l:Nat)(I X:Nat->List Ent->Prop)(L:List Ent),(∀ k v d,j[k]?=some v->I k d->YC a.P l v C d (fun b L1=>(b=true/\I (k+1) L1)∨(b=false/\X k L1)))->I 0 L ->
   ∀ w0,G ⟨a,g,n,⟨w0,C,i++L⟩,fun _ _ d=>EndM j.length I X d,Cw.plain a.P,[],bodyPost a.P g (nL ⟨w0,C,i++L⟩ fun _ _ d=>EndM j.length I X d)⟩
    (iI 64 [.code c]) .normal (xM (fb++.func (.yield l) #[] #[]::lb) 0) C (i++L)):IterM a.P f fb.toArray lb.toArray C i j:=fun l I X L hy h0 W s=>by
 have t:=Fn.intro (args:=fb++.func (.yield l) #[] #[]::lb) m o p n q (by rw [<- r];congr 1;simp) (h l I X L hy h0);have e:(fb.toArray++#[Value.func (.yield l) #[] #[]]++lb.toArray)=(fb++Value.func (.yield l) #[] #[]::lb).toArray:=by simp
 rw [e];refine callsIn_wide.2 ((t.2 W s).mono fun e w' ⟨v,C',d,u,hs,w,x,y,z⟩=>⟨⟨v,u⟩,w,x,z, ?_⟩);subst y;exact St.less hs (Mem.le.refl _) hs.c0
theorem St.dropFront {a:World}{b:Mem}{c:List Ent}{C:Mem}{W:World}:∀ (M:List Ent){L:List Ent},St a b c C (M++L) W->St a b c C L W
 | [],_,h=>h
 | _::M,_,h=>St.dropFront M h.drop
section
variable {F:Fx} {k:List KI} {fr:Fr} {C:Mem} {L:List Ent}
theorem Xp {g:Operand}{ps:List Nat}{assign body:Code}{gf:FuncId}{fb lb:Array Value}{vss:List (List Value)}(hW:F.W=Cw.plain F.cx.P)
  (hg:ev fr [] g=some (.func (.func gf) fb lb)) (hen:Enters F.cx.P gf=true) {M0 Lr:List Ent} (hseq:IterM F.cx.P gf fb lb C M0 vss) (hL:L.Perm (M0++Lr)) (hps:∀ v∈vss,v.length=ps.length)
  (I:Nat->List Ent->Prop) (X:Code->Nat->List Ent->Prop) (h0:I 0 Lr)
  (hok:∀ v∈vss,By F.n (ps.zip v) fr=true) (A:Nat->List Ent->Fr->List Ent->Prop)
  (hassign:∀ l j v L' W1,I j L'->vss[j]?=some v->G ⟨F.cx,F.fn,F.n,⟨W1,C,L'⟩,F.post,Cw.round F.cx.P l 1,[],fun e a w'=>e=.normal/\∃ frA LA,A j L' frA LA/\FrOk F.n [] [] frA a/\St W1 C L' C LA w'⟩ (iI 64 [.code assign]) .normal (Jl (ps.zip v) fr) C L')
  (hbody:∀ l j v L' frA LA W1,I j L'->vss[j]?=some v->A j L' frA LA ->
   G ⟨F.cx,F.fn,F.n,⟨W1,C,LA⟩,F.post,Cw.round F.cx.P l 1,[],fun e _ w'=>(e=.normal/\∃ L1,I (j+1) L1/\St W1 C LA C L1 w')∨(∃ c L1,Io e=some c/\X c j L1/\St W1 C LA C L1 w')⟩ (iI 64 [.code body]) .normal frA C LA)
  (hdone:∀ D L',I vss.length L'->G { F with dd:={ target:=.collected D,args:=#[] }::F.dd } (iI 64 k) .normal fr C (.obj D (.deferred (some []))::L'))
  (hstop:∀ D j c L',j<vss.length->X c j L'->G { F with dd:={ target:=.collected D,args:=#[] }::F.dd } (.code c::k) .normal fr C (.obj D (.deferred (some []))::L')) :
  G F (.code (.rangeFunc g ps.toArray assign body)::k) .normal fr C L:=fun hle a w ha hw=>by
 simp only [Kq,hW];show (Code.rangeFunc g ps.toArray assign body).wp F.cx.P (Kq F k) a w;refine (wpIn_wide (n:=3)).1 (wpIn_rangeFunc fun fn _=>?_);have hga:a.eval g=.func (.func gf) fb lb:=bx ha (fun p hp=>by cases hp) hg;obtain ⟨rec,hrec⟩:∃ rec:LoopState->Option Code->Loop,rec=fun st pe=>{ state:=st,pending:=pe,fn,tmps:=a.tmps,params:=ps.toArray,assign,body,defers:=w.heap.size }:=⟨_,rfl⟩;obtain ⟨z,hz⟩:∃ z,w.heap.size=z:=⟨_,rfl⟩;obtain ⟨W1,hW1⟩:∃ W1,(w.alloc (.deferred (some []))).alloc (.loop (rec .ready none))=W1:=⟨_,rfl⟩;have hS1:St F.b.w0 F.b.C0 F.b.L0 C (M0++.obj (z+1) (.loop (rec .ready none))::.obj z (.deferred (some []))::Lr) W1:=by
  have:=St.alloc (St.alloc (St.perm hw hL) (.deferred (some []))) (.loop (rec .ready none));rw [World.size_alloc,hz] at this;rw [<- hW1];exact St.perm this (((QL [_,_]).append Rj).trans (Rj (l₁:=[_,_]++Lr)))
 refine ⟨z+1,[{ target:=.collected z,args:=#[] }],W1,{ target:=.fn (.func gf) lb,args:=fb++#[.func (.yield (z+1)) #[] #[]] },W1,gf,
  fb++#[.func (.yield (z+1)) #[] #[]]++lb,W1, ?_, ?_,fun _ _=>trivial, ?_,fun _=>by decide, ?_⟩
 ·rw [<- hW1,hrec,<- hz];exact run_enterLoop_outer _ _ _ _ _
 ·simp only [resolve,hga];simp [go_sem]
 ·simp [invoke,go_sem,eQ hen]
 refine (hseq (z+1) (fun j L2=>∃ L',I j L'/\L2=.obj (z+1) (.loop (rec .ready none))::.obj z (.deferred (some []))::L')
  (fun j L2=>∃ c L',X c j L'/\L2=.obj (z+1) (.loop (rec .done (some c)))::.obj z (.deferred (some []))::L') _ ?_ ⟨Lr,h0,rfl⟩ W1 hS1.sep).mono ?_
 ·rintro j v L2 hj ⟨L',hi,rfl⟩ W hW0;have hmem:v∈vss:=PN hj;have hs:=St.start hW0;have hl:W.heap[z+1]?=some (.loop (rec .ready none)):=hs.sep.e _ (aK ..);have hy:=run_yield (P:=F.cx.P) (args:=v.toArray) hl (by rw [hrec];simp [hps v hmem]);rw [hrec] at hy;have hzz:(ps.toArray.zip v.toArray).foldl (fun tmps (x:Nat × Value)=>match x with | (t,a)=>tmps.setIfInBounds t a) a.tmps=(ps.zip v).foldl (fun t x=>t.setIfInBounds x.1 x.2) a.tmps:=by simp
  dsimp only at hy;rw [hzz] at hy;refine ⟨fn,_,assign,body,hy,roundIn_of_wpIn trivial ?_⟩;have hfr:FrOk F.n [] [] (Jl (ps.zip v) fr) { tmps:=(ps.zip v).foldl (fun t x=>t.setIfInBounds x.1 x.2) a.tmps,defers:=[] } :=
   FrOk.puts ⟨ha.size,rfl,ha.ent⟩ (hok v hmem)
  have hA:=VH (hassign (z+1) j v L' W hi hj) (Mem.le.refl _) hfr (St.start hs.drop.drop.sep);refine wpIn_mono hA (fun e a1 W2 q=>?_);obtain ⟨rfl,frA,LA,hAA,hfr1,hs1⟩:=q;have hs2a:=St.call (Lp:=L') (Lr:=[.obj (z+1) (.loop (rec .ready none)),.obj z (.deferred (some []))]) (St.perm hs (Rj (l₁:=[_,_]))) hs1;have hs2:St W C (.obj (z+1) (.loop (rec .ready none))::.obj z (.deferred (some []))::L') C (.obj (z+1) (.loop (rec .ready none))::.obj z (.deferred (some []))::LA) W2:=St.perm hs2a (Rj (l₂:=[_,_]));have hl2:W2.heap[z+1]?=some (.loop (rec .ready none)):=hs2.sep.e _ (aK ..);refine ⟨_,run_beginRound hl2 (by rw [hrec]), ?_⟩;have hs3:St W C (.obj (z+1) (.loop (rec .ready none))::.obj z (.deferred (some []))::L') C (.obj (z+1) (.loop (rec .busy none))::.obj z (.deferred (some []))::LA) (W2.putObj (z+1) (.loop { rec .ready none with state:=.busy })):=by
   have:=St.putObj (o':=.loop { rec .ready none with state:=.busy }) hs2;rw [hrec] at this ⊢;exact this
  have hB:=VH (hbody (z+1) j v L' frA LA (W2.putObj (z+1) (.loop { rec .ready none with state:=.busy })) hi hj hAA) (Mem.le.refl _) hfr1 (St.start hs3.drop.drop.sep);refine wpIn_mono hB (fun e a2 W4 q=>?_);have back:∀ L1,St (W2.putObj (z+1) (.loop { rec .ready none with state:=.busy })) C LA C L1 W4->St W C (.obj (z+1) (.loop (rec .ready none))::.obj z (.deferred (some []))::L') C (.obj (z+1) (.loop (rec .busy none))::.obj z (.deferred (some []))::L1) W4:=fun L1 hs4=>by
   have hs5:=St.call (Lp:=LA) (Lr:=[.obj (z+1) (.loop (rec .busy none)),.obj z (.deferred (some []))]) (St.perm hs3 (Rj (l₁:=[_,_]))) hs4;exact St.perm hs5 (Rj (l₂:=[_,_]))
  have leave:∀ (c:Code) L1,X c j L1->St (W2.putObj (z+1) (.loop { rec .ready none with state:=.busy })) C LA C L1 W4->∃ v W5,(Instr.endRound (z+1) (some c)).run F.cx.P W4=.ok v W5/\∃ b L2,Ending.returned v=.returned (.bool b) /\
    ((b=true/\∃ L',I (j+1) L'/\L2=.obj (z+1) (.loop (rec .ready none))::.obj z (.deferred (some []))::L')∨(b=false/\∃ c L',X c j L'/\L2=.obj (z+1) (.loop (rec .done (some c)))::.obj z (.deferred (some []))::L')) /\
    St W C (.obj (z+1) (.loop (rec .ready none))::.obj z (.deferred (some []))::L') C L2 W5:=fun c L1 hX hs4=>by
   have hs6:=back L1 hs4;have hl4:W4.heap[z+1]?=some (.loop (rec .busy none)):=hs6.sep.e _ (aK ..);refine ⟨_,_,run_endRound (some c) hl4,false,_,Z,.inr ⟨Z,c,L1,hX,Z⟩, ?_⟩;have:=St.putObj (o':=.loop { rec .busy none with state:=if (some c).isNone then .ready else .done,pending:=some c }) hs6;rw [hrec] at this ⊢;exact this
  rcases q with ⟨rfl,L1,hi1,hs4⟩ | ⟨c,L1,hc,hX,hs4⟩
  ·have hs6:=back L1 hs4;have hl4:W4.heap[z+1]?=some (.loop (rec .busy none)):=hs6.sep.e _ (aK ..);refine ⟨_,_,run_endRound none hl4,true,_,Z,.inl ⟨Z,L1,hi1,Z⟩, ?_⟩;have:=St.putObj (o':=.loop { rec .busy none with state:=if (none:Option Code).isNone then .ready else .done,pending:=none }) hs6;rw [hrec] at this ⊢;exact this
  cases e <;> simp only [Io] at hc <;> cases hc
  ·exact leave _ L1 hX hs4
  exact leave _ L1 hX hs4
 rintro e W2 ⟨⟨v,rfl⟩,M',L2,hL2,hs⟩;have hs':St F.b.w0 F.b.C0 F.b.L0 C L2 W2:=by
  have:=St.call (Lr:=[]) (by rw [Q8];exact hS1) hs;rw [Q8] at this;exact St.dropFront M' this
 have hfr:FrOk F.n [] ({ target:=.collected z,args:=#[] }::F.dd) fr { a with defers:=[{ target:=.collected z,args:=#[] }]++a.defers }:=⟨ha.size,by rw [ha.defers];rfl,ha.ent⟩;rcases hL2 with ⟨L',hi,rfl⟩ | ⟨j,hj,c,L',hX,rfl⟩
 ·have hl:W2.heap[z+1]?=some (.loop (rec .ready none)):=hs'.sep.e _ (aK ..);refine ⟨none,_,by have:=run_endLoop (P:=F.cx.P) hl (by rw [hrec];simp);rw [hrec] at this;exact this, ?_⟩;have hs2:St F.b.w0 F.b.C0 F.b.L0 C (.obj z (.deferred (some []))::L') (W2.putObj (z+1) (.loop { rec .ready none with state:=.exhausted })):=(St.putObj hs').drop;have:=Va 64 (hdone z L' hi) hle _ _ hfr hs2;rw [xQ] at this;rw [hrec] at this;exact this
 have hl:W2.heap[z+1]?=some (.loop (rec .done (some c))):=hs'.sep.e _ (aK ..);refine ⟨some c,_,by have:=run_endLoop (P:=F.cx.P) hl (by rw [hrec];simp);rw [hrec] at this;exact this, ?_⟩;have hs2:St F.b.w0 F.b.C0 F.b.L0 C (.obj z (.deferred (some []))::L') (W2.putObj (z+1) (.loop { rec .done (some c) with state:=.exhausted })):=(St.putObj hs').drop;have:=hstop z j c L' hj hX hle _ _ hfr hs2;rw [xQ] at this;simp only [Kq,hW] at this;rw [hrec] at this;exact (wpIn_wide (n:=3)).2 this
theorem Xn {id:Nat}{l:List Oper}(y:Nat)(t j:List Nat)(H:List (Nat × Nat)){r:Option Nat}{n:Nat}(aj:YW F.cx.P F.W r n)(m:fr.all (fun x=>x.2.1.isEmpty)=true)(ak:gg l.toArray=true)
  (hB:t++y::j=List.range l.toArray.size)
  (V:((t++y::j).all (fun i=>Nat.blt i l.length) && (!t.contains y && !j.contains y))=true)
  {f:Operand} {X:Array Operand} {ts:Array TypeId} {d:Nat} (Y:(kr l y).op=.call ⟨.value f,X,ts⟩) (hd:(kr l y).dst=some d)
  (h:∀ R:Rg F.n (l.map (·.dst)),C.le R.b.C0 ->
   (∀ {lp:Nat}{vs:List Value}{M Lo:List Ent}{N:Mem}{O:Bool->List Ent->Prop}{o:Fr}{C1:Mem}{L1:List Ent},YC F.cx.P lp vs N M O->N.le C1->gOn (l.map (·.dst)) o (kr l y).guard=true->∀ {g:GL},gOf (l.map (·.dst)) o (kr l y).guard=some g->ev o g f=some (.func (.yield lp) #[] #[]) ->
    jp (ev o g) X.toList=some vs->L1.Perm (M++Lo)->(∀ v,aP F.n (l.map (·.dst)) ((d,[],v)::o) d=true) ->
    (∀ b B,O b B->∀ q:Rg F.n (l.map (·.dst)),C.le q.b.C0->(∀ fr C L,fr.all (fun x=>x.2.1.isEmpty)=true->G F (iI 64 k) .normal fr C L->D F.cx q [] fr C L)->D F.cx q (gH l H j) ((d,[],.bool b)::o) C1 (B++Lo)) ->
    D F.cx R [] o C1 L1) ->
   D F.cx R (gH l H t) fr C L) :
  G F (.code (.region id l.toArray false)::k) .normal fr C L:=fun h0 a w E z=>by
 simp only [Kq];simp only [QU,T8,List.all_cons,S2,List.contains_eq_mem,Q2] at V;obtain ⟨⟨al,aa,am⟩,an,ao⟩:=V
 let kd:=fun i=>ovr H i (fX (kr l i))
 let b:Bs:=⟨F.b.w0,C,F.b.L0⟩
 let Post:Act->Mem × List Ent->Prop:=fun a κ=>∀ w,b.cls κ w->Kq F k .normal a w
 let q:Rg F.n (l.map (·.dst)):=⟨b,l.toArray,kd,Post,fun tmps=>eo l tmps,F.dd⟩
 let ap:Act->Mem × List Ent->Prop:=fun a κ=>DY r n y F.cx.P l.toArray b.cls kle kd Post (y::j) a κ
 let R1:Rg F.n (l.map (·.dst)):=⟨b,l.toArray,kd,ap,fun tmps=>eo l tmps,F.dd⟩
 have un:∀ κ w,b.cls κ w->F.b.cls κ w:=fun κ w I=>St.unbase h0 z.cn I;have aq:∀ fr C L,fr.all (fun x=>x.2.1.isEmpty)=true->G F (iI 64 k) .normal fr C L->D F.cx q [] fr C L:=fun fr C' L m hG Q _ a E w z=>Va 64 hG (h0.trans Q) a w ⟨E.size,E.defers,fun s g v J=>by
  have hm:=Q3.1 m _ (Fr.get_mem J);simp only [S6] at hm;subst hm;exact ⟨fun _=>(E.ent s [] v J).1 (fun p m=>by cases m),fun S=>absurd (fun p m=>by cases m) S⟩⟩ (un _ _ z)
 have ab:∀ (R:Rg F.n (l.map (·.dst)))(T:List Nat),R.ops=l.toArray->R.kd=kd->T.all (fun i=>Nat.blt i l.length)=true->∀ x∈gH l H T,R.kd x.1=x.2.1/\R.ops[x.1]?=some x.2.2:=fun R T ho hk ar x U=>by
  obtain ⟨h1,h2,h3⟩:=gG U;refine ⟨by rw [hk];exact h2.symm, ?_⟩;have ac:=Q3.1 ar x.1 h1;rw [TN] at ac;rw [ho,RS,fF ac,h3]
 rw [TN] at aa;have au:l.toArray[y]?=some (kr l y):=by rw [RS,fF aa]
 have hD:=h R1 (Mem.le.refl _) (fun {lp vs M Lo N O o C1 L1} hY av J g aw hf ax hL ay az Q _ A K=>by
  show ym r n y F.cx.P l.toArray b.cls kle (kd y) y (DY r n y F.cx.P l.toArray b.cls kle kd Post j) A (C1,L1);unfold ym;rw [aJ rfl];intro w1 aA;unfold wpOpIn;rw [au];simp only;have ad:Region.wanted (kr l y) (yielded l.toArray A.tmps)=true:=oB (fun tmps=>eo l tmps) K J;rw [aJ ad];refine ⟨fun _ _=>trivial, ?_⟩;have ae:=St.perm aA hL;have af:=ae.sep.front;obtain ⟨fn,tmps,assign,body,hy,hR⟩:=hY w1 (af.lessC av);have ag:∀ x u,ev o g x=some u->A.eval x=u:=fun x u U=>bx K ((gr (fun tmps=>eo l tmps) K aw).1 ad) U;show Oper.uponIn (Fo r) n F.cx.P (kr l y) A _ _ (((kr l y).semAt r A.eval).run F.cx.P w1);rw [Oper.semAt_eq r A.eval (kr l y) (fun c I=>by rw [Y] at I;cases I),Ft Y (ag _ _ hf) (dK ag ax) hy];rw [Oper.uponIn_round];refine ⟨(fun h=>(by cases h)),(yw hR).mono fun e W' ⟨bb,B,he,aB,hs⟩=>?_⟩;subst he;refine ⟨(C1,B++Lo),St.call ae (St.up af hs), ?_⟩;have ah:=az bb B aB q (Mem.le.refl _) aq Q (ab q j rfl rfl am) _ (K.put (ay (.bool bb)) ⟨fun _=>rfl,fun S=>absurd (fun p m=>by cases m) S⟩);rw [dX] at ah;have:=vl (r:=r) (n:=n) (y:=y) (ρ:=[]) (Post:=Post) (fun _ _ h=>h) j _ _ ao ah;rw [Q8] at this;rw [hd];exact this) (Mem.le.refl _) (ab R1 t Z Z al) a (E.enter _ m)
 rw [dX] at hD;have ai:=vl (r:=r) (n:=n) (y:=y) (ρ:=y::j) (Post:=Post) (fun _ _ h=>h) t _ _ an hD;rw [hB] at ai;exact aj (nG ak (cls:=b.cls) (le:=kle) kle.refl (St.rebase z) ai (fun a κ w hP z=>hP w z))
end
end Go.Jog
namespace Go.Jog
open Go
section
variable {cx:Cx} {fn:Func} {n:Nat} {fr:Fr} {C C':Mem} {L L1 LA:List Ent} {W1:World} {post:Value->Mem->List Ent->Prop} {W:Cw cx.P}
theorem Xh {A:Fr->List Ent->Prop}(b:Fr)(d:Has fr b)(f:A b LA) :
  G ⟨cx,fn,n,⟨W1,C,L⟩,post,W,[],fun e a w'=>e=.normal/\∃ c LA,A c LA/\FrOk n [] [] c a/\St W1 C L C LA w'⟩ [] .normal fr C' LA:=fun g _ _ h i =>
 ⟨rfl,b,LA,f,h.weaken d.sub,St.less i (Mem.le.refl _) g⟩
theorem Xs {I:List Ent->Prop}{X:Code->List Ent->Prop}{e:Exit}{c:Code}(a:Io e=some c)(b:X c L1) :
  G ⟨cx,fn,n,⟨W1,C,L⟩,post,W,[],fun e _ w'=>(e=.normal/\∃ L1,I L1/\St W1 C L C L1 w')∨(∃ c L1,Io e=some c/\X c L1/\St W1 C L C L1 w')⟩ [] e fr C' L1:=fun d _ _ _ f =>
 .inr ⟨c,L1,a,b,St.less f (Mem.le.refl _) d⟩
end
end Go.Jog
namespace Go.Jog
open Go
section
variable {cx:Cx} {fn:Func} {n:Nat} {fr:Fr} {C C':Mem} {L L1 LA:List Ent} {W1:World} {post:Value->Mem->List Ent->Prop} {W:Cw cx.P}
theorem Wt {Ds:List Nat}{b:Bs}{e:Exit}(k:e=.ret∨e=.normal){v:Value}
  (f:∀ a w,FrOk n [] (Ds.map zt) fr a->St b.w0 b.C0 b.L0 C L w->(results fn a.tmps).run cx.P w=.ok v w) (h:post v C []) :
  G ⟨cx,fn,n,b,post,Cw.plain cx.P,Ds.map zt,bodyPostM Fence.wide 3 cx.P fn (nL b post)⟩ [] e fr C (Ds.map rD++L):=fun p a w g c=>by
 have l:LeavesInM Fence.wide 3 cx.P fn a.tmps (nL b post) a.defers .returning w:=by
  have i:=g;rw [g.defers];have m:∀ (d:List Nat)(w:World),St b.w0 b.C0 b.L0 C (d.map rD++L) w->LeavesInM Fence.wide 3 cx.P fn a.tmps (nL b post) (d.map zt) .returning w:=by
   intro d;induction d with
   | nil=>exact fun w c=>⟨v,f a _ i c,v,C,[],rfl,St.dropAll c,h⟩
   | cons D d o =>
    intro w c;have j:w.heap[D]?=some (.deferred (some [])):=c.sep.e _ (aK ..);have hs:=(St.putObj (o':=.deferred none) c).drop;cases d with
    | nil=>exact ⟨by simp,.inl ⟨D,_,rfl,run_takeDeferred j,v,f a _ i hs,v,C,[],rfl,St.dropAll hs,h⟩⟩
    | cons E d=>exact ⟨by simp,.inl ⟨D,_,rfl,run_takeDeferred j,o _ hs⟩⟩
  exact m Ds w c
 rcases k with rfl | rfl <;> exact l
end
end Go.Jog
namespace Go.Jog
open Go
theorem FD {c:Cx}{d:Func}{n s t b u D E p G H:Nat}{g:Fr}{C:Mem}{L:List Ent}{h:List Deferred}{i:World}{j:Mem}{k:List Ent}{M N O:TypeId}{Q R S:Nat × Nat}{I J K:List Value}{l m o:TI}{y z x:Value}(U:Ent.obj b (.cells ⟨I⟩ M Q)∈L)(V:Ent.obj E (.cells ⟨J⟩ N R)∈L)(W:Ent.obj H (.cells ⟨K⟩ O S)∈L)(X:d.results=#[.cell s t,.cell u D,.cell p G])
  (Y:ev g [] (.tmp s)=some (.pointer (some ⟨b,0,none⟩))) (Z:ev g [] (.tmp u)=some (.pointer (some ⟨E,0,none⟩))) (aa:ev g [] (.tmp p)=some (.pointer (some ⟨H,0,none⟩))) (ht:c.T.get t=some l) (hv:bX l (I.take l.size)=some y) (ab:c.T.get D=some m) (ac:bX m (J.take m.size)=some z) (ad:c.T.get G=some o) (ae:bX o (K.take o.size)=some x) :
  ∀ a w,FrOk n [] h g a->St i j k C L w->(results d a.tmps).run c.P w=.ok (.tuple #[y,z,x]) w:=fun a w q r=>by
 have v:=bx q (fun p f=>by cases f) Y;have A:=bx q (fun p f=>by cases f) Z;have B:=bx q (fun p f=>by cases f) aa;simp only [Act.eval] at v A B;have hl:=ec (F:=⟨c,d,n,⟨i,j,k⟩,fun _ _ _=>True,Cw.plain c.P,h,fun _ _ _=>True⟩) ht (r.sep.e _ U) hv;have af:=ec (F:=⟨c,d,n,⟨i,j,k⟩,fun _ _ _=>True,Cw.plain c.P,h,fun _ _ _=>True⟩) ab (r.sep.e _ V) ac;have ag:=ec (F:=⟨c,d,n,⟨i,j,k⟩,fun _ _ _=>True,Cw.plain c.P,h,fun _ _ _=>True⟩) ad (r.sep.e _ W) ae;simp only [RF] at v A B;simp [results,X,v,A,B,asAddr,hl,af,ag]
end Go.Jog
namespace Go.Jog
section
variable {α:Type} [DecidableEq α]
theorem mem_dedup:∀ {l:List α}{x y:α},y∈l->y∈x::eS x l
 | z::l,x,y,h=>by
  simp only [eS];rcases QT.1 h with rfl | h
  ·by_cases e:y=x
   ·subst e;exact aK ..
   rw [aB e];exact QQ _ (aK ..)
  by_cases e:z=x
  ·rw [aJ e];exact mem_dedup h
  rw [aB e];exact QQ _ (mem_dedup h)
theorem mem_compact {l:List α}{y:α}(h:y∈l):y∈bC l:=by
 cases l with
 | nil=>cases h
 | cons x l =>
  rcases QT.1 h with rfl | h
  ·exact aK ..
  exact mem_dedup h
end
theorem uK:∀ {l:List Nat}{x:Nat},(x::l).Pairwise (·<=·)->(x::eS x l).Pairwise (·<·)
 | [],x,_=>by simp [eS]
 | z::l,x,h=>by
  have h1:=RC.1 h;simp only [eS];by_cases e:z=x
  ·subst e;rw [aJ rfl];exact uK h1.2
  rw [aB e];have h2:=uK h1.2;refine RC.2 ⟨fun y hy=>?_,h2⟩;have a:x<z:=by have:=h1.1 z aK;omega
  rcases QT.1 hy with rfl | hy
  ·exact a
  have:=(RC.1 h2).1 y hy;omega
theorem D9 {l:List Nat}(h:l.Pairwise (·<=·)):(bC l).Pairwise (·<·):=by
 cases l with
 | nil=>exact List.Pairwise.nil
 | cons x l=>exact uK h
theorem zq {l:List Nat}{x:Nat}:bC (l++[x])=if (bC l).getLast?=some x then bC l else bC l++[x]:=by
 cases h:l.getLast? with
 | none =>
  rw [List.getLast?_eq_none_iff] at h;subst h;rfl
 | some z =>
  have b:l≠[]:=fun e=>by subst e;cases h
  have f:0<l.length:=Ru.2 b;have c:l[l.length-1]?=some z:=by rw [<- SE];exact h
  have d:(bC l).getLast?=some z:=by
   cases l with
   | nil=>cases h
   | cons y l =>
    have:∀ (l:List Nat)(y:Nat),(y::eS y l).getLast?=(y::l).getLast?:=by
     intro l;induction l with
     | nil=>intro y;rfl
     | cons w l a =>
      intro y;simp only [eS];by_cases e:w=y
      ·subst e;rw [aJ rfl,a w];rfl
      rw [aB e,List.getLast?_cons_cons,a w,List.getLast?_cons_cons]
    rw [<- h];exact this l y
  rw [jz c om_,d];simp only [Rc]
theorem Lp.InfR.part {p:Lp.Sys}{k:Nat}{c:Nat->Rat}(h:Lp.InfR p k c){y:Nat->Rat}(d:∀ r,r<p.m->c r≠0->Lp.sumN (fun j=>p.a r j*y j) p.n<=p.b r):False:=by
 have h1:Lp.sumN (fun r=>c r*Lp.sumN (fun j=>p.a r j*y j) p.n) p.m<=Lp.sumN (fun r=>c r*p.b r) p.m:=Lp.sumN_mono fun r hr=>by
  by_cases e:c r=0
  ·rw [e];grind
  exact Uc (d r hr e) (h.pos r)
 have h2:Lp.sumN (fun r=>c r*Lp.sumN (fun j=>p.a r j*y j) p.n) p.m=0:=by
  have f:Lp.sumN (fun r=>c r*Lp.sumN (fun j=>p.a r j*y j) p.n) p.m=Lp.sumN (fun r=>Lp.sumN (fun j=>c r*(p.a r j*y j)) p.n) p.m:=Lp.sumN_congr fun r _=>(Lp.sumN_mul _ _ _).symm;rw [f,Lp.sumN_swap];refine Lp.sumN_zero fun j g=>?_;have i:Lp.sumN (fun r=>c r*(p.a r j*y j)) p.m=y j*Lp.sumN (fun r=>c r*p.a r j) p.m:=by
   rw [<- Lp.sumN_mul];exact Lp.sumN_congr fun r _=>by grind
  rw [i,h.fac j g];grind
 have h3:=h.bnd;grind
end Go.Jog
namespace Go.Jog
theorem Ke {b j:Nat}:(List.range (j+1)).filter (fun i=>b.testBit i)=(List.range j).filter (fun i=>b.testBit i)++(if b.testBit j then [j] else []):=by
 rw [RL,Sh];congr 1;simp only [List.filter_cons,List.filter_nil]
theorem H2 (b j:Nat):((b / 2 ^ j &&& 1:Nat) == 1)=b.testBit j:=by
 rw [Nat.and_one_is_mod,Nat.testBit_eq_decide_div_mod_eq];by_cases h:b / 2 ^ j % 2=1
 ·rw [h];rfl
 rw [RJ.2 h,Q6 h]
end Go.Jog
namespace Go.Jog
open Go
section
variable {cx:Cx} {n:Nat} {ds:List (Option Nat)} {R:Rg n ds} {its:List It} {fr:Fr} {C:Mem} {L:List Ent} {i k d:Nat} {o:Oper} {g:GL}
theorem Bz {a:Nat}(b:a<256):(BitVec.ofInt 8 (a:Int)).toNat=a:=by
 rw [BitVec.ofInt_natCast,BitVec.toNat_ofNat];exact S7 om_
theorem Ip {a:Nat}(b:a<256):IntKind.u8.wrap (a:Int)=a:=by
 rw [IntKind.wrap_u8];omega
theorem WQ (a b:Nat){t c:Nat}{x y:Operand}{p q:Int}(f:Nat.ble k 1=true)(j:o.dst=some d)(l:o.op=.binOp .and t x y c)(m:gOf ds fr o.guard=some g)(r:ev fr g x=some (.int .u8 p))(s:ev fr g y=some (.int .u8 q))
  (u:p=a) (v:q=b) (z:a<256) (F:b<256) (B:aP n ds ((d,g,.int .u8 ((a &&& b:Nat):Int))::fr) d=true) (E:wfG ds fr g=true)
  (h:D cx R its ((d,g,.int .u8 ((a &&& b:Nat):Int))::fr) C L):D cx R ((i,k,o)::its) fr C L :=
 D.run _ f j m (fun _ A hs w=>by
  subst u v;rw [bS l (hs _ _ r) (hs _ _ s) (fun _ _=>.inl am) (.inl am) w];have e:IntKind.u8.wrap ((BitVec.ofInt 8 (a:Int) &&& BitVec.ofInt 8 (b:Int)).toNat:Int)=((a &&& b:Nat):Int):=by
   rw [BitVec.toNat_and,Bz om_,Bz om_];exact Ip (RD Nat.and_le_left z)
  simp [binOp,Op.intBits,IntKind.bits];exact e) B E h
theorem WN (a m:Nat){b:IntKind}{t c:Nat}{x y:Operand}{p q:Int}(f:Nat.ble k 1=true)(j:o.dst=some d)(l:o.op=.binOp .shr t x y c)(r:gOf ds fr o.guard=some g)(s:ev fr g x=some (.int .u8 p))(u:ev fr g y=some (.int b q))
  (v:p=a) (z:q=m) (H:m<=7) (B:aP n ds ((d,g,.int .u8 ((a / 2 ^ m:Nat):Int))::fr) d=true) (E:wfG ds fr g=true)
  (h:D cx R its ((d,g,.int .u8 ((a / 2 ^ m:Nat):Int))::fr) C L):D cx R ((i,k,o)::its) fr C L :=
 D.run _ f j r (fun _ A hs w=>by
  subst v z;rw [bS l (hs _ _ s) (hs _ _ u) (fun _ _=>.inl am) (.inl am) w];have h0:¬ ((m:Int)<0):=by omega
  have F:Min.min m 8=m:=by omega
  have e:(a:Int).fdiv (2 ^ m)=((a / 2 ^ m:Nat):Int):=by
   have G:(2:Int) ^ m=((2 ^ m:Nat):Int):=by norm_cast
   rw [G,Int.fdiv_eq_ediv_of_nonneg _ (TL _)];exact (TX _ _).symm
  simp only [binOp,Op.shift,h0,RU,Sm,IntKind.bits,F,Sem.run_pure,Result.andThen_ok];rw [e]) B E h
end
end Go.Jog
namespace Go.Proofs.YthnpijdjlddpmaaGreatDoor
open Go.Proofs.Tryz
open Go Go.Jog
variable {C:Mem}{i k:Nat}{l:List Nat}{m n:Nat}{u v:Value}
def tab:Tab:=[(2,⟨.int .i64,1,8,[.int .i64],false⟩),
 (3,⟨.int .i64,1,8,[.int .i64],false⟩),
 (4,⟨.bool,1,1,[.bool],false⟩),
 (5,⟨.int .u8,1,1,[.int .u8],false⟩),
 (9,⟨.str,1,16,[.str],false⟩),
 (12,⟨.int .u64,1,8,[.int .u64],false⟩),
 (21,⟨.int .i32,1,4,[.int .i32],false⟩),
 (22,⟨.int .i8,1,1,[.int .i8],false⟩),
 (23,⟨.arr 2 22,2,2,[.int .i8,.int .i8],true⟩),
 (25,⟨.struct [(5,0),(23,1),(4,3)],4,4,[.int .u8,.int .i8,.int .i8,.bool],true⟩),
 (26,⟨.arr 6 22,6,6,[.int .i8,.int .i8,.int .i8,.int .i8,.int .i8,.int .i8],true⟩),
 (28,⟨.struct [(26,0),(4,6)],7,7,[.int .i8,.int .i8,.int .i8,.int .i8,.int .i8,.int .i8,.bool],true⟩),
 (29,⟨.slice 140,1,24,[.slice],false⟩),
 (31,⟨.struct [(25,0),(28,4),(29,11)],12,40,[.int .u8,.int .i8,.int .i8,.bool,.int .i8,.int .i8,.int .i8,.int .i8,.int .i8,.int .i8,.bool,.slice],true⟩),
 (33,⟨.slice 58,1,24,[.slice],false⟩),
 (34,⟨.slice 108,1,24,[.slice],false⟩),
 (36,⟨.struct [(33,0),(34,1)],2,48,[.slice,.slice],true⟩),
 (37,⟨.slice 56,1,24,[.slice],false⟩),
 (38,⟨.slice 56,1,24,[.slice],false⟩),
 (39,⟨.slice 111,1,24,[.slice],false⟩),
 (40,⟨.slice 62,1,24,[.slice],false⟩),
 (42,⟨.struct [(36,0),(38,2),(39,3),(40,4)],5,120,[.slice,.slice,.slice,.slice,.slice],true⟩),
 (45,⟨.slice 50,1,24,[.slice],false⟩),
 (46,⟨.int .i64,1,8,[.int .i64],false⟩),
 (50,⟨.slice 3,1,24,[.slice],false⟩),
 (56,⟨.str,1,16,[.str],false⟩),
 (58,⟨.struct [(56,0),(56,1)],2,32,[.str,.str],true⟩),
 (60,⟨.struct [(56,0),(56,1),(56,2)],3,48,[.str,.str,.str],true⟩),
 (62,⟨.struct [(3,0),(9,1),(58,2),(56,4),(9,5),(9,6),(60,7)],10,152,[.int .i64,.str,.str,.str,.str,.str,.str,.str,.str,.str],true⟩),
 (63,⟨.slice 5,1,24,[.slice],false⟩),
 (75,⟨.struct [(37,0)],1,24,[.slice],true⟩),
 (78,⟨.slice 123,1,24,[.slice],false⟩),
 (80,⟨.struct [(3,0),(78,1),(37,2)],3,56,[.int .i64,.slice,.slice],true⟩),
 (89,⟨.struct [(5,0),(5,1),(56,2)],3,24,[.int .u8,.int .u8,.str],true⟩),
 (96,⟨.ptr 153,1,8,[.ptr],false⟩),
 (99,⟨.int .u64,1,8,[.int .u64],false⟩),
 (100,⟨.slice 99,1,24,[.slice],false⟩),
 (107,⟨.arr 3 3,3,24,[.int .i64,.int .i64,.int .i64],true⟩),
 (108,⟨.arr 3 3,3,24,[.int .i64,.int .i64,.int .i64],true⟩),
 (111,⟨.struct [(9,0),(56,1),(56,2)],3,48,[.str,.str,.str],true⟩),
 (119,⟨.slice 125,1,24,[.slice],false⟩),
 (123,⟨.struct [(37,0),(56,1)],2,40,[.slice,.str],true⟩),
 (125,⟨.struct [(3,0),(123,1)],3,48,[.int .i64,.slice,.str],true⟩),
 (127,⟨.func,1,8,[.func],false⟩),
 (137,⟨.arr 2 5,2,2,[.int .u8,.int .u8],true⟩),
 (138,⟨.arr 3 22,3,3,[.int .i8,.int .i8,.int .i8],true⟩),
 (140,⟨.struct [(5,0),(23,1),(137,3),(5,5),(138,6)],9,9,[.int .u8,.int .i8,.int .i8,.int .u8,.int .u8,.int .u8,.int .i8,.int .i8,.int .i8],true⟩),
 (142,⟨.struct [(3,0),(3,1)],2,16,[.int .i64,.int .i64],true⟩),
 (149,⟨.map 9 4,1,8,[.map],false⟩),
 (151,⟨.map 99 4,1,8,[.map],false⟩),
 (153,⟨.struct [(42,0),(151,5)],6,128,[.slice,.slice,.slice,.slice,.slice,.map],true⟩),
 (158,⟨.int .u32,1,4,[.int .u32],false⟩),
 (160,⟨.int .u64,1,8,[.int .u64],false⟩),
 (164,⟨.struct [(3,0),(56,1),(37,2),(75,3),(37,4)],5,96,[.int .i64,.str,.slice,.slice,.slice],true⟩),
 (167,⟨.str,1,16,[.str],false⟩),
 (177,⟨.func,1,8,[.func],false⟩),
 (179,⟨.slice 183,1,24,[.slice],false⟩),
 (183,⟨.arr 2 3,2,16,[.int .i64,.int .i64],true⟩),
 (186,⟨.arr 3 9,3,48,[.str,.str,.str],true⟩),
 (189,⟨.map 58 4,1,8,[.map],false⟩),
 (202,⟨.ptr 212,1,8,[.ptr],false⟩),
 (209,⟨.struct [(56,0),(37,1)],2,40,[.str,.slice],true⟩),
 (210,⟨.slice 209,1,24,[.slice],false⟩),
 (212,⟨.struct [(3,0),(50,1),(210,2),(50,3),(209,4)],6,120,[.int .i64,.slice,.slice,.slice,.str,.slice],true⟩),
 (242,⟨.map 183 3,1,8,[.map],false⟩),
 (245,⟨.map 3 4,1,8,[.map],false⟩),
 (249,⟨.arr 3 58,6,96,[.str,.str,.str,.str,.str,.str],true⟩),
 (253,⟨.slice 38,1,24,[.slice],false⟩),
 (255,⟨.func,1,8,[.func],false⟩),
 (263,⟨.func,1,8,[.func],false⟩),
 (264,⟨.arr 32 5,32,32,[.int .u8,.int .u8,.int .u8,.int .u8,.int .u8,.int .u8,.int .u8,.int .u8,.int .u8,.int .u8,.int .u8,.int .u8,.int .u8,.int .u8,.int .u8,.int .u8,.int .u8,.int .u8,.int .u8,.int .u8,.int .u8,.int .u8,.int .u8,.int .u8,.int .u8,.int .u8,.int .u8,.int .u8,.int .u8,.int .u8,.int .u8,.int .u8],true⟩),
 (272,⟨.func,1,8,[.func],false⟩),
 (273,⟨.slice 37,1,24,[.slice],false⟩),
 (278,⟨.map 3 56,1,8,[.map],false⟩),
 (284,⟨.func,1,8,[.func],false⟩),
 (295,⟨.ptr 3,1,8,[.ptr],false⟩),
 (305,⟨.slice 160,1,24,[.slice],false⟩),
 (307,⟨.struct [(4,0),(305,1)],2,32,[.bool,.slice],true⟩),
 (315,⟨.func,1,8,[.func],false⟩),
 (317,⟨.map 3 3,1,8,[.map],false⟩),
 (318,⟨.func,1,8,[.func],false⟩),
 (327,⟨.arr 3 56,3,48,[.str,.str,.str],true⟩),
 (328,⟨.arr 3 56,3,48,[.str,.str,.str],true⟩),
 (346,⟨.iface,1,16,[.iface],false⟩),
 (352,⟨.ptr 354,1,8,[.ptr],false⟩),
 (354,⟨.struct [(352,0),(63,1)],2,32,[.ptr,.slice],true⟩),
 (357,⟨.func,1,8,[.func],false⟩),
 (371,⟨.ptr 209,1,8,[.ptr],false⟩),
 (372,⟨.arr 24 5,24,24,[.int .u8,.int .u8,.int .u8,.int .u8,.int .u8,.int .u8,.int .u8,.int .u8,.int .u8,.int .u8,.int .u8,.int .u8,.int .u8,.int .u8,.int .u8,.int .u8,.int .u8,.int .u8,.int .u8,.int .u8,.int .u8,.int .u8,.int .u8,.int .u8],true⟩),
 (383,⟨.ptr 5,1,8,[.ptr],false⟩),
 (386,⟨.arr 20 160,20,160,[.int .u64,.int .u64,.int .u64,.int .u64,.int .u64,.int .u64,.int .u64,.int .u64,.int .u64,.int .u64,.int .u64,.int .u64,.int .u64,.int .u64,.int .u64,.int .u64,.int .u64,.int .u64,.int .u64,.int .u64],true⟩),
 (390,⟨.struct [(58,0),(56,2)],3,48,[.str,.str,.str],true⟩),
 (391,⟨.arr 3 390,9,144,[.str,.str,.str,.str,.str,.str,.str,.str,.str],true⟩),
 (393,⟨.func,1,8,[.func],false⟩),
 (395,⟨.int .i64,1,8,[.int .i64],false⟩),
 (398,⟨.ptr 408,1,8,[.ptr],false⟩),
 (408,⟨.struct [(9,0),(9,1),(346,2)],3,48,[.str,.str,.iface],true⟩),
 (410,⟨.ptr 412,1,8,[.ptr],false⟩),
 (412,⟨.struct [(9,0)],1,16,[.str],true⟩),
 (415,⟨.arr 0 16,0,0,[],true⟩)]
noncomputable def cx:Cx:={ P:=Tryz.prog,T:=tab,mixed:=by kernel_rfl,hT:=by kernel_rfl }
abbrev Str:=List UInt8
/-! ### The model -/
structure Rel where
 kind:Int
 upper:Str
 lower:Str
 deriving DecidableEq,Inhabited
def pQ (b:UInt8):Bool:=(decide (97<=(b.toNat:Int)) && decide ((b.toNat:Int)<=122)) || (decide (65<=(b.toNat:Int)) && decide ((b.toNat:Int)<=90))
def xq (b:UInt8):Bool:=(decide (48<=(b.toNat:Int)) && decide ((b.toNat:Int)<=57)) || ((b.toNat:Int) == 95)
def jP (k:Nat)(b:UInt8):Bool:=pQ b || (!(k == 0) && xq b)
def ie:Nat->Str->Bool
 | _,[]=>true
 | k,b::s=>jP k b && ie (k+1) s
def cU (s:Str):Bool:=!(s == []) && decide (s.length<=32) && ie 0 s
theorem pG:∀ {s:Str}{k i:Nat}{b:UInt8},s[i]?=some b->jP (k+i) b=false->ie k s=false
 | [],k,i,b,h,_=>by simp at h
 | c::s,k,0,b,h,a=>by
  simp at h;subst h;simp only [SG] at a;simp [ie,a]
 | c::s,k,i+1,b,h,a=>by
  have:=pG (k:=k+1) (by simpa using h) (by rw [show k+1+i=k+(i+1) by omega];exact a);simp [ie,this]
theorem nA:∀ {s:Str}{k:Nat},(∀ i b,s[i]?=some b->jP (k+i) b=true)->ie k s=true
 | [],k,_=>rfl
 | c::s,k,h=>by
  have h0:=h 0 c am;simp only [SG] at h0;have h1:=nA (s:=s) (k:=k+1) (fun i b a=>by
   have:=h (i+1) b (by simpa using a)
   rwa [show k+(i+1)=k+1+i by omega] at this)
  simp [ie,h0,h1]
/-! ### IsName -/
set_option maxRecDepth 100000 in
theorem ik (C:Mem)(s:Str)(B:s.length<1000000):Gives cx.P 105 [ai s] C (.bool (cU s)):=by
 refine Uv func105 57 U3 fun w0=>?_;refine Um 1 [0,2] Z ?_;refine Un 6 Z fun R a=>?_;refine UU U8 ?_;refine Ut [0,13] a Z ?_;refine G.cond Z (fun h=>?_) (fun h=>?_)
 ·refine Um 1 [2] Z ?_;refine Uu U2 ?_;refine ⟨?_,Z⟩;congr 1;simp only [Sr,Sn,QR] at h;unfold cU;rcases h with h | h
  ·have:s=[]:=h;simp [this]
  have h2:¬ s.length<=32:=by omega
  simp [h2]
 simp only [Sq,RJ,Q2] at h;have q:s≠[]:=h.1;have r:s.length<=32:=by have:=h.2;omega
 refine Un 1 Z fun R a=>?_;refine WB Z Z Z Z Z Z Z Z Z Z (by simp only [maxLen];omega) fl_ (fun D _ _ g=>?_);have t:=g;obtain ⟨A,c,rfl,_⟩:=t;refine C4 2 [15,16,17] a Z ?_;refine G.loop (fun fr C' j m=>∃ k:Nat,k<=s.length/\(∀ i b,i<k->s[i]?=some b->jP (0+i) b=true)/\fr=[(15,[],.slice A (s.map fun b=>[Value.int .u8 b.toNat]).length c),(16,[],.int .i64 (s.map fun b=>[Value.int .u8 b.toNat]).length),(17,[],.int .i64 k)]/\j=[]/\m=s.length-k) (m:=s.length) (hn_ [15,16,17] Z) ⟨0,QK _,fun i b u=>by omega,Z,Z,Z⟩ (fun fr C' j m l v=>?_);obtain ⟨k,E,n,rfl,rfl,rfl⟩:=v;refine Um 1 [15,16,17,18] Z ?_;refine G.cond Z (fun h=>?_) (fun h=>?_)
 ·simp only [ax,QR] at h;have w:k<s.length:=by omega
  obtain ⟨b,d⟩:∃ b,s[k]?=some b:=⟨s[k],aj w⟩;have x:=g.mono l;refine Un 1 Z fun R a=>?_;refine UE x U10 om_ (row:=[.int .u8 b.toNat]) (by simp [d]) fl_ (fun F y=>?_);refine Uo y U8 ?_;refine C4 2 [3,4,15,16,17] a Z ?_;refine Un 5 Z fun R a=>?_;refine UM U8 ?_;refine Us 6 Z ?_;refine UM U8 ?_;refine UU U8 ?_;refine Uq U6 ?_;refine VI [E_ 3 _,E_ 4 _,(5,[],.bool (pQ b)),E_ 15 _,E_ 16 _,E_ 17 _] a ?_;refine Un 5 Z fun R a=>?_;refine UM U8 ?_;refine Us 3 Z ?_;refine UU U8 ?_;refine Uq U6 ?_;refine VI [E_ 3 _,E_ 5 _,(6,[],.bool (xq b)),E_ 15 _,E_ 16 _,E_ 17 _] a ?_;refine Un 8 Z fun R a=>?_;refine UU U8 ?_;refine UM U8 ?_;refine VI [E_ 15 _,E_ 16 _,E_ 17 _,(55,[],.bool (!(pQ b) && (((k:Int) == 0) || !(xq b))))] a ?_;have o:(!(pQ b) && (((k:Int) == 0) || !(xq b)))=!(jP (0+k) b):=by
   have e:((k:Int) == 0)=(0+k == 0):=by
    rw [RR];by_cases p:k=0
    ·subst p;rfl
    have:¬ (k:Int)=0:=by omega
    rw [RJ.2 this,RJ.2 p]
   unfold jP;rw [e];cases pQ b <;> cases xq b <;> cases (0+k == 0) <;> rfl
  refine G.cond Z (fun h=>?_) (fun h=>?_)
  ·rw [o] at h;refine Um 1 [2] Z ?_;refine Uu U2 ?_;refine ⟨?_,Z⟩;have:=pG (k:=0) d (by simpa using h);simp [cU,this]
  rw [o] at h;refine Ur fun R a=>?_;refine UY ((k+1:Nat):Int) U4 om_ om_ om_ U2 ?_;refine C4 1 [15,16,17] a Z ?_;refine UB (m':=s.length-(k+1)) om_ l (hn_ [15,16,17] Z) ⟨k+1,by omega, ?_,Z,Z,Z⟩;intro i z u f;rcases Rh i k with h1 | h1
  ·exact n i z h1 f
  have:i=k:=by omega
  subst this;rw [d] at f;cases f
  simpa using h
 simp only [ax,Q2] at h;refine Um 1 [2] Z ?_;refine Uu U2 ?_;refine ⟨?_,Z⟩;have:=nA (s:=s) (k:=0) (fun i b d=>n i b (by have:=(aE.1 d).1;omega) d);simp [cU,this,q,r]
set_option maxRecDepth 100000
structure ArcE where
 lower:Str
 upper:Str
 deriving DecidableEq,Inhabited
theorem Pr (a b:Str):(a == b)=decide (a=b):=by by_cases h:a=b <;> simp [h]
set_option maxRecDepth 100000
def LY (a b:Int):Int:=if a<b then -1 else if a=b then 0 else 1
/-! ### Comparisons -/
structure TotC {α:Type}(f:α->α->Int):Prop where
 eq:∀ x y,f x y=0 ↔ x=y
 sym:∀ x y,f x y<0 ↔ 0<f y x
 trans:∀ x y z,f x y<0->f y z<0->f x z<0
section
variable {α:Type} {f:α->α->Int}
variable [DecidableEq α]
theorem mem_dedup:∀ {l:List α}{x y:α},y∈l->y=x∨y∈eS x l
 | z::l,x,y,h=>by
  simp only [eS];rcases QT.1 h with e | h
  ·subst e;split
   ·rename_i e;exact .inl e
   exact .inr am
  split
  ·exact mem_dedup h
  rcases mem_dedup (x:=z) h with e | h1
  ·exact .inr (by simp [e])
  exact .inr (by simp [h1])
theorem mem_compact {l:List α}{y:α}:y∈bC l ↔ y∈l:=by
 refine ⟨qH,fun h=>?_⟩;cases l with
 | nil=>exact h
 | cons x l =>
  simp only [bC];rcases QT.1 h with e | h
  ·simp [e]
  rcases mem_dedup (x:=x) h with e | h1 <;> simp [*]
def ins (f:α->α->Int)(x:α):List α->List α
 | []=>[x]
 | y::l=>if f y x<0 then y::ins f x l else if y=x then y::l else x::y::l
end
def lZ (x:Int):List Value:=[.int .i64 x]
def aL (i:Nat):List Value:=[.int .i64 i]
abbrev PW (b:Nat):Value:=.pointer (some ⟨b,0,none⟩)
abbrev N2 (b:Nat)(q:Option Addr)(v:Value):Ent:=.obj b (.cells ⟨[.pointer q,v]⟩ 354 (0,0))
abbrev u8s (s:Str):List Value:=s.map fun c=>Value.int .u8 c.toNat
abbrev N3 (v:Value)(s:Str):Ent:=.arr v 5 1 s.length (u8s s)
theorem sV (C:Mem)(b:Nat)(q:Option Addr)(v:Value)(g:q=none∨q=some ⟨b,0,none⟩):Jog.Fn cx.P 284 [PW b] C [N2 b q v] fun _ _ d=>d=[N2 b (some ⟨b,0,none⟩) v]:=by
 refine Uv func284 20 U3 fun w0=>UF (L':=[.obj b (.cells ⟨[.pointer q,v]⟩ 354 (0,0))]) Z<|Un 3 Z fun R a=>Uw af U9<|WJ (e:=354) Z Z Z Z Z kr_ kr_ Z Z<|Ut [0,6] a Z<|Up (fun c=>?_) fun c=>?_
 ·have h:q=none:=by simpa using c
  subst h;refine Un 2 Z fun R a=>WA (t:=354) Z Z Z Z Z af kr_ kr_ kr_ am fl_<|WD (fn:=Tryz.f311) Z Z Z Z Z func311 kr_ kr_ kr_ kr_ fl_<|WR (t:=354) Z Z Z Z Z af kr_ kr_ kr_ kr_ fl_<|Us 2 Z<|Uy (j:=0) U12<|Vv [] trivial (a _ _ _ Z ?_);refine Vy Z ?_;rfl
 have i:q=some ⟨b,0,none⟩:=by
  rcases g with rfl | rfl
  ·simp at c
  rfl
 subst i;refine Un 3 Z fun R a=>Uw af U9<|Uq U6<|WW (e:=354) Z Z Z Z Z Z kr_ kr_ Z Z<|Ut [19] a Z<|Up (fun f=>?_) fun f=>?_
 ·cases f
 refine Vy Z ?_;rfl
theorem vA (C:Mem)(b:Nat)(q:Option Addr)(v:Value)(s:Str)(c:UInt8)(i:q=none∨q=some ⟨b,0,none⟩)(m:s.length<=1000000000):Jog.Fn cx.P 253 [PW b,.int .u8 c.toNat] C [N2 b q v,N3 v s] fun _ _ a=>∃ h,a=[N2 b (some ⟨b,0,none⟩) h,N3 h (s++[c])]:=by
 refine Uv func253 17 U3 fun w0=>UF (L':=[.obj b (.cells ⟨[.pointer q,v]⟩ 354 (0,0)),.arr v 5 1 s.length (u8s s)]) Z<|Um 1 [0,1] Z<|UO [(1,3)] Z fun R d=>Uq U6<|D.call (sV _ b q v i) Z (.inr dc_) U6 (QL _) fl_ fun n _ o _ k=>Ut [0,1] d Z ?_;subst k;refine UF (L':=[.obj b (.cells ⟨[.pointer (some ⟨b,0,none⟩),v]⟩ 354 (0,0)),.arr v 5 1 s.length (u8s s)]) Z<|Un 4 Z fun R d=>Uw af U9<|Uq U6<|UJ [[.int .u8 c.toNat]] U12 fun p _ _ l=>UR (j:=1) U11 l Z aw (by simp only [aU];omega) fl_ fun e f g=>Us 2 Z<|Uy (j:=1) U12<|Vv [] trivial (d _ _ _ Z ?_);refine Um 1 [4] Z<|G.perm (L':=[.obj b (.cells ⟨[.pointer (some ⟨b,0,none⟩),.slice e f g]⟩ 354 (0,0)),.arr (.slice e f g) 5 1 (s.length+1) (u8s s++[Value.int .u8 c.toNat])]) (QL _)<|UA (U0 Z Z ?_);exact ⟨.slice e f g,by simp [N3,u8s]⟩
theorem kz (C:Mem)(b:Nat)(q:Option Addr)(v:Value)(s t:Str)(e:q=none∨q=some ⟨b,0,none⟩)(g:s.length+t.length<=1000000000):Jog.Fn cx.P 256 [PW b,ai t] C [N2 b q v,N3 v s] fun _ _ a=>∃ d,a=[N2 b (some ⟨b,0,none⟩) d,N3 d (s++t)]:=by
 refine Uv func256 19 U3 fun w0=>UF (L':=[.obj b (.cells ⟨[.pointer q,v]⟩ 354 (0,0)),.arr v 5 1 s.length (u8s s)]) Z<|Um 2 [0,1] Z<|UO [(1,3)] Z fun R c=>Uq U6<|D.call (sV _ b q v e) Z (.inr dc_) U6 (QL _) fl_ fun h _ i _ f=>Ut [0,1] c Z ?_;subst f;refine UF (L':=[.obj b (.cells ⟨[.pointer (some ⟨b,0,none⟩),v]⟩ 354 (0,0)),.arr v 5 1 s.length (u8s s)]) Z<|Un 4 Z fun R c=>Uw af U9<|Uq U6<|WZ (j:=1) Z Z Z Z Z Z Z Z Z Z Z Z Z Z Z om_ fl_ fun A2 n2 c2=>Us 2 Z<|Uy (j:=1) U12<|Ut [1] c Z<|Um 4 [4,5] Z<|G.perm (L':=[.obj b (.cells ⟨[.pointer (some ⟨b,0,none⟩),.slice A2 n2 c2]⟩ 354 (0,0)),.arr (.slice A2 n2 c2) 5 1 (s.length+t.length) (u8s s++t.map fun b=>Value.int .u8 b.toNat)]) (QL _)<|UA (UP U3 ?_);exact ⟨.slice A2 n2 c2,by simp [N3,u8s]⟩
theorem Ed (C:Mem)(b:Nat)(q:Option Addr)(v:Value)(s:Str)(a:s≠[])(g:s.length<=1000000000):Jog.Fn cx.P 257 [PW b] C [N2 b q v,N3 v s] fun u _ c=>u=ai s/\c=[]:=by
 refine Uv func257 14 U3 fun w0=>UF (L':=[.obj b (.cells ⟨[.pointer q,v]⟩ 354 (0,0)),.arr v 5 1 s.length (u8s s)]) Z<|G.form ae (fun d h=>?_);have i:=Ru.2 a;rcases d with ⟨h1,h2⟩ | ⟨g0,c0,rfl,k,l⟩
 ·omega
 exact Um 1 [0] Z<|UK [0,1,2,3,4,5,6,7,8,9,10,11] [(4,0)] Z kr_ fun R m f=>Us 3 Z<|Uw af U9<|WU Z Z Z Z Z om_ Z Z<|Us 3 Z<|Uw af U9<|Uq U6<|WT (j:=1) (e:=5) Z Z Z Z kr_ kr_ Z Z Z a om_ fl_<|C4 1 [2] f Z<|Uu U2<|⟨Z,Z⟩
def cj (x:Nat):List Value:=[.int .u64 x]
theorem eH (x:Nat):(cj x).length=1:=rfl
def NineC (C:Mem)(v:Value)(n:Nat):Prop:=∃ l,yf l/\bB l=n/\Sl C 1 v (l.map cj)
theorem NineC.mono {C D:Mem}{v:Value}{n:Nat}(h:NineC C v n)(a:C.le D):NineC D v n:=by
 obtain ⟨l,h1,h2,h3⟩:=h;exact ⟨l,h1,h2,h3.mono a⟩
theorem NineC.m_ {D:Mem}(h:NineC C v n)(a:C.le D:=by exact mup):NineC D v n:=NineC.mono h a
theorem AG (C:Mem)(v:Value)(l:List Nat)(d:Sl C 1 v (l.map cj)):Pur cx.P 252 [v] C fun u C'=>Sl C' 1 u ((EG l).map cj):=by
 obtain ⟨o,c0,rfl,p,_⟩:=id d;simp only [ax] at d p ⊢;refine Uv func252 21 U3 fun w0=>Um 1 [0] Z<|G.loop (fun fr C' q r=>∃ (k:Nat)(A:Option Addr)(c:Nat),(k<=l.length/\Sl C' 1 (.slice A k c) ((l.take k).map cj)/\na l l.length=na l k)/\fr=[(0,[],.slice A k c)]/\q=[]/\r=k+1) (hn_ [0] Z) ⟨l.length,o,c0,⟨QG _,by rw [QV];exact d,Z⟩,Z,Z,Z⟩ (fun fr F H m _ s=>?_);obtain ⟨k,A,c,⟨I,hs,g⟩,rfl,rfl,rfl⟩:=s;obtain ⟨_,J,t,w,_⟩:=id hs;have K:maxLen<=9223372036854775807:=by simp [maxLen]
 have L:k<=c:=by
  rw [ax,QX] at w;injection t with h1 h2 h3;omega
 have x:0<k->((l.take k).map cj)[((k:Int)-1).toNat]?=some (cj (g9 l (k-1))):=fun h=>by
  rw [show ((k:Int)-1).toNat=k-1 by omega,QI,Ri,aJ om_,aj (by omega:k-1<l.length)];unfold g9;rw [al,aj (by omega:k-1<l.length)];rfl
 refine Un 7 Z fun R f=>Ux _ U7<|D.index U10 (fun i=>⟨hs,(by have h:decide ((0:Int)<(k:Int))=true:=i.1;simp at h;omega),x (by have h:decide ((0:Int)<(k:Int))=true:=i.1;simp at h;omega)⟩) fl_ Z fun M y=>UQ U6 y U3<|Uq U6<|UM U8<|Ut [0,14] f Z<|Up (fun b=>?_) fun b=>?_
 ·have a:0<k/\g9 l (k-1)=0:=by
   have:(0:Int)<(k:Int)/\((g9 l (k-1):Nat):Int)=0:=by simpa using b
   omega
  refine Un 3 Z fun R f=>UY (((k-1:Nat):Int)) U4 om_ om_ om_ U2<|Vg 0 (k-1) c U12 (fun _=>⟨.inl ⟨Z,Z⟩,.inr ⟨_,Z⟩,.inl ⟨Z,Z⟩,by omega,by omega,QG _⟩) U2<|C4 1 [0] f Z ?_;have n:=Sl.sub hs (l:=0) (h:=k-1) (m:=c) (QK _) ap om_ (QG _);have z:(((l.take k).map cj).take (k-1)).drop 0=(l.take (k-1)).map cj:=by
   rw [RQ,<- Tn,TO,R9 om_]
  rw [z] at n;have B:na l l.length=na l (k-1):=by
   rw [g];obtain ⟨j,rfl⟩:∃ j,k=j+1:=⟨k-1,by omega⟩;simp only [SU] at a ⊢;rw [na,aJ];unfold g9 at a;rw [al,aj om_] at a;rw [aj om_];exact congrArg some a.2
  refine UB (m':=k-1+1) om_ mup (hn_ [0] Z) ⟨k-1,_,c,⟨by omega,n.mono mup,B⟩,Z,Z,Z⟩
 have a:¬ (0<k/\g9 l (k-1)=0):=fun E=>by
  have h1:(decide ((0:Int)<(k:Int)) && (((g9 l (k-1):Nat):Int) == 0))=true:=by
   rw [E.2];simp;omega
  rw [h1] at b;cases b
 refine Um 2 [2] Z<|Uu U2<|⟨Z, ?_⟩;have e:na l k=k:=by
  cases k with
  | zero=>rfl
  | succ j =>
   simp only [SU] at a;rw [na,aB];intro h;refine a ⟨by omega, ?_⟩;unfold g9;rw [al,h];rfl
 unfold EG;rw [g,e];exact hs
theorem gu (C:Mem)(v:Value)(l:List Nat)(a:l.length=n):Jog.Fn cx.P 252 [v] C [.arr v 160 1 n (l.map cj).flatten] fun u C' b=>b=[]/\Sl C' 1 u ((EG l).map cj) :=
 Jog.Fn.give (l.map cj) kr_ (by intro r hr;obtain ⟨y,_,rfl⟩:=QM.1 hr;rfl) (by rw [ax,a]) (fun C' _ hs=>AG C' v l hs)
def jN (m n:Nat):Int:=if m<n then -1 else if n<m then 1 else 0
theorem jh :jN m n<0 ↔ m<n:=by unfold jN;split <;> (try split) <;> omega
theorem F8 :0<jN m n ↔ n<m:=by unfold jN;split <;> (try split) <;> omega
theorem F7 (C:Mem)(w z:Value)(a b:List Nat)(d:Sl C 1 w (a.map cj))(f:Sl C 1 z (b.map cj))(n:yf a)(o:yf b):Gives cx.P 217 [w,z] C (.int .i64 (jN (bB a) (bB b))):=by
 have Y:maxLen<=9223372036854775807:=by simp [maxLen]
 obtain ⟨F,c0,rfl,H,aa,_⟩:=id d;obtain ⟨I,J,rfl,K,ab,_⟩:=id f;simp only [ax] at d f H K ⊢;refine Uv func217 41 U3 fun w0=>Um 1 [0,1] Z<|Um 5 [0,1,10] Z<|Up (fun g=>?_) fun g=>?_
 ·have ac:a.length≠b.length:=fun e=>by
   rw [e] at g;simp at g
  refine Um 5 [15] Z<|Up (fun p=>?_) fun p=>?_
  ·have q:a.length<b.length:=by
    have:(a.length:Int)<b.length:=by simpa using p
    omega
   exact Um 1 [4] Z<|Uu U2<|⟨by rw [show jN (bB a) (bB b)=-1 from aJ (ur n.1 o q)],Z⟩
  have q:b.length<a.length:=by
   have:¬ (a.length:Int)<b.length:=by simpa using p
   omega
  have r:=ur o.1 n q;exact Um 1 [4] Z<|Uu U2<|⟨by rw [show jN (bB a) (bB b)=1 from by unfold jN;rw [aB om_,aJ r]],Z⟩
 have s:a.length=b.length:=by
  have:(a.length:Int)=b.length:=by simpa using g
  omega
 refine Un 2 Z fun R c=>Ux _ U7<|C4 1 [0,1,5] c Z<|G.loop (fun fr C' L M=>∃ (k:Nat),(k<=a.length/\a.drop k=b.drop k)/\fr=[(0,[],.slice F a.length c0),(1,[],.slice I b.length J),(5,[],.int .i64 ((k:Int)-1))]/\L=[]/\M=k+1) (hn_ [0,1,5] Z) ⟨a.length,⟨QG _,by rw [RW,s,RW]⟩,Z,Z,Z⟩ (fun fr ad ae m _ N=>?_);obtain ⟨k,⟨hk,i⟩,rfl,rfl,rfl⟩:=N;refine Um 2 [0,1,5,20] Z<|Up (fun t=>?_) fun t=>?_
 ·have A:0<k:=by
   have:(0:Int)<=(k:Int)-1:=by simpa using t
   omega
  obtain ⟨j,rfl⟩:∃ j,k=j+1:=⟨k-1,by omega⟩;obtain ⟨x,l⟩:∃ x,a[j]?=some x:=⟨a[j],aj om_⟩;obtain ⟨y,hy⟩:∃ y,b[j]?=some y:=⟨b[j],aj om_⟩;have B:(a.map cj)[(((j+1:Nat):Int)-1).toNat]?=some (cj x):=by
   rw [show (((j+1:Nat):Int)-1).toNat=j by omega,QI,l];rfl
  have D:(b.map cj)[(((j+1:Nat):Int)-1).toNat]?=some (cj y):=by
   rw [show (((j+1:Nat):Int)-1).toNat=j by omega,QI,hy];rfl
  refine UK [0,1,2,3,4,5,6,7,8] [] Z kr_ fun R O c=>Us 2 Z<|UE d.m_ U10 om_ B fl_ fun af Q=>Uo Q U8<|Us 2 Z<|UE f.m_ U10 om_ D fl_ fun ag S=>Uo S U8<|C4 1 [0,1,5,31] c Z<|Up (fun u=>?_) fun u=>?_
  ·have E:x≠y:=fun h=>by
    subst h;simp at u
   refine UK [0,1,2,3,4,5,6,7,8] [] Z kr_ fun R O c=>Us 2 Z<|UE d.m_ U10 om_ B fl_ fun ah T=>Uo T U8<|Us 2 Z<|UE f.m_ U10 om_ D fl_ fun ai U=>Uo U U8<|C4 1 [40] c Z<|Up (fun v=>?_) fun v=>?_
   ·have E:x<y:=by
     have:(x:Int)<y:=by simpa using v
     omega
    exact Um 1 [4] Z<|Uu U2<|⟨by rw [show jN (bB a) (bB b)=-1 from aJ (L4 n.1 s l hy E i)],Z⟩
   have V:y<x:=by
    have:¬ (x:Int)<y:=by simpa using v
    omega
   have r:=L4 o.1 s.symm hy l V i.symm;exact Um 1 [4] Z<|Uu U2<|⟨by rw [show jN (bB a) (bB b)=1 from by unfold jN;rw [aB om_,aJ r]],Z⟩
  have W:x=y:=by
   have:(x:Int)=y:=by simpa using u
   omega
  refine Un 1 Z fun R c=>Ux _ U7<|C4 1 [0,1,5] c Z ?_;rw [show ((j+1:Nat):Int)-1-1=(j:Int)-1 by omega];refine UB (m':=j+1) om_ mup (hn_ [0,1,5] Z) ⟨j,⟨by omega,by
   rw [Re (by omega:j<a.length),Re (by omega:j<b.length),i,(aE.1 l).2,(aE.1 hy).2,W]⟩,rfl,rfl,rfl⟩
 have A:k=0:=by
  have:¬ (0:Int)<=(k:Int)-1:=by simpa using t
  omega
 subst A;refine Um 1 [4] Z<|Uu U2 ?_;have X:a=b:=by simpa using i
 subst X;exact ⟨by rw [show jN (bB a) (bB a)=0 from by unfold jN;rw [aB om_,aB om_]],Z⟩
theorem xh (h:i<l.length):l[i]?=some (g9 l i):=by rw [aj h,yQ (aj h)]
theorem js (h:i<l.length):(l.map cj)[i]?=some (cj (g9 l i)):=by rw [QI,xh h];rfl
theorem LN (h:l.length<=i):g9 l i=0:=by
 unfold g9;rw [al,QS h];rfl
theorem B9v:B9=1000000000:=rfl
theorem MV (C:Mem)(z E:Value)(a b:List Nat)(p:Sl C 1 z (a.map cj))(q:Sl C 1 E (b.map cj))(F:Dig9 a)(H:Dig9 b)(N:a.length<=10000000)(O:b.length<=10000000) :
  Pur cx.P 215 [z,E] C fun u C'=>NineC C' u (bB a+bB b):=by
 obtain ⟨A0,c0,rfl,_⟩:=id p;obtain ⟨B0,d0,rfl,_⟩:=id q;simp only [ax] at p q ⊢;have hB:=B9v;refine Uv func215 53 U3 fun w0=>Um 1 [0,1] Z<|Um 5 [0,1,13] Z<|G.cut (fun fr C' k l=>∃ (e lb:List Nat)(A:Option Addr)(c:Nat)(B:Option Addr)(d:Nat),(Sl C' 1 (.slice A e.length c) (e.map cj)/\Sl C' 1 (.slice B lb.length d) (lb.map cj)/\lb.length<=e.length/\bB e+bB lb=bB a+bB b/\Dig9 e/\Dig9 lb/\e.length<=10000000)/\fr=[(0,[],.slice A e.length c),(1,[],.slice B lb.length d)]/\k=[]) ?_ (fun fr _ ai l _ o=>?_)
 ·refine Up (fun s=>?_) fun s=>?_
  ·have Q:a.length<b.length:=by
    have:(a.length:Int)<b.length:=by simpa using s
    omega
   refine Um 4 [0,1] Z<|UD 0 (Mem.le.refl _) (hn_ [0,1] Z) ⟨b,a,_,_,_,_,⟨q.mono mup,p.mono mup,by omega,by omega,H,F,O⟩,Z,Z⟩
  have Q:¬ a.length<b.length:=fun h=>by
   have:(a.length:Int)<b.length:=by omega
   simp [this] at s
  refine UD 0 (Mem.le.refl _) (hn_ [0,1] Z) ⟨a,b,_,_,_,_,⟨p.mono mup,q.mono mup,by omega,Z,F,H,N⟩,Z,Z⟩
 obtain ⟨e ,lb ,A ,c ,B ,d,⟨S,T,U,V,W,X,aj⟩,rfl,rfl⟩:=o;refine Un 2 Z fun R g=>Ux _ U7<|Vq U9 (QK _) (by show 8*(e.length+1)<=281474976710656;omega) (by simp only [maxLen];omega) fl_ fun ak=>C4 1 [0,1,5] g Z<|Um 1 [0,1,5,6] Z<|Um 3 [1,5,6,20,21,22] Z<|G.loop (fun fr C' k l=>∃ (i:Nat)(out:List Nat)(f:Nat)(w:Value),(i<=e.length/\out.length=i/\Dig9 out/\f<=1/\bB out+B9 ^ i*f=bB (e.take i)+bB (lb.take i))/\fr=[(1,[],.slice B lb.length d),(5,[],w),(6,[],.int .u64 f),(20,[],.slice A e.length c),(21,[],.int .i64 e.length),(22,[],.int .i64 i)]/\k=[.arr w 160 1 i (out.map cj).flatten]/\l=e.length-i) (hn_ [1,5,6,20,21,22] Z) ⟨0,[],0,_,⟨QK _,Z,(fun x Y=>(by cases Y)),by omega,Z⟩,Z,Z,Z⟩ (fun fr al am m _ o=>?_);obtain ⟨i,out,f,w,⟨hi,r,I,J,K⟩,rfl,rfl,rfl⟩:=o;refine Um 1 [1,5,6,20,21,22,23] Z<|Up (fun t=>?_) fun t=>?_
 ·have v:i<e.length:=by simpa using t
  have aa:=kT W i;have ab:=kT X i;refine Un 1 Z fun R g=>UE S.m_ U10 om_ (js (i:=i) v) fl_ fun an ac=>Uo ac U8<|C4 2 [1,5,6,7,8,20,21,22] g Z<|Un 2 Z fun R g=>D.int (((f+g9 e i:Nat):Int)) U4 (by rw [IntKind.wrap_u64];omega) U2<|C4 1 [1,5,6,7,20,21,22] g Z<|Um 4 [1,5,6,7,20,21,22,33] Z<|G.cut (fun fr C' k l=>(True)/\fr=[(1,[],.slice B lb.length d),(5,[],w),(6,[],.int .u64 ((f+g9 e i+g9 lb i:Nat):Int)),(20,[],.slice A e.length c),(21,[],.int .i64 e.length),(22,[],.int .i64 i)]/\k=[.arr w 160 1 i (out.map cj).flatten]) ?_ (fun fr _ ao l _ o=>?_)
  ·refine Up (fun y=>?_) fun y=>?_
   ·have ad:i<lb.length:=by simpa using y
    refine Un 3 Z fun R g=>UE T.m_ U10 om_ (js (i:=i) ad) fl_ fun ap ae=>Uo ae U8<|D.int (((f+g9 e i+g9 lb i:Nat):Int)) U4 (by rw [IntKind.wrap_u64];omega) U2<|C4 1 [1,5,6,20,21,22] g Z<|UD 0 (Mem.le.refl _) (hn_ [1,5,6,20,21,22] Z) ⟨trivial,Z,Z⟩
   have hz:g9 lb i=0:=LN (by have h:¬ i<lb.length:=(by simpa using y);omega);refine UD 0 (Mem.le.refl _) (hn_ [1,5,6,20,21,22] Z) ⟨trivial,by rw [hz];rfl,Z⟩
  obtain ⟨aq,rfl,rfl⟩:=o;refine Un 2 Z fun R g=>Vl (f+g9 e i+g9 lb i) (B9) U6 om_ U2<|UJ [cj ((f+g9 e i+g9 lb i) % B9)] U12 fun ar _ _ af=>D.append (j:=0) U11 af Z aw (by show (i+1)*8<=_;omega) fl_ fun L=>C4 1 [1,5,6,20,21,22] g Z<|Un 1 Z fun R g=>Vu (f+g9 e i+g9 lb i) (B9) U6 om_ (.inr ⟨Z,by omega⟩) U2<|C4 1 [1,5,6,20,21,22] g Z<|Ur fun R g=>Ux _ U7<|C4 1 [1,5,6,20,21,22] g Z ?_;have M:f+g9 e i+g9 lb i=g9 e i+g9 lb i+f:=by omega
  refine UF (L':=[.arr L 160 1 (i+1) ((out++[(g9 e i+g9 lb i+f) % B9]).map cj).flatten]) (by rw [M];simp [cj]) ?_;rw [M];refine UB (m':=e.length-(i+1)) om_ mup (hn_ [1,5,6,20,21,22] Z) ⟨i+1,out++[(g9 e i+g9 lb i+f) % B9],(g9 e i+g9 lb i+f) / B9,L,⟨by omega,by simp [r],I.snoc (Rs _ dc_),HO aa ab J,H3 r K⟩,Z,Z,Z⟩
 have v:i=e.length:=by
  have:¬ i<e.length:=by simpa using t
  omega
 refine UO [(4,3)] Z fun R g=>Us 2 Z<|UJ [cj f] U12 fun au _ _ ag=>D.append (j:=0) U11 ag Z aw (by show (i+1)*8<=_;omega) fl_ fun av=>D.call (gu _ _ (out++[f]) (n:=i+1) (by simp [r])) Z (.inr dc_) U6 (by rw [Rk,Rm];exact QL _) fl_ (fun ay _ az _ ah=>?_);obtain ⟨rfl,hu⟩:=ah;refine C4 1 [4] g Z<|Uu U2<|⟨Z,EG (out++[f]),iv (I.snoc (RD J dc_)), ?_,hu⟩;rw [iu,iT,r,K,v,QV,Rr U,V]
theorem JN (C:Mem)(F H:Value)(a b:List Nat)(p:Sl C 1 F (a.map cj))(q:Sl C 1 H (b.map cj))(K:Dig9 a)(I:Dig9 b)(ab:a.length<=10000000)(L:b.length<=a.length)(ac:bB b<=bB a) :
  Pur cx.P 218 [F,H] C fun u C'=>NineC C' u (bB a-bB b):=by
 obtain ⟨r,c0,rfl,_⟩:=id p;obtain ⟨s,t,rfl,_⟩:=id q;simp only [ax] at p q ⊢;have M:=B9v;refine Uv func218 45 U3 fun w0=>Um 1 [0,1] Z<|Un 2 Z fun R d=>Vq U9 (QK _) (by show 8*a.length<=281474976710656;omega) (by simp only [maxLen];omega) fl_ fun ad=>C4 1 [0,1,5] d Z<|Um 1 [0,1,5,6] Z<|Um 3 [1,5,6,13,14,15] Z<|G.loop (fun fr C' e f=>∃ (i:Nat)(out:List Nat)(c:Nat)(w:Value),(i<=a.length/\out.length=i/\Dig9 out/\c<=1/\bB out+bB (b.take i)=bB (a.take i)+B9 ^ i*c)/\fr=[(1,[],.slice s b.length t),(5,[],w),(6,[],.int .u64 c),(13,[],.slice r a.length c0),(14,[],.int .i64 a.length),(15,[],.int .i64 i)]/\e=[.arr w 160 1 i (out.map cj).flatten]/\f=a.length-i) (hn_ [1,5,6,13,14,15] Z) ⟨0,[],0,_,⟨QK _,Z,(fun x N=>(by cases N)),by omega,Z⟩,Z,Z,Z⟩ (fun fr ae af m _ g=>?_);obtain ⟨i,out,c,w,⟨hi,k,v,y,l⟩,rfl,rfl,rfl⟩:=g;refine Um 1 [1,5,6,13,14,15,16] Z<|Up (fun z=>?_) fun z=>?_
 ·have o:i<a.length:=by simpa using z
  have O:=kT K i;have Q:=kT I i;refine Un 1 Z fun R d=>UE p.m_ U10 om_ (js (i:=i) o) fl_ fun ag S=>Uo S U8<|C4 2 [1,5,6,7,8,13,14,15] d Z<|Um 2 [1,5,7,8,9,13,14,15] Z<|Um 4 [1,5,7,8,9,13,14,15,24] Z<|G.cut (fun fr C' e f=>(True)/\fr=[(1,[],.slice s b.length t),(5,[],w),(8,[],.int .u64 (g9 a i)),(9,[],.int .u64 ((c+g9 b i:Nat):Int)),(13,[],.slice r a.length c0),(14,[],.int .i64 a.length),(15,[],.int .i64 i)]/\e=[.arr w 160 1 i (out.map cj).flatten]) ?_ (fun fr _ ah f _ g=>?_)
  ·refine Up (fun A=>?_) fun A=>?_
   ·have T:i<b.length:=by simpa using A
    refine Un 3 Z fun R d=>UE q.m_ U10 om_ (js (i:=i) T) fl_ fun ai U=>Uo U U8<|D.int (((c+g9 b i:Nat):Int)) U4 (by rw [IntKind.wrap_u64];omega) U2<|C4 1 [1,5,8,9,13,14,15] d Z<|UD 0 (Mem.le.refl _) (hn_ [1,5,8,9,13,14,15] Z) ⟨trivial,Z,Z⟩
   have V:g9 b i=0:=LN (by have h:¬ i<b.length:=(by simpa using A);omega);refine UD 0 (Mem.le.refl _) (hn_ [1,5,8,9,13,14,15] Z) ⟨trivial,by rw [V];rfl,Z⟩
  obtain ⟨aj,rfl,rfl⟩:=g;refine Um 1 [1,5,6,8,9,13,14,15] Z<|Um 3 [1,5,6,8,9,13,14,15,33] Z<|G.cut (fun fr C' e f=>(True)/\fr=[(1,[],.slice s b.length t),(5,[],w),(6,[],.int .u64 ((vy (g9 a i) (g9 b i) c:Nat):Int)),(8,[],.int .u64 ((g9 a i+B9*vy (g9 a i) (g9 b i) c:Nat):Int)),(9,[],.int .u64 ((c+g9 b i:Nat):Int)),(13,[],.slice r a.length c0),(14,[],.int .i64 a.length),(15,[],.int .i64 i)]/\e=[.arr w 160 1 i (out.map cj).flatten]) ?_ (fun fr _ ak f _ g=>?_)
  ·refine Up (fun B=>?_) fun B=>?_
   ·have E:vy (g9 a i) (g9 b i) c=1:=by
     have:(g9 a i:Int)<((c+g9 b i:Nat):Int):=by simpa using B
     unfold vy;rw [aJ om_]
    refine Un 1 Z fun R d=>D.int (((g9 a i+B9*1:Nat):Int)) U4 (by rw [IntKind.wrap_u64];omega) U2<|C4 2 [1,5,6,8,9,13,14,15] d Z<|UD 0 (Mem.le.refl _) (hn_ [1,5,6,8,9,13,14,15] Z) ⟨trivial,by rw [E];rfl,Z⟩
   have E:vy (g9 a i) (g9 b i) c=0:=by
    have:¬ (g9 a i:Int)<((c+g9 b i:Nat):Int):=by simpa using B
    unfold vy;rw [aB om_]
   refine UD 0 (Mem.le.refl _) (hn_ [1,5,6,8,9,13,14,15] Z) ⟨trivial,by rw [E];rfl,Z⟩
  obtain ⟨al,rfl,rfl⟩:=g;refine Un 3 Z fun R d=>?_;have am:vy (g9 a i) (g9 b i) c<=1:=HR _ _ _;have W:c+g9 b i<=g9 a i+B9*vy (g9 a i) (g9 b i) c:=by
   unfold vy;split <;> omega
  refine D.int (((Ho (g9 a i) (g9 b i) c:Nat):Int)) U4 (by rw [IntKind.wrap_u64];unfold Ho;rw [M] at W ⊢;omega) U2<|UJ [cj (Ho (g9 a i) (g9 b i) c)] U12 fun an _ _ X=>D.append (j:=0) U11 X Z aw (by show (i+1)*8<=_;omega) fl_ fun J=>C4 1 [1,5,6,13,14,15] d Z<|Ur fun R d=>Ux _ U7<|C4 1 [1,5,6,13,14,15] d Z<|UF (L':=[.arr J 160 1 (i+1) ((out++[Ho (g9 a i) (g9 b i) c]).map cj).flatten]) (by simp [cj])<|UB (m':=a.length-(i+1)) om_ mup (hn_ [1,5,6,13,14,15] Z) ⟨i+1,out++[Ho (g9 a i) (g9 b i) c],vy (g9 a i) (g9 b i) c,J,⟨by omega,by simp [k],v.snoc (NL O Q y),HR _ _ _,E7 I y k l⟩,Z,Z,Z⟩
 have o:i=a.length:=by
  have:¬ i<a.length:=by simpa using z
  omega
 refine UO [(1,3)] Z fun R d=>Uq U6<|D.call (gu _ _ out (n:=i) k) Z (.inr dc_) U6 (QL _) fl_ (fun ao _ ap _ Y=>?_);obtain ⟨rfl,hu⟩:=Y;refine C4 1 [4] d Z<|Uu U2<|⟨Z,EG out,iv v, ?_,hu⟩;rw [o,QV,Rr L] at l;have h0:=iU v;rw [k,o] at h0;have aa:c=0:=by
  rcases Nat.le_one_iff_eq_zero_or_eq_one.1 y with h | h
  ·exact h
  rw [h,SL] at l;omega
 rw [aa,Nat.mul_zero] at l;rw [iu];omega
abbrev qU (g c n:Nat):Value:=.slice (some ⟨g,0,none⟩) n c
theorem EI (n:Nat):fo ([.int .u64 0]:List Value) n=((List.replicate n 0).map cj).flatten:=by
 rw [cZ,Tp];rfl
theorem qi {j z:Nat}(h:i≠j):g9 (l.set i z) j=g9 l j:=by
 unfold g9;rw [al,al,TC h]
theorem BX (n j:Nat):g9 (List.replicate n 0) j=0:=by
 unfold g9;rw [al,Sx];split <;> rfl
theorem IG (C:Mem)(S T:Value)(a b:List Nat)(v:Sl C 1 S (a.map cj))(w:Sl C 1 T (b.map cj))(ag:Dig9 a)(ai:Dig9 b)(au:a.length<=1000000)(av:b.length<=1000000) :
  Pur cx.P 219 [S,T] C fun u C'=>NineC C' u (bB a*bB b):=by
 obtain ⟨y,c0,rfl,_⟩:=id v;obtain ⟨s,t,rfl,_⟩:=id w;simp only [ax] at v w ⊢;have hB:=B9v;obtain ⟨N,hN⟩:∃ N,a.length+b.length+1=N:=⟨_,rfl⟩;refine Uv func219 79 U3 fun w0=>Um 1 [0,1] Z<|Un 4 Z fun R d=>UY (((a.length+b.length:Nat):Int)) U4 om_ om_ om_ U2<|UY (((N:Nat):Int)) U4 om_ om_ om_ U2<|Vq U9 (QG _) (by show 8*N<=281474976710656;omega) (by simp only [maxLen];omega) fl_ fun f=>C4 1 [0,1,5] d Z<|Um 3 [1,5,19,20,21] Z<|UF (L':=[.arr (qU f N N) 160 1 N ((List.replicate N 0).map cj).flatten]) (by rw [<- EI];rfl)<|G.loop (fun fr C' g n=>∃ (i:Nat)(o:List Nat),(i<=a.length/\o.length=N/\Dig9 o/\bB o=bB (a.take i)*bB b/\∀ j,i+b.length<=j->g9 o j=0)/\fr=[(1,[],.slice s b.length t),(5,[],qU f N N),(19,[],.slice y a.length c0),(20,[],.int .i64 a.length),(21,[],.int .i64 i)]/\g=[.arr (qU f N N) 160 1 N (o.map cj).flatten]/\n=a.length-i) (hn_ [1,5,19,20,21] Z) ⟨0,List.replicate N 0,⟨QK _,Sv,(fun x l=>by rw [Ss l];decide),by rw [rK (fun x l=>Ss l)];simp [bB],fun j _=>BX _ j⟩,Z,Z,Z⟩ (fun fr aw ay m _ p=>?_);obtain ⟨i,o,⟨hi,U,V,W,hz⟩,rfl,rfl,rfl⟩:=p;refine Um 1 [1,5,19,20,21,22] Z<|Up (fun A=>?_) fun A=>?_
 ·have B:i<a.length:=by simpa using A
  have l:=kT ag i;refine Un 1 Z fun R d=>UE v.m_ U10 om_ (js (i:=i) B) fl_ fun az aj=>Uo aj U8<|C4 2 [1,5,6,7,19,20,21] d Z<|Um 1 [1,5,6,7,8,19,20,21] Z<|Um 3 [1,5,6,7,8,19,20,21,26,27,28] Z<|G.loop (fun fr C' g n=>∃ (k:Nat)(q:List Nat)(c:Nat),(k<=b.length/\q.length=N/\Dig9 q/\c<B9/\bB q+B9 ^ (i+k)*c=bB o+B9 ^ i*(g9 a i*bB (b.take k))/\∀ j,i+b.length<=j->g9 q j=0)/\fr=[(1,[],.slice s b.length t),(5,[],qU f N N),(6,[],.int .i64 i),(7,[],.int .u64 (g9 a i)),(8,[],.int .u64 c),(19,[],.slice y a.length c0),(20,[],.int .i64 a.length),(21,[],.int .i64 i),(26,[],.slice s b.length t),(27,[],.int .i64 b.length),(28,[],.int .i64 k)]/\g=[.arr (qU f N N) 160 1 N (q.map cj).flatten]/\n=b.length-k) (hn_ [1,5,6,7,8,19,20,21,26,27,28] Z) ⟨0,o,0,⟨QK _,U,V,by decide,by simp [bB],hz⟩,Z,Z,Z⟩ (fun fr aA aB m _ p=>?_);obtain ⟨k,q,c,⟨hk,E,F,H,I,J⟩,rfl,rfl,rfl⟩:=p;refine Um 1 [1,5,6,7,8,19,20,21,26,27,28,29] Z<|Up (fun K=>?_) fun K=>?_
  ·have L:k<b.length:=by simpa using K
   have hy:=kT ai k;have X:=kT F (i+k);have Y:q[i+k]?=some (g9 q (i+k)):=xh om_;have ak:=sj H l hy X;rw [show B9*B9=1000000000000000000 from rfl] at ak;refine Un 1 Z fun R d=>UE w.m_ U10 om_ (js (i:=k) L) fl_ fun aC al=>Uo al U8<|C4 2 [1,5,6,7,8,9,10,19,20,21,26,27,28] d Z<|Un 4 Z fun R d=>UY (((i+k:Nat):Int)) U4 om_ om_ om_ U2<|UT ((i+k)*1) U10 ah U2<|Vb af U6 (fun _=>(by rw [cM eH Y];rfl)) U2<|Us 2 Z<|D.int (((g9 a i*g9 b k:Nat):Int)) U4 (by rw [<- RH,IntKind.wrap_u64];omega) U2<|D.int (((g9 q (i+k)+g9 a i*g9 b k:Nat):Int)) U4 (by rw [IntKind.wrap_u64];omega) U2<|D.int (((c+g9 a i*g9 b k+g9 q (i+k):Nat):Int)) U4 (by rw [IntKind.wrap_u64];omega) U2<|C4 1 [1,5,6,7,8,9,19,20,21,26,27,28] d Z<|Un 3 Z fun R d=>UY (((i+k:Nat):Int)) U4 om_ om_ om_ U2<|Uq U6<|Vl (c+g9 a i*g9 b k+g9 q (i+k)) (B9) U6 om_ U2<|UT ((i+k)*1) U10 ah U2<|UX (j:=0) U11 (by show (i+k)*1+1<=_;rw [bQ eH,E];omega)<|Ut [1,5,6,7,8,19,20,21,26,27,28] d Z<|Un 1 Z fun R d=>Vu (c+g9 a i*g9 b k+g9 q (i+k)) (B9) U6 om_ (.inr ⟨Z,by omega⟩) U2<|C4 1 [1,5,6,7,8,19,20,21,26,27,28] d Z<|Ur fun R d=>Ux _ U7<|C4 1 [1,5,6,7,8,19,20,21,26,27,28] d Z<|UF (L':=[.arr (qU f N N) 160 1 N ((q.set (i+k) ((c+g9 a i*g9 b k+g9 q (i+k)) % B9)).map cj).flatten]) (by rw [<- bM eH _ (by omega:i+k<q.length)];rfl)<|UB (m':=b.length-(k+1)) om_ mup (hn_ [1,5,6,7,8,19,20,21,26,27,28] Z) ⟨k+1,q.set (i+k) ((c+g9 a i*g9 b k+g9 q (i+k)) % B9),(c+g9 a i*g9 b k+g9 q (i+k)) / B9,⟨by omega,by simp [E],F.set (Rs _ dc_),HN H l hy X,Gl Y Z I,fun j r=>by rw [qi om_];exact J j r⟩,Z,Z,Z⟩
  have L:k=b.length:=by
   have:¬ k<b.length:=by simpa using K
   omega
  refine Un 3 Z fun R d=>UY (((i+b.length:Nat):Int)) U4 om_ om_ om_ U2<|C4 1 [1,5,8,11,19,20,21] d Z<|G.loop (fun fr C' g n=>∃ (m:Nat)(e:List Nat)(c2:Nat),(i+b.length<=m/\m<=i+b.length+1/\e.length=N/\Dig9 e/\c2<B9/\(m=i+b.length+1->c2=0)/\(m=i+b.length->g9 e m=0)/\bB e+B9 ^ m*c2=bB o+B9 ^ i*(g9 a i*bB b)/\∀ j,i+b.length+1<=j->g9 e j=0)/\fr=[(1,[],.slice s b.length t),(5,[],qU f N N),(8,[],.int .u64 c2),(11,[],.int .i64 m),(19,[],.slice y a.length c0),(20,[],.int .i64 a.length),(21,[],.int .i64 i)]/\g=[.arr (qU f N N) 160 1 N (e.map cj).flatten]/\n=2-(m-(i+b.length))) (hn_ [1,5,8,11,19,20,21] Z) ⟨i+b.length,q,c,⟨QG _,by omega,E,F,H,fun h=>by omega,fun _=>J _ (QG _),by rw [L,QV] at I;exact I,fun j r=>J j om_⟩,Z,Z,Z⟩ (fun fr aD aE m _ p=>?_);obtain ⟨m,e,c2,⟨aF,aG,M,aa,O,am,an,ab,ac⟩,rfl,rfl,rfl⟩:=p;refine Um 2 [1,5,8,11,19,20,21,60] Z<|Up (fun h60=>?_) fun h60=>?_
  ·have ad:0<c2:=by
    have:(0:Int)<(c2:Int):=by simpa using h60
    omega
   have ao:m=i+b.length:=by
    rcases Rh m (i+b.length+1) with h | h
    ·omega
    have:=am om_;omega
   have Q:=an ao;have ae:e[m]?=some (g9 e m):=xh om_;refine Un 3 Z fun R d=>UT (m*1) U10 ah U2<|Vb af U6 (fun _=>(by rw [cM eH ae];rfl)) U2<|D.int (((c2+g9 e m:Nat):Int)) U4 (by rw [IntKind.wrap_u64];omega) U2<|C4 1 [1,5,8,11,19,20,21] d Z<|Un 3 Z fun R d=>Vl (c2+g9 e m) (B9) U6 om_ U2<|UT (m*1) U10 ah U2<|UX (j:=0) U11 (by show m*1+1<=_;rw [bQ eH,M];omega)<|Ut [1,5,8,11,19,20,21] d Z<|Un 1 Z fun R d=>Vu (c2+g9 e m) (B9) U6 om_ (.inr ⟨Z,by omega⟩) U2<|C4 1 [1,5,8,11,19,20,21] d Z<|Un 1 Z fun R d=>Ux _ U7<|C4 1 [1,5,8,11,19,20,21] d Z ?_;have ap:(c2+g9 e m) % B9=c2:=by rw [Q,SG];exact S7 O
   have aq:(c2+g9 e m) / B9=0:=by rw [Q,SG];exact S8 O
   refine UF (L':=[.arr (qU f N N) 160 1 N ((e.set m c2).map cj).flatten]) (by rw [ap,<- bM eH _ (by omega:m<e.length)];rfl) ?_;rw [aq];refine UB (m':=2-(m+1-(i+b.length))) om_ mup (hn_ [1,5,8,11,19,20,21] Z) ⟨m+1,e.set m c2,0,⟨by omega,by omega,by simp [M],aa.set O,by decide,fun _=>rfl,fun h=>by omega,by
    have h1:=tM (z:=c2) ae;rw [Q] at h1;omega,fun j r=>by rw [qi om_];exact ac j r⟩,rfl,rfl,rfl⟩
  have ad:c2=0:=by
   have:¬ (0:Int)<(c2:Int):=by simpa using h60
   omega
  refine Ur fun R d=>Ux _ U7<|C4 1 [1,5,19,20,21] d Z<|UB (m':=a.length-(i+1)) om_ mup (hn_ [1,5,19,20,21] Z) ⟨i+1,e,⟨by omega,M,aa,by
   rw [ad,Nat.mul_zero,SG] at ab;rw [mG,R7,<- W,S3];exact ab,fun j r=>ac j om_⟩,Z,Z,Z⟩
 have B:i=a.length:=by
  have:¬ i<a.length:=by simpa using A
  omega
 refine UO [(1,3)] Z fun R d=>Uq U6<|D.call (gu _ _ o U) Z (.inr dc_) U6 (QL _) fl_ (fun aH _ aI _ ar=>?_);obtain ⟨rfl,hu⟩:=ar;refine C4 1 [4] d Z<|Uu U2<|⟨Z,EG o,iv V, ?_,hu⟩;rw [iu,W,B,QV]
theorem ta (h:yf l)(a:bB l<B9 ^ m):l.length<=m:=by
 rcases Rh m l.length with h1 | h1
 ·have h2:=uZ h om_;have h3:B9 ^ m<=B9 ^ (l.length-1):=Q7 dc_ om_;omega
 exact h1
theorem NineC.get (h:NineC C v n)(a:n<B9 ^ m):∃ l,yf l/\bB l=n/\l.length<=m/\Sl C 1 v (l.map cj):=by
 obtain ⟨l,h1,h2,h3⟩:=h;exact ⟨l,h1,h2,ta h1 (by rw [h2];exact a),h3⟩
theorem NineC.zero (C:Mem):NineC C (.slice none 0 0) 0:=⟨[],⟨(fun x a=>(by cases a)),by simp⟩,rfl,Sl.nil C 1⟩
theorem NineC.form (h:NineC C v n):∃ A m c,v=.slice A m c:=by
 obtain ⟨l,_,_,A,c,h,_⟩:=h;exact ⟨A,_,c,h⟩
theorem dB (h:m<B9 ^ n)(a:n<=k):m<B9 ^ k:=R4 h (Q7 dc_ a)
theorem pE (C:Mem)(c:NineC C u m)(d:NineC C v n):Gives cx.P 217 [u,v] C (.int .i64 (jN m n)):=by
 obtain ⟨a,h1,h2,h3⟩:=c;obtain ⟨b,h4,h5,e⟩:=d;rw [<- h2,<- h5];exact F7 C u v a b h3 e h1 h4
theorem Ly (C:Mem)(c:NineC C u m)(d:NineC C v n)(e:m<B9 ^ k)(f:n<B9 ^ k)(i:k<=1000000):Pur cx.P 215 [u,v] C fun w D=>NineC D w (m+n):=by
 obtain ⟨a,h1,h2,h3,h4⟩:=c.get e;obtain ⟨b,h5,g,j,h⟩:=d.get f;rw [<- h2,<- g];exact MV C u v a b h4 h h1.1 h5.1 om_ om_
theorem uo (C:Mem)(c:NineC C u m)(d:NineC C v n)(e:m<B9 ^ k)(i:n<=m)(j:k<=1000000):Pur cx.P 218 [u,v] C fun w D=>NineC D w (m-n):=by
 obtain ⟨a,h1,h2,h3,h4⟩:=c.get e;obtain ⟨b,h5,f,g⟩:=d;rw [<- h2,<- f];refine JN C u v a b h4 g h1.1 h5.1 om_ ?_ om_;rcases Rh a.length b.length with h | h
 ·have:=ur h1.1 h5 h;omega
 exact h
theorem E1 (C:Mem)(c:NineC C u m)(d:NineC C v n)(e:m<B9 ^ k)(f:n<B9 ^ k)(i:k<=1000000):Pur cx.P 219 [u,v] C fun w D=>NineC D w (m*n):=by
 obtain ⟨a,h1,h2,h3,h4⟩:=c.get e;obtain ⟨b,h5,g,j,h⟩:=d.get f;rw [<- h2,<- g];exact IG C u v a b h4 h h1.1 h5.1 om_ om_
theorem vL (C:Mem)(a:Dig9 l)(b:Sl C 1 u (l.map cj)):Pur cx.P 252 [u] C fun w D=>NineC D w (bB l) :=
 (AG C u l b).mono fun _c _d _e _ ⟨h1,h2⟩=>⟨h1,EG l,iv a,iu l,h2⟩
theorem yn (C:Mem){d:Nat}(a:NineC C u m)(f:m<B9 ^ k)(g:d<B9)(p:k<=999999):Pur cx.P 279 [u,.int .u64 d] C fun w D=>NineC D w (m*d):=by
 obtain ⟨A,n,c,rfl⟩:=a.form;refine Uv func279 10 U3 fun w0=>Um 1 [0,1] Z<|Un 2 Z fun R h=>UJ [cj d] U12 fun q _ _ i=>US (vL _ (l:=[d]) (fun x j=>by rw [Q4.1 j];exact g) i) U7 fl_ fun r _ _ o=>US (E1 (k:=k+1) _ a.m_ o (dB f om_) (by show d+B9*0<_;rw [RY];have:0<B9 ^ k:=Tb dc_;have h2:=Rz B9 this;omega) om_) U7 fl_ fun s _ _ b=>C4 1 [4] h Z<|Uu U2<|⟨Z, ?_⟩;have e:bB [d]=d:=by show d+B9*0=d;omega
 rw [e] at b;exact b
open Go Go.Jog Go.RowKit Go.Shelf
attribute [local go_sem] Oper.semAt_some
set_option maxRecDepth 100000 in
theorem KT (l Bs b off len cap:Nat)(zs:Nat->Int)(hlen:len<1000000)(J:Nat->World->Prop)
  (hJ:∀ k W,J k W->W.cell? ⟨Bs,0,none⟩=some (.slice (some ⟨b,off,none⟩) len cap)/\∀ j,j<len->W.cell? ⟨b,off+j,none⟩=some (.int .u64 (zs j)))
  (hY:∀ k W,J k W->k<len->YieldAt Fence.wide 1 Tryz.prog l #[.int .i64 ((len-1-k:Nat):Int),.int .u64 (zs (len-1-k))] W fun e W'=>e=.returned (.bool true)/\J (k+1) W')
  (W:World) (h0:J 0 W) :
  CallsIn Fence.wide 2 Tryz.prog 285 #[.func (.yield l) #[] #[],.pointer (some ⟨Bs,0,none⟩)] W fun e W'=>(∃ v,e=.returned v)/\J len W':=by
 refine callsIn_of_wp func285 Z trivial ?_ Z;simp only [Tryz.ntmps285,Sk,QY,Rp,Nat.reduceAdd,Nat.reduceSub,T9,Ua,List.push_toArray,List.append_toArray,SB,Sd];have hBs:=(hJ 0 W h0).1
 gi_wp2
 gi_loopw [3] (fun i wr=>∃ k:Nat,k<=len/\i=.int .i64 ((len:Int)-1-k)/\J k wr) (fun i _=>(intOf i+1).toNat)
 case atStart=>exact ⟨0,QK _,by simp,h0⟩
 case round =>
  obtain ⟨k,hk,rfl,hJs⟩:=hrel;obtain ⟨hB2,hcx⟩:=hJ k wr hJs;by_cases hlt:k<len
  ·obtain ⟨fn,tmps,assign,body,hy,hR⟩:=hY k wr hJs hlt;have hcx':=hcx (len-1-k) om_;have e1:((len-1-k:Nat):Int)=(len:Int)-1-k:=by omega
   rw [e1] at hy
   gi_wp2
   refine hR.mono ?_;rintro e W3 ⟨rfl,hJ3⟩
   gi_wp2
   go_roundw
   case rel=>exact ⟨k+1,by omega,by congr 1;omega,hJ3⟩
   case measure=>simp [intOf];omega
  obtain rfl:k=len:=by omega
  gi_wp2
  go_end0
  exact ⟨⟨_,Z⟩,hJs⟩
set_option maxRecDepth 100000 in
theorem xK (l Bs:Nat)(A:Option Addr)(cap:Nat)(J:Nat->World->Prop)(W:World)(hBs:W.cell? ⟨Bs,0,none⟩=some (.slice A 0 cap))(h0:J 0 W) :
  CallsIn Fence.wide 2 Tryz.prog 285 #[.func (.yield l) #[] #[],.pointer (some ⟨Bs,0,none⟩)] W fun e W'=>(∃ v,e=.returned v)/\J 0 W':=by
 refine callsIn_of_wp func285 Z trivial ?_ Z;simp only [Tryz.ntmps285,Sk,QY,Rp,Nat.reduceAdd,Nat.reduceSub,T9,Ua,List.push_toArray,List.append_toArray,SB,Sd]
 gi_wp2
 gi_loopw [3] (fun i wr=>i=.int .i64 (-1)/\J 0 wr) (fun _ _=>0)
 case atStart=>exact ⟨rfl,h0⟩
 case round =>
  obtain ⟨rfl,hJs⟩:=hrel
  gi_wp2
  go_end0
  exact ⟨⟨_,Z⟩,hJs⟩
def HX (xs:List Nat):List (Value × Value):=(List.range xs.length).map fun k=>(.int .i64 ((xs.length-1-k:Nat):Int),.int .u64 ((xs.getD (xs.length-1-k) 0:Nat):Int))
theorem fM (a:List Nat):(HX a).length=a.length:=by simp [HX]
theorem ve {a:List Nat}(h:k<a.length):(HX a)[k]?=some (.int .i64 ((a.length-1-k:Nat):Int),.int .u64 ((a.getD (a.length-1-k) 0:Nat):Int)):=by
 simp [HX,h]
theorem tj (C:Mem)(b t:Nat)(v:Value)(a:List Nat)(p:C b=some (.cells ⟨[v]⟩ t (0,0)))(q:Sl C 1 v (a.map fun n:Nat=>[Value.int .u64 (n:Int)]))(r:a.length<1000000) :
  PY Tryz.prog 285 #[.pointer (some ⟨b,0,none⟩)] C (HX a):=by
 intro l J W hC B s h0;obtain ⟨A,d,rfl,D,_,_,e⟩:=q;rw [ax] at *;have f:∀ {W:World}{k:Nat},J k W->W.cell? ⟨b,0,none⟩=some (.slice A a.length d):=fun {W k} c=>by
  simp [World.cell?,hC k W c b _ p]
 rw [fM];rcases Sb a.length with h | h
 ·have h1:=f h0;rw [h] at h1 ⊢;exact xK l b A d J W h1 h0
 obtain ⟨u,rfl,g,_⟩:=e 0 _ (aj (by simpa using h));obtain ⟨i,w,E⟩:=u;simp only at g;subst g;refine KT l b i w a.length d (fun j=>((a.getD j 0:Nat):Int)) r J (fun k W c=>⟨f c,fun j x=>?_⟩) (fun k W c y=>s k _ W c (ve y)) W h0;have h3:(a.map fun n:Nat=>[Value.int .u64 (n:Int)])[j]?=some [Value.int .u64 ((a.getD j 0:Nat):Int)]:=by
  simp [x]
 obtain ⟨a2,h4,_,h5⟩:=e j _ h3;cases h4
 have m:=h5 0 _ rfl;rw [Addr.add_lit] at m;obtain ⟨_,blk,F,fz,o,z⟩:=m;simp only at o;simp only [World.cell?,hC k W c i _ o];simpa using z
theorem CD (C:Mem)(A:Option Addr)(n c:Nat):Pur cx.P 254 [.slice A n c] C fun r C'=>∃ b,r=.func (.func 285) #[] #[.pointer (some ⟨b,0,none⟩)]/\C' b=some (.cells ⟨[.slice A n c]⟩ 305 (0,0)):=by
 exact Uv func254 4 U3 fun w0=>Ur fun R a=>UG U6 fun e=>C4 1 [1] a Z<|Um 2 [2] Z<|G.freeze 0 Z fun f g d=>Uu U2<|⟨Z,_,Z,d⟩
abbrev qW (b n c:Nat):Value:=.slice (some ⟨b,0,none⟩) n c
theorem DK (C:Mem)(s:Str)(c:UInt8):Gives cx.P 300 [ai s,.int .u8 c.toNat] C (.int .i64 (Lib.indexByte s c)):=by
 have h:=Gives.ofCalls (f:=300) (args:=[ai s,.int .u8 c.toNat]) (P:=cx.P) kr_ (fun w=>Any.stringslite_IndexByte Tryz.idxByte ⟨s.toArray⟩ (c.toNat:Int) w) C;simpa using h
theorem GS (C:Mem)(s:Str)(c:UInt8):Gives cx.P 277 [ai s,ai [c]] C (.int .i64 (Lib.indexByte s c)):=by
 refine Uv func277 143 U3 fun w0=>Um 1 [0,1] Z<|Um 3 [0,1,5] Z<|Un 6 Z fun R a=>UU U8<|C4 1 [0,1,5,16] a Z<|Up (fun b=>?_) fun b=>?_
 ·refine Um 1 [4] Z<|Uu U2<|⟨?_,Z⟩;have h:([c]:Str)=s:=by simpa using b
  subst h;simp [Lib.indexByte]
 refine Um 3 [0,1,5,24] Z<|Up (fun d=>?_) fun d=>?_
 ·exact Un 2 Z fun R a=>Vk U8 (fun _=>⟨by omega,(rfl:([c]:Str)[(0:Int).toNat]?=some c)⟩) U2<|Uz (DK _ s c) U7<|C4 1 [4] a Z<|Uu U2<|⟨Z,Z⟩
 exact absurd d am
theorem NQ (C:Mem)(s:Str)(c:UInt8)(g:s.length<1000000):Gives cx.P 246 [ai s,ai [c]] C (.tuple #[ai (ka c s).1,ai ((ka c s).2.getD []),.bool (ka c s).2.isSome]):=by
 refine Uv func246 23 U3 fun w0=>Um 3 [0,1] Z<|Un 2 Z fun R b=>Uz (GS _ s c) U7<|C4 1 [0,1,7] b Z<|Um 2 [0,1,7,12] Z<|Up (fun d=>?_) fun d=>?_
 ·have h0:0<=Lib.indexByte s c:=by simpa using d
  obtain ⟨a,post,h1,h2,h3⟩:=Kz h0;have h:s.length=a.length+1+post.length:=by rw [h2];simp;omega
  rw [h1,h3];refine UK [0,1,2,3,4,5,6,7,8,9,10,11] [] Z kr_ fun R i b=>Us 2 Z<|Vo 0 a.length U9 (fun _=>⟨.inl ⟨Z,Z⟩,.inr ⟨_,Z⟩,.inl ⟨Z,Z⟩,by omega,by omega,QG _⟩) U2<|Us 4 Z<|UY (((a.length+1:Nat):Int)) U4 am om_ om_ U2<|Vo (a.length+1) s.length U9 (fun _=>⟨.inr ⟨_,Z⟩,.inl ⟨Z,Z⟩,.inl ⟨Z,Z⟩,by omega,QG _,QG _⟩) U2<|C4 3 [4,5,6] b Z<|UA (G.dropAll (Vm U4 ?_));refine ⟨?_,Z⟩;have e:(s.take a.length).drop 0=a:=by rw [h2];simp
  have f:(s.take s.length).drop (a.length+1)=post:=by rw [QV,h2];simp
  rw [e,f];rfl
 have h0:¬ 0<=Lib.indexByte s c:=by simpa using d
 rw [Hz h0];refine Um 4 [4,5,6] Z<|UA (G.dropAll (Vm U4 ?_));exact ⟨Z,Z⟩
theorem LX (C:Mem)(s:Str)(c:UInt8)(a:s.length<1000000):Gives cx.P 206 [ai s,ai [c]] C (.tuple #[ai (ka c s).1,ai ((ka c s).2.getD []),.bool (ka c s).2.isSome]):=by
 refine Uv func206 13 U3 fun w0=>Um 3 [0,1] Z<|Un 2 Z fun R b=>Uz (NQ _ s c a) U7<|C4 6 [4,5,6] b Z<|UA (G.dropAll (Vm U4 ?_));exact ⟨Z,Z⟩
theorem yO (C:Mem)(s:Str)(c:UInt8):Gives cx.P 280 [ai s,ai [c]] C (.bool (cJ c s).2):=by
 refine Uv func280 18 U3 fun w0=>Um 1 [0,1] Z<|Un 9 Z fun R d=>Vo 0 1 U9 (fun e=>⟨.inl ⟨Z,Z⟩,.inr ⟨_,Z⟩,.inl ⟨Z,Z⟩,by omega,(by have h:decide ((1:Int)<=(s.length:Int))=true:=e.1;simp at h;omega),QG _⟩) U2<|Us 2 Z<|UM U8<|C4 1 [4] d Z<|Uu U2<|⟨?_,Z⟩;cases s with
 | nil=>rfl
 | cons b s =>
  have h1:decide ((1:Int)<=((b::s).length:Nat))=true:=by simp;omega
  unfold cJ;by_cases a:b=c
  ·subst a;simp;omega
  simp [a]
theorem Ky (C:Mem)(s:Str)(c:UInt8):Gives cx.P 278 [ai s,ai [c]] C (.tuple #[ai (cJ c s).1,.bool (cJ c s).2]):=by
 refine Uv func278 15 U3 fun w0=>Um 2 [0,1] Z<|Un 2 Z fun R d=>Uz (yO _ s c) U7<|C4 1 [0,1,9] d Z<|Up (fun a=>?_) fun a=>?_
 ·have h:¬ s.head?=some c:=fun h=>by unfold cJ at a;rw [aJ h] at a;cases a
  refine Um 3 [4,5] Z<|UA (G.dropAll (UP U3 ?_));unfold cJ;rw [aB h];exact ⟨Z,Z⟩
 have h:s.head?=some c:=Ro fun h=>by unfold cJ at a;rw [aB h] at a;cases a
 have e:1<=s.length:=by cases s with
  | nil=>cases h
  | cons b s=>simp
 refine Un 3 Z fun R d=>Vo 1 s.length U9 (fun _=>⟨.inr ⟨_,Z⟩,.inl ⟨Z,Z⟩,.inl ⟨Z,Z⟩,by omega,QG _,QG _⟩) U2<|C4 2 [4,5] d Z<|UA (G.dropAll (UP U3 ?_));unfold cJ;rw [aJ h];refine ⟨?_,Z⟩;rw [QV,List.drop_one];rfl
theorem Hy (C:Mem)(s:Str)(c:UInt8):Gives cx.P 247 [ai s,ai [c]] C (.tuple #[ai (cJ c s).1,.bool (cJ c s).2]):=by
 refine Uv func247 11 U3 fun w0=>Um 2 [0,1] Z<|Un 2 Z fun R a=>Uz (Ky _ s c) U7<|C4 4 [4,5] a Z<|UA (G.dropAll (UP U3 ?_));exact ⟨Z,Z⟩
structure Tabs (C:Mem):Prop where
 pow : VarC cx.P C "internal/strconv.uint64pow10" (Lib.pow10Tab.map fun z => Value.int .u64 z).toArray
 db : VarC cx.P C "math/bits.deBruijn64tab" (Lib.deBruijn64tab.map fun z : Nat => Value.int .u8 (z : Int)).toArray
theorem Tabs.mono {C D:Mem}(h:Tabs C)(a:C.le D):Tabs D:=⟨h.pow.mono a,h.db.mono a⟩
theorem Tabs.m_ {D:Mem}(h:Tabs C)(a:C.le D:=by exact mup):Tabs D:=Tabs.mono h a
theorem LK (C:Mem)(a:Tabs C)(n:Int)(b:-9223372036854775808<=n)(c:n<=9223372036854775807):Gives cx.P 123 [.int .i64 n] C (ai (Lib.itoa n)) :=
 Nr Tryz.itoa n b c C a.pow kr_
structure FV where
 b:Bool
 A:Option Addr
 n:Nat
 c:Nat
 A2:Option Addr
 n2:Nat
 c2:Nat
theorem split_fn (C:Mem)(s:Str):Gives cx.P 258 [ai s] C (.tuple #[.bool (cJ 45 s).2,ai (cJ 45 s).1]):=by
 refine Uv func258 17 U3 fun w0=>Um 2 [0] Z<|Um 2 [4] Z<|Un 5 Z fun R d=>Vk (b:=s.headD 0) U8 (fun e=>⟨by omega,(by
  cases s with
  | nil=>exact Bool.noConfusion (show false=true from e.1)
  | cons b s=>rfl)⟩) U2 ?_
 refine Uq U6<|UM U8<|Ut [4,13] d Z<|Up (fun a=>?_) fun a=>?_
 ·have c:s.head?=some 45:=by
   cases s with
   | nil=>cases a
   | cons b s =>
    have h1:b=45:=by
     refine T4.1 ?_;show b.toNat=45;simp at a;omega
    rw [h1];rfl
  have f:1<=s.length:=by cases s with
   | nil=>cases c
   | cons b s=>simp
  refine UK [0,1,2,3] [] Z kr_ fun R g d=>Uq U6<|Vo 1 s.length U9 (fun _=>⟨.inr ⟨_,Z⟩,.inl ⟨Z,Z⟩,.inl ⟨Z,Z⟩,by omega,QG _,QG _⟩) U2<|C4 2 [2,3] d Z<|UA (G.dropAll (UP U3 ?_));unfold cJ;rw [aJ c];refine ⟨?_,Z⟩;rw [QV,List.drop_one];rfl
 have c:¬ s.head?=some 45:=by
  cases s with
  | nil=>simp
  | cons b s =>
   intro h;have h1:b=45:=by simpa using h
   subst h1;simp at a
 refine Um 3 [2,3] Z<|UA (G.dropAll (UP U3 ?_));unfold cJ;rw [aB c];exact ⟨Z,Z⟩
def xG (s:Str):Bool:=(cJ 45 s).1.all eM && !((cJ 45 s).1 == []) && !((cJ 45 s).1.head? == some 48 && ((cJ 45 s).2 || decide (1<(cJ 45 s).1.length)))
def cI (s:Str):Bool:=xG s && decide ((cJ 45 s).1.length<=200)
theorem Ce (C:Mem)(v:Value)(l:List Nat)(d:Sl C 1 v (l.map aL)):Pur cx.P 288 [v] C fun u C'=>Sl C' 1 u ((xt l).map aL):=by
 obtain ⟨o,c0,rfl,p,_⟩:=id d;simp only [ax] at d p ⊢;refine Uv func288 21 U3 fun w0=>Um 1 [0] Z<|G.loop (fun fr C' q r=>∃ (k:Nat)(A:Option Addr)(c:Nat),(k<=l.length/\Sl C' 1 (.slice A k c) ((l.take k).map aL)/\D6 l l.length=D6 l k)/\fr=[(0,[],.slice A k c)]/\q=[]/\r=k+1) (hn_ [0] Z) ⟨l.length,o,c0,⟨QG _,by rw [QV];exact d,Z⟩,Z,Z,Z⟩ (fun fr F H m _ s=>?_);obtain ⟨k,A,c,⟨I,hs,g⟩,rfl,rfl,rfl⟩:=s;obtain ⟨_,J,t,w,_⟩:=id hs;have K:maxLen<=9223372036854775807:=by simp [maxLen]
 have L:k<=c:=by
  rw [ax,QX] at w;injection t with h1 h2 h3;omega
 have x:0<k->((l.take k).map aL)[((k:Int)-1).toNat]?=some (aL (gP l (k-1))):=fun h=>by
  rw [show ((k:Int)-1).toNat=k-1 by omega,QI,Ri,aJ om_,aj (by omega:k-1<l.length)];unfold gP;rw [al,aj (by omega:k-1<l.length)];rfl
 refine Un 7 Z fun R f=>Ux _ U7<|D.index U10 (fun i=>⟨hs,(by have h:decide ((0:Int)<(k:Int))=true:=i.1;simp at h;omega),x (by have h:decide ((0:Int)<(k:Int))=true:=i.1;simp at h;omega)⟩) fl_ Z fun M y=>UQ U6 y U3<|Uq U6<|UM U8<|Ut [0,14] f Z<|Up (fun b=>?_) fun b=>?_
 ·have a:0<k/\gP l (k-1)=0:=by
   have:(0:Int)<(k:Int)/\((gP l (k-1):Nat):Int)=0:=by simpa using b
   omega
  refine Un 3 Z fun R f=>UY (((k-1:Nat):Int)) U4 om_ om_ om_ U2<|Vg 0 (k-1) c U12 (fun _=>⟨.inl ⟨Z,Z⟩,.inr ⟨_,Z⟩,.inl ⟨Z,Z⟩,by omega,by omega,QG _⟩) U2<|C4 1 [0] f Z ?_;have n:=Sl.sub hs (l:=0) (h:=k-1) (m:=c) (QK _) ap om_ (QG _);have z:(((l.take k).map aL).take (k-1)).drop 0=(l.take (k-1)).map aL:=by
   rw [RQ,<- Tn,TO,R9 om_]
  rw [z] at n;have B:D6 l l.length=D6 l (k-1):=by
   rw [g];obtain ⟨j,rfl⟩:∃ j,k=j+1:=⟨k-1,by omega⟩;simp only [SU] at a ⊢;rw [D6,aJ];unfold gP at a;rw [al,aj om_] at a;rw [aj om_];exact congrArg some a.2
  refine UB (m':=k-1+1) om_ mup (hn_ [0] Z) ⟨k-1,_,c,⟨by omega,n.mono mup,B⟩,Z,Z,Z⟩
 have a:¬ (0<k/\gP l (k-1)=0):=fun E=>by
  have h1:(decide ((0:Int)<(k:Int)) && (((gP l (k-1):Nat):Int) == 0))=true:=by
   rw [E.2];simp;omega
  rw [h1] at b;cases b
 refine Um 2 [2] Z<|Uu U2<|⟨Z, ?_⟩;have e:D6 l k=k:=by
  cases k with
  | zero=>rfl
  | succ j =>
   simp only [SU] at a;rw [D6,aB];intro h;refine a ⟨by omega, ?_⟩;unfold gP;rw [al,h];rfl
 unfold xt;rw [g,e];exact hs
theorem uN (C:Mem)(v:Value)(l:List Nat)(a:l.length=n):Jog.Fn cx.P 288 [v] C [.arr v 3 1 n (l.map aL).flatten] fun u C' b=>b=[]/\Sl C' 1 u ((xt l).map aL) :=
 Jog.Fn.give (l.map aL) kr_ (by intro r hr;obtain ⟨y,_,rfl⟩:=QM.1 hr;rfl) (by rw [ax,a]) (fun C' _ hs=>Ce C' v l hs)
def PieC (C:Mem)(v:Value)(n:Nat):Prop:=∃ l,CN l/\bK l=n/\Sl C 1 v (l.map aL)
theorem JA (C:Mem)(s t:Value)(a b:List Nat)(d:Sl C 1 s (a.map aL))(f:Sl C 1 t (b.map aL))(n:CN a)(o:CN b):Gives cx.P 289 [s,t] C (.bool (decide (bK a<bK b))):=by
 have Q:maxLen<=9223372036854775807:=by simp [maxLen]
 obtain ⟨A,c0,rfl,B,S,_⟩:=id d;obtain ⟨D,E,rfl,F,T,_⟩:=id f;simp only [ax] at d f B F ⊢;refine Uv func289 41 U3 fun w0=>Um 1 [0,1] Z<|Um 5 [0,1,10] Z<|Up (fun g=>?_) fun g=>?_
 ·have U:a.length≠b.length:=fun e=>by
   rw [e] at g;simp at g
  refine Um 6 [4] Z<|Uu U2<|⟨?_,Z⟩;congr 1;rw [Rv];rcases Rh a.length b.length with h | h
  ·have:=GF n.1 o h;constructor
   ·intro _;exact this
   intro _;omega
  have:=GF o.1 n om_;constructor <;> intro _ <;> omega
 have p:a.length=b.length:=by
  have:(a.length:Int)=b.length:=by simpa using g
  omega
 refine Un 2 Z fun R c=>Ux _ U7<|C4 1 [0,1,5] c Z<|G.loop (fun fr C' H I=>∃ (k:Nat),(k<=a.length/\a.drop k=b.drop k)/\fr=[(0,[],.slice A a.length c0),(1,[],.slice D b.length E),(5,[],.int .i64 ((k:Int)-1))]/\H=[]/\I=k+1) (hn_ [0,1,5] Z) ⟨a.length,⟨QG _,by rw [RW,p,RW]⟩,Z,Z,Z⟩ (fun fr V W m _ J=>?_);obtain ⟨k,⟨X,i⟩,rfl,rfl,rfl⟩:=J;refine Um 2 [0,1,5,20] Z<|Up (fun q=>?_) fun q=>?_
 ·have u:0<k:=by
   have:(0:Int)<=(k:Int)-1:=by simpa using q
   omega
  obtain ⟨j,rfl⟩:∃ j,k=j+1:=⟨k-1,by omega⟩;obtain ⟨x,l⟩:∃ x,a[j]?=some x:=⟨a[j],aj om_⟩;obtain ⟨y,hy⟩:∃ y,b[j]?=some y:=⟨b[j],aj om_⟩;have v:(a.map aL)[(((j+1:Nat):Int)-1).toNat]?=some (aL x):=by
   rw [show (((j+1:Nat):Int)-1).toNat=j by omega,QI,l];rfl
  have w:(b.map aL)[(((j+1:Nat):Int)-1).toNat]?=some (aL y):=by
   rw [show (((j+1:Nat):Int)-1).toNat=j by omega,QI,hy];rfl
  refine UK [0,1,2,3,4,5,6,7,8] [] Z kr_ fun R K c=>Us 2 Z<|UE d.m_ U10 om_ v fl_ fun Y L=>Uo L U8<|Us 2 Z<|UE f.m_ U10 om_ w fl_ fun aa M=>Uo M U8<|C4 1 [0,1,5,31] c Z<|Up (fun r=>?_) fun r=>?_
  ·have z:x≠y:=fun e=>by
    subst e;simp at r
   refine UK [0,1,2,3,4,5,6,7,8,9] [] Z kr_ fun R K c=>Us 2 Z<|UE d.m_ U10 om_ v fl_ fun ab N=>Uo N U8<|Us 2 Z<|UE f.m_ U10 om_ w fl_ fun ac O=>Uo O U8<|C4 2 [4] c Z<|Uu U2<|⟨?_,Z⟩;congr 1;rw [Rv];rcases Rh x y with h | h
   ·have:=L3 n.1 p l hy h i;constructor
    ·intro _;exact this
    intro _;omega
   have:=L3 o.1 p.symm hy l om_ i.symm;constructor <;> intro _ <;> omega
  have z:x=y:=by
   have:(x:Int)=y:=by simpa using r
   omega
  refine Un 1 Z fun R c=>Ux _ U7<|C4 1 [0,1,5] c Z ?_;rw [show ((j+1:Nat):Int)-1-1=(j:Int)-1 by omega];refine UB (m':=j+1) om_ mup (hn_ [0,1,5] Z) ⟨j,⟨by omega,by
   rw [Re (by omega:j<a.length),Re (by omega:j<b.length),i,(aE.1 l).2,(aE.1 hy).2,z]⟩,rfl,rfl,rfl⟩
 have u:k=0:=by
  have:¬ (0:Int)<=(k:Int)-1:=by simpa using q
  omega
 subst u;refine Um 1 [4] Z<|Uu U2<|⟨?_,Z⟩;have:a=b:=by simpa using i
 subst this;simp
theorem Hw {s:Str}{a:Nat}{c:UInt8}(d:a<=i)(b:s[i]?=some c):bW (gN s a (i+1))=10*bW (gN s a i)+(c.toNat-48):=by
 have f:=(aE.1 b).1;have e:gN s a (i+1)=gN s a i++[c]:=by
  unfold gN;rw [Q5,b,R5,Ty,QX,R9 om_,show a-i=0 by omega];rfl
 rw [e];unfold bW;rw [List.foldl_append];rfl
theorem Kw (s:Str)(a:Nat):gN s a a=[]:=by
 unfold gN;rw [List.drop_eq_nil_iff,QX];omega
theorem Mr (C:Mem)(s:Str)(g:∀ c∈s,eM c=true)(K:s.length<=100000):Pur cx.P 262 [ai s] C fun u D=>PieC D u (bW s):=by
 refine Uv func262 35 U3 fun w0=>Um 1 [0] Z<|Um 1 [0,3] Z<|Um 3 [0,3,4] Z<|G.nilArr 3 1<|G.loop (fun fr C' d k=>∃ (e j:Nat)(b:Int)(out:List Nat)(w:Value),((b=e/\e+4*j=s.length∨b<=0/\e=0)/\-4<=b/\b<=100000/\e<=s.length/\out.length=j/\j<=100000/\DigP out/\bK out=bW (s.drop e))/\fr=[(0,[],ai s),(3,[],w),(4,[],.int .i64 b)]/\d=[.arr w 3 1 j (out.map aL).flatten]/\k=e+1) (hn_ [0,3,4] Z) ⟨s.length,0,(s.length:Int),[],_,⟨.inl ⟨Z,Z⟩,by omega,by omega,QG _,Z,by omega,(fun x B=>(by cases B)),by rw [RW];rfl⟩,Z,Z,Z⟩ (fun fr L M m _ l=>?_);obtain ⟨e,j,b,out,w,⟨q,N,O,Q,n,S,r,t⟩,rfl,rfl,rfl⟩:=l;refine Um 2 [0,3,4,10] Z<|Up (fun f=>?_) fun f=>?_
 ·obtain ⟨rfl,E⟩:b=e/\e+4*j=s.length:=by
   have h0:0<b:=by simpa using f
   rcases q with h | h
   ·exact h
   omega
  have v:0<e:=by
   have h0:(0:Int)<(e:Int):=by simpa using f
   omega
  refine Um 1 [0,3,4,5] Z<|Un 1 Z fun R a=>Ux _ U7<|D.max (((e-4:Nat):Int)) U6 om_ U2<|C4 1 [0,3,4,5,6] a Z ?_;rw [show (Value.int .i64 0)=.int .i64 ((bW (gN s (e-4) (e-4)):Nat):Int) by rw [Kw];rfl];refine G.loop (fun fr C' d k=>∃ (i:Nat),(e-4<=i/\i<=e)/\fr=[(0,[],ai s),(3,[],w),(4,[],.int .i64 (e:Int)),(5,[],.int .i64 (bW (gN s (e-4) i):Nat)),(6,[],.int .i64 i)]/\d=[.arr w 3 1 j (out.map aL).flatten]/\k=e-i) (hn_ [0,3,4,5,6] Z) ⟨e-4,⟨QG _,by omega⟩,Z,Z,Z⟩ (fun fr T U m _ l=>?_);obtain ⟨i,⟨F,V⟩,rfl,rfl,rfl⟩:=l;refine Um 3 [0,3,4,5,6,18] Z<|Up (fun o=>?_) fun o=>?_
  ·have y:i<e:=by simpa using o
   obtain ⟨c,p⟩:∃ c,s[i]?=some c:=⟨s[i]'om_,aj _⟩;have z:=g c (PN p);have W:48<=c.toNat/\c.toNat<=57:=by unfold eM at z;simpa using z
   have X:bW (gN s (e-4) i)<10000:=Hx g om_;refine Un 1 Z fun R a=>UY (((10*bW (gN s (e-4) i):Nat):Int)) U4 om_ om_ om_ U2<|Us 2 Z<|Vk U8 (fun _=>⟨by omega,p⟩) U2<|Vc (c:=((c.toNat:Nat):Int)) U8 (by rw [IntKind.wrap_i64];omega) fl_<|UY (((10*bW (gN s (e-4) i)+c.toNat:Nat):Int)) U4 om_ om_ om_ U2<|UY (((10*bW (gN s (e-4) i)+(c.toNat-48):Nat):Int)) U4 om_ om_ om_ U2<|C4 1 [0,3,4,5,6] a Z<|Un 1 Z fun R a=>Ux _ U7<|C4 1 [0,3,4,5,6] a Z ?_;rw [<- Hw F p];refine UB (m':=e-(i+1)) om_ mup (hn_ [0,3,4,5,6] Z) ⟨i+1,⟨by omega,by omega⟩,Z,Z,Z⟩
  have y:i=e:=by
   have:¬ i<e:=by simpa using o
   omega
  subst y;refine Un 2 Z fun R a=>UJ [aL (bW (gN s (i-4) i))] U12 fun Y _ _ H=>D.append (j:=0) U11 H Z aw (by show (j+1)*8<=_;omega) fl_ fun A=>C4 1 [0,3,4] a Z<|Un 1 Z fun R a=>Ux _ U7<|C4 1 [0,3,4] a Z<|UF (L':=[.arr A 3 1 (j+1) ((out++[bW (gN s (i-4) i)]).map aL).flatten]) (by simp [aL])<|UB (m':=i-4+1) om_ mup (hn_ [0,3,4] Z) ⟨i-4,j+1,(i:Int)-4,out++[bW (gN s (i-4) i)],A,⟨by
   rcases Rh i 4 with h | h
   ·exact .inr ⟨by omega,by omega⟩
   exact .inl ⟨by omega,by omega⟩,by omega,by omega,by omega,by simp [n],by omega,r.snoc (Hx g om_),E2 E n om_ t⟩,Z,Z,Z⟩
 have v:e=0:=by
  have h0:¬ 0<b:=by simpa using f
  rcases q with h | h
  ·omega
  exact h.2
 refine UO [(1,3)] Z fun R a=>Uq U6<|D.call (uN _ _ out n) Z (.inr dc_) U6 (QL _) fl_ (fun aa _ ab _ I=>?_);obtain ⟨rfl,J⟩:=I;refine C4 1 [2] a Z<|Uu U2<|⟨Z,xt out,mg r, ?_,J⟩;rw [ir,t,v,RQ]
end Go.Proofs.YthnpijdjlddpmaaGreatDoor
