/- Laws that the proofs of this seat share, part 5. -/
import Derived.Test.YthnpijdjlddpmaaGreatDoorG4
import Derived.Test.YthnpijdjlddpmaaGreatDoorShelf
import Derived.Sort.Walk0
import Derived.Shelf.SlSortCmp.Insertion
import Derived.Test.YthnpijdjlddpmaaGreatDoorProg
import Derived.RangeFuncBox
import Derived.RangeFuncLeaves
import Derived.Shelf.Abstract
import Derived.WalkKit
import Derived.OwnWalkIn
import Derived.TacticsInMore
import Derived.LoopNIn
import Derived.LoopIn
set_option maxHeartbeats 4000000
namespace Go.Jog
open Go
variable {C C1:Mem}{L:List Ent}{P:Program}{W:World}{assign body:Code}{fn l:Nat}{tmps:Array Value}{w:World}
theorem Sep.lessC (h:Sep C1 L w)(a:C.le C1):Sep C L w :=
 ⟨fun b o f=>h.c b o (a b o f),h.e,h.d,fun k g=>by
  cases i:C k with
  | none=>rfl
  | some o=>have:=a k o i;rw [h.n k g] at this;cases this⟩
theorem St.up {m:Mem}{g:List Ent}{j:World}(a:Sep C1 L W)(k:St W C L m g j):St W C1 L C1 g j:=by
 refine ⟨⟨fun b o f=>?_,k.sep.e,k.sep.d,fun i p=>?_⟩,k.ev,Mem.le.refl _,fun _ _ h=>.inl h,k.ln⟩
 ·rw [k.ev.block b (bZ (a.c b o f)) (fun q=>by have:=a.n b q;rw [f] at this;cases this)];exact a.c b o f
 cases l:C1 i with
 | none=>rfl
 | some o =>
  rcases k.ln i p with h | h
  ·have:=bZ (a.c i o l);omega
  have:=a.n i h;rw [l] at this;cases this
theorem Sep.front {b f:List Ent}(h:Sep C (b++f) w):Sep C b w :=
 ⟨h.c,fun x a=>h.e x (Sf _ a),(SY.1 h.d).1,fun k ⟨x,a,g⟩=>h.n k ⟨x,Sf _ a,g⟩⟩
def YC (P:Program)(l:Nat)(vs:List Value)(C:Mem)(L:List Ent)(R:Bool->List Ent->Prop):Prop :=
 ∀ W,Sep C L W->YieldAt Fence.wide 1 P l vs.toArray W fun e W'=>∃ b L1,e=.returned (.bool b)/\R b L1/\St W C L C L1 W'
theorem yy {R:Ending->World->Prop}{m n:Nat}{r:Option Nat}(h:RoundIn Fence.wide m P l fn tmps assign body W R):RoundIn (Fo r) n P l fn tmps assign body W R :=
 ⟨trivial,fun c cs _=>h.2 c cs (room_wide _)⟩
theorem Ft {a:Act}{o:Oper}{f:Operand}{b:Array Operand}{d:Array TypeId}{c:List Value}
  (e:o.op=.call ⟨.value f,b,d⟩) (g:a.eval f=.func (.yield l) #[] #[]) (h:b.toList.map a.eval=c) (i:(Instr.yield l c.toArray).run P w=.ok (.round l fn tmps assign body) w) :
  (execOp a.eval o).run P w=.ok (.round l fn tmps assign body) w:=by
 have j:execOp a.eval o=(do let dd <- resolve a.eval ⟨.value f,b,d⟩ o.type;invoke dd.target dd.args:Sem Next):=by unfold execOp;rw [e]
 have k:b.map a.eval=c.toArray:=by apply Sp;rw [<- h];simp
 rw [j];simp only [resolve,g,Deferred.ofValue,k,Sem.run_bind,Sem.run_pure,Result.andThen_ok,invoke];simpa using i
def YW (P:Program)(W:Cw P)(r:Option Nat)(n:Nat):Prop:=∀ {c:Code}{Q:Exit->Act->World->Prop}{a:Act}{w:World},c.wpIn (Fo r) n P Q a w->W.wp c Q a w
theorem YW.plain (P:Program):YW P (Cw.plain P) none 3:=fun h=>(wpIn_wide (n:=3)).1 h
end Go.Jog
namespace Go.Jog
open Go
def Jk:List (Nat × Value)->Fr->Fr
 | [],fr=>fr
 | (p,v)::l,fr=>Jk l ((p,[],v)::fr)
def BA (n:Nat):List (Nat × Value)->Fr->Bool
 | [],_=>true
 | (p,v)::l,fr=>aQ n [] ((p,[],v)::fr) p && BA n l ((p,[],v)::fr)
theorem FrOk.puts {n:Nat}:∀ {l:List (Nat × Value)}{fr:Fr}{t:Array Value},FrOk n [] [] fr { tmps:=t,defers:=[] }->BA n l fr=true->FrOk n [] [] (Jk l fr) { tmps:=l.foldl (fun t x=>t.setIfInBounds x.1 x.2) t,defers:=[] }
 | [],_,_,h,_=>h
 | (p,v)::l,fr,t,h,a=>by
  simp only [BA,QT] at a;have h1:=FrOk.put (u:=v) h a.1 ⟨fun _=>rfl,fun b=>absurd (fun p c=>by cases c) b⟩;exact FrOk.puts (l:=l) ⟨h1.size,Z,h1.ent⟩ a.2
def Ip:Exit->Option Code
 | .ret=>some .ret
 | .exit id=>some (.exit id)
 | _=>none
end Go.Jog
namespace Go.Jog
open Go
def IterM (P:Program)(gf:FuncId)(fb lb:Array Value)(C:Mem)(M0:List Ent)(vss:List (List Value)):Prop :=
 ∀ (l:Nat)(I X:Nat->List Ent->Prop)(L:List Ent),(∀ k v L',vss[k]?=some v->I k L'->YC P l v C L' (fun b L1=>(b=true/\I (k+1) L1)∨(b=false/\X k L1)))->I 0 L ->
  ∀ W,Sep C (M0++L) W->CallsIn Fence.wide 2 P gf (fb++#[.func (.yield l) #[] #[]]++lb) W fun e W'=>(∃ v,e=.returned v)/\∃ M' L',(I vss.length L'∨∃ k,k<vss.length/\X k L')/\St W C (M0++L) C (M'++L') W'
def EndM (n:Nat)(I X:Nat->List Ent->Prop)(L2:List Ent):Prop:=∃ M' L',L2=M'++L'/\(I n L'∨∃ k,k<n/\X k L')
theorem IterM.intro {a:Cx}{f:FuncId}{g:Func}{c:Code}{fb lb:List Value}{C:Mem}{i:List Ent}{j:List (List Value)}(m:Enters a.P f=true)(o:a.P.funcs[f]?=some g)(p:g.body=some c)
  (n:Nat) (q:g.ntmps=n) (r:Nat.ble (fb++.func (.yield 0) #[] #[]::lb).length n=true)
  (h:∀ (l:Nat)(I X:Nat->List Ent->Prop)(L:List Ent),(∀ k v d,j[k]?=some v->I k d->YC a.P l v C d (fun b L1=>(b=true/\I (k+1) L1)∨(b=false/\X k L1)))->I 0 L ->
   ∀ w0,G ⟨a,g,n,⟨w0,C,i++L⟩,fun _ _ d=>EndM j.length I X d,Cw.plain a.P,[],bodyPost a.P g (nO ⟨w0,C,i++L⟩ fun _ _ d=>EndM j.length I X d)⟩
    (iO 64 [.code c]) .normal (xO (fb++.func (.yield l) #[] #[]::lb) 0) C (i++L)):IterM a.P f fb.toArray lb.toArray C i j:=fun l I X L hy h0 W s=>by
 have t:=Fn.intro (args:=fb++.func (.yield l) #[] #[]::lb) m o p n q (by rw [<- r];congr 1;simp) (h l I X L hy h0);have e:(fb.toArray++#[Value.func (.yield l) #[] #[]]++lb.toArray)=(fb++Value.func (.yield l) #[] #[]::lb).toArray:=by simp
 rw [e];refine callsIn_wide.2 ((t.2 W s).mono fun e w' ⟨v,C',d,u,hs,w,x,y,z⟩=>⟨⟨v,u⟩,w,x,z, ?_⟩);subst y;exact St.less hs (Mem.le.refl _) hs.c0
theorem St.dropFront {a:World}{b:Mem}{c:List Ent}{C:Mem}{W:World}:∀ (M:List Ent){L:List Ent},St a b c C (M++L) W->St a b c C L W
 | [],_,h=>h
 | _::M,_,h=>St.dropFront M h.drop
section
variable {F:Fx} {k:List KI} {fr:Fr} {C:Mem} {L:List Ent}
theorem Xp {g:Operand}{ps:List Nat}{assign body:Code}{gf:FuncId}{fb lb:Array Value}{vss:List (List Value)}(hW:F.W=Cw.plain F.cx.P)
  (hg:ev fr [] g=some (.func (.func gf) fb lb)) (hen:Enters F.cx.P gf=true) {M0 Lr:List Ent} (hseq:IterM F.cx.P gf fb lb C M0 vss) (hL:L.Perm (M0++Lr)) (hps:∀ v∈vss,v.length=ps.length)
  (I:Nat->List Ent->Prop) (X:Code->Nat->List Ent->Prop) (h0:I 0 Lr)
  (hok:∀ v∈vss,BA F.n (ps.zip v) fr=true) (A:Nat->List Ent->Fr->List Ent->Prop)
  (hassign:∀ l j v L' W1,I j L'->vss[j]?=some v->G ⟨F.cx,F.fn,F.n,⟨W1,C,L'⟩,F.post,Cw.round F.cx.P l 1,[],fun e a w'=>e=.normal/\∃ frA LA,A j L' frA LA/\FrOk F.n [] [] frA a/\St W1 C L' C LA w'⟩ (iO 64 [.code assign]) .normal (Jk (ps.zip v) fr) C L')
  (hbody:∀ l j v L' frA LA W1,I j L'->vss[j]?=some v->A j L' frA LA ->
   G ⟨F.cx,F.fn,F.n,⟨W1,C,LA⟩,F.post,Cw.round F.cx.P l 1,[],fun e _ w'=>(e=.normal/\∃ L1,I (j+1) L1/\St W1 C LA C L1 w')∨(∃ c L1,Ip e=some c/\X c j L1/\St W1 C LA C L1 w')⟩ (iO 64 [.code body]) .normal frA C LA)
  (hdone:∀ D L',I vss.length L'->G { F with dd:={ target:=.collected D,args:=#[] }::F.dd } (iO 64 k) .normal fr C (.obj D (.deferred (some []))::L'))
  (hstop:∀ D j c L',j<vss.length->X c j L'->G { F with dd:={ target:=.collected D,args:=#[] }::F.dd } (.code c::k) .normal fr C (.obj D (.deferred (some []))::L')) :
  G F (.code (.rangeFunc g ps.toArray assign body)::k) .normal fr C L:=fun hle a w ha hw=>by
 simp only [Kq,hW];show (Code.rangeFunc g ps.toArray assign body).wp F.cx.P (Kq F k) a w;refine (wpIn_wide (n:=3)).1 (wpIn_rangeFunc fun fn _=>?_);have hga:a.eval g=.func (.func gf) fb lb:=bA ha (fun p hp=>by cases hp) hg;obtain ⟨rec,hrec⟩:∃ rec:LoopState->Option Code->Loop,rec=fun st pe=>{ state:=st,pending:=pe,fn,tmps:=a.tmps,params:=ps.toArray,assign,body,defers:=w.heap.size }:=⟨_,rfl⟩;obtain ⟨z,hz⟩:∃ z,w.heap.size=z:=⟨_,rfl⟩;obtain ⟨W1,hW1⟩:∃ W1,(w.alloc (.deferred (some []))).alloc (.loop (rec .ready none))=W1:=⟨_,rfl⟩;have hS1:St F.b.w0 F.b.C0 F.b.L0 C (M0++.obj (z+1) (.loop (rec .ready none))::.obj z (.deferred (some []))::Lr) W1:=by
  have:=St.alloc (St.alloc (St.perm hw hL) (.deferred (some []))) (.loop (rec .ready none));rw [World.size_alloc,hz] at this;rw [<- hW1];exact St.perm this (((QL [_,_]).append Rm).trans (Rm (l₁:=[_,_]++Lr)))
 refine ⟨z+1,[{ target:=.collected z,args:=#[] }],W1,{ target:=.fn (.func gf) lb,args:=fb++#[.func (.yield (z+1)) #[] #[]] },W1,gf,
  fb++#[.func (.yield (z+1)) #[] #[]]++lb,W1, ?_, ?_,fun _ _=>trivial, ?_,fun _=>by decide, ?_⟩
 ·rw [<- hW1,hrec,<- hz];exact run_enterLoop_outer _ _ _ _ _
 ·simp only [resolve,hga];simp [go_sem]
 ·simp [invoke,go_sem,eU hen]
 refine (hseq (z+1) (fun j L2=>∃ L',I j L'/\L2=.obj (z+1) (.loop (rec .ready none))::.obj z (.deferred (some []))::L')
  (fun j L2=>∃ c L',X c j L'/\L2=.obj (z+1) (.loop (rec .done (some c)))::.obj z (.deferred (some []))::L') _ ?_ ⟨Lr,h0,rfl⟩ W1 hS1.sep).mono ?_
 ·rintro j v L2 hj ⟨L',hi,rfl⟩ W hW0;have hmem:v∈vss:=QF hj;have hs:=St.start hW0;have hl:W.heap[z+1]?=some (.loop (rec .ready none)):=hs.sep.e _ (PN ..);have hy:=run_yield (P:=F.cx.P) (args:=v.toArray) hl (by rw [hrec];simp [hps v hmem]);rw [hrec] at hy;have hzz:(ps.toArray.zip v.toArray).foldl (fun tmps (x:Nat × Value)=>match x with | (t,a)=>tmps.setIfInBounds t a) a.tmps=(ps.zip v).foldl (fun t x=>t.setIfInBounds x.1 x.2) a.tmps:=by simp
  dsimp only at hy;rw [hzz] at hy;refine ⟨fn,_,assign,body,hy,roundIn_of_wpIn trivial ?_⟩;have hfr:FrOk F.n [] [] (Jk (ps.zip v) fr) { tmps:=(ps.zip v).foldl (fun t x=>t.setIfInBounds x.1 x.2) a.tmps,defers:=[] } :=
   FrOk.puts ⟨ha.size,rfl,ha.ent⟩ (hok v hmem)
  have hA:=VG (hassign (z+1) j v L' W hi hj) (Mem.le.refl _) hfr (St.start hs.drop.drop.sep);refine wpIn_mono hA (fun e a1 W2 q=>?_);obtain ⟨rfl,frA,LA,hAA,hfr1,hs1⟩:=q;have hs2a:=St.call (Lp:=L') (Lr:=[.obj (z+1) (.loop (rec .ready none)),.obj z (.deferred (some []))]) (St.perm hs (Rm (l₁:=[_,_]))) hs1;have hs2:St W C (.obj (z+1) (.loop (rec .ready none))::.obj z (.deferred (some []))::L') C (.obj (z+1) (.loop (rec .ready none))::.obj z (.deferred (some []))::LA) W2:=St.perm hs2a (Rm (l₂:=[_,_]));have hl2:W2.heap[z+1]?=some (.loop (rec .ready none)):=hs2.sep.e _ (PN ..);refine ⟨_,run_beginRound hl2 (by rw [hrec]), ?_⟩;have hs3:St W C (.obj (z+1) (.loop (rec .ready none))::.obj z (.deferred (some []))::L') C (.obj (z+1) (.loop (rec .busy none))::.obj z (.deferred (some []))::LA) (W2.putObj (z+1) (.loop { rec .ready none with state:=.busy })):=by
   have:=St.putObj (o':=.loop { rec .ready none with state:=.busy }) hs2;rw [hrec] at this ⊢;exact this
  have hB:=VG (hbody (z+1) j v L' frA LA (W2.putObj (z+1) (.loop { rec .ready none with state:=.busy })) hi hj hAA) (Mem.le.refl _) hfr1 (St.start hs3.drop.drop.sep);refine wpIn_mono hB (fun e a2 W4 q=>?_);have back:∀ L1,St (W2.putObj (z+1) (.loop { rec .ready none with state:=.busy })) C LA C L1 W4->St W C (.obj (z+1) (.loop (rec .ready none))::.obj z (.deferred (some []))::L') C (.obj (z+1) (.loop (rec .busy none))::.obj z (.deferred (some []))::L1) W4:=fun L1 hs4=>by
   have hs5:=St.call (Lp:=LA) (Lr:=[.obj (z+1) (.loop (rec .busy none)),.obj z (.deferred (some []))]) (St.perm hs3 (Rm (l₁:=[_,_]))) hs4;exact St.perm hs5 (Rm (l₂:=[_,_]))
  have leave:∀ (c:Code) L1,X c j L1->St (W2.putObj (z+1) (.loop { rec .ready none with state:=.busy })) C LA C L1 W4->∃ v W5,(Instr.endRound (z+1) (some c)).run F.cx.P W4=.ok v W5/\∃ b L2,Ending.returned v=.returned (.bool b) /\
    ((b=true/\∃ L',I (j+1) L'/\L2=.obj (z+1) (.loop (rec .ready none))::.obj z (.deferred (some []))::L')∨(b=false/\∃ c L',X c j L'/\L2=.obj (z+1) (.loop (rec .done (some c)))::.obj z (.deferred (some []))::L')) /\
    St W C (.obj (z+1) (.loop (rec .ready none))::.obj z (.deferred (some []))::L') C L2 W5:=fun c L1 hX hs4=>by
   have hs6:=back L1 hs4;have hl4:W4.heap[z+1]?=some (.loop (rec .busy none)):=hs6.sep.e _ (PN ..);refine ⟨_,_,run_endRound (some c) hl4,false,_,Z,.inr ⟨Z,c,L1,hX,Z⟩, ?_⟩;have:=St.putObj (o':=.loop { rec .busy none with state:=if (some c).isNone then .ready else .done,pending:=some c }) hs6;rw [hrec] at this ⊢;exact this
  rcases q with ⟨rfl,L1,hi1,hs4⟩ | ⟨c,L1,hc,hX,hs4⟩
  ·have hs6:=back L1 hs4;have hl4:W4.heap[z+1]?=some (.loop (rec .busy none)):=hs6.sep.e _ (PN ..);refine ⟨_,_,run_endRound none hl4,true,_,Z,.inl ⟨Z,L1,hi1,Z⟩, ?_⟩;have:=St.putObj (o':=.loop { rec .busy none with state:=if (none:Option Code).isNone then .ready else .done,pending:=none }) hs6;rw [hrec] at this ⊢;exact this
  cases e <;> simp only [Ip] at hc <;> cases hc
  ·exact leave _ L1 hX hs4
  exact leave _ L1 hX hs4
 rintro e W2 ⟨⟨v,rfl⟩,M',L2,hL2,hs⟩;have hs':St F.b.w0 F.b.C0 F.b.L0 C L2 W2:=by
  have:=St.call (Lr:=[]) (by rw [Q7];exact hS1) hs;rw [Q7] at this;exact St.dropFront M' this
 have hfr:FrOk F.n [] ({ target:=.collected z,args:=#[] }::F.dd) fr { a with defers:=[{ target:=.collected z,args:=#[] }]++a.defers }:=⟨ha.size,by rw [ha.defers];rfl,ha.ent⟩;rcases hL2 with ⟨L',hi,rfl⟩ | ⟨j,hj,c,L',hX,rfl⟩
 ·have hl:W2.heap[z+1]?=some (.loop (rec .ready none)):=hs'.sep.e _ (PN ..);refine ⟨none,_,by have:=run_endLoop (P:=F.cx.P) hl (by rw [hrec];simp);rw [hrec] at this;exact this, ?_⟩;have hs2:St F.b.w0 F.b.C0 F.b.L0 C (.obj z (.deferred (some []))::L') (W2.putObj (z+1) (.loop { rec .ready none with state:=.exhausted })):=(St.putObj hs').drop;have:=U1 64 (hdone z L' hi) hle _ _ hfr hs2;rw [xS] at this;rw [hrec] at this;exact this
 have hl:W2.heap[z+1]?=some (.loop (rec .done (some c))):=hs'.sep.e _ (PN ..);refine ⟨some c,_,by have:=run_endLoop (P:=F.cx.P) hl (by rw [hrec];simp);rw [hrec] at this;exact this, ?_⟩;have hs2:St F.b.w0 F.b.C0 F.b.L0 C (.obj z (.deferred (some []))::L') (W2.putObj (z+1) (.loop { rec .done (some c) with state:=.exhausted })):=(St.putObj hs').drop;have:=hstop z j c L' hj hX hle _ _ hfr hs2;rw [xS] at this;simp only [Kq,hW] at this;rw [hrec] at this;exact (wpIn_wide (n:=3)).2 this
theorem Xn {id:Nat}{l:List Oper}(y:Nat)(t j:List Nat)(H:List (Nat × Nat)){r:Option Nat}{n:Nat}(aj:YW F.cx.P F.W r n)(m:fr.all (fun x=>x.2.1.isEmpty)=true)(ak:gm l.toArray=true)
  (hB:t++y::j=List.range l.toArray.size)
  (V:((t++y::j).all (fun i=>Nat.blt i l.length) && (!t.contains y && !j.contains y))=true)
  {f:Operand} {X:Array Operand} {ts:Array TypeId} {d:Nat} (Y:(kz l y).op=.call ⟨.value f,X,ts⟩) (hd:(kz l y).dst=some d)
  (h:∀ R:Rg F.n (l.map (·.dst)),C.le R.b.C0 ->
   (∀ {lp:Nat}{vs:List Value}{M Lo:List Ent}{N:Mem}{O:Bool->List Ent->Prop}{o:Fr}{C1:Mem}{L1:List Ent},YC F.cx.P lp vs N M O->N.le C1->gOn (l.map (·.dst)) o (kz l y).guard=true->∀ {g:GL},gOf (l.map (·.dst)) o (kz l y).guard=some g->ev o g f=some (.func (.yield lp) #[] #[]) ->
    ju (ev o g) X.toList=some vs->L1.Perm (M++Lo)->(∀ v,aQ F.n (l.map (·.dst)) ((d,[],v)::o) d=true) ->
    (∀ b B,O b B->∀ q:Rg F.n (l.map (·.dst)),C.le q.b.C0->(∀ fr C L,fr.all (fun x=>x.2.1.isEmpty)=true->G F (iO 64 k) .normal fr C L->D F.cx q [] fr C L)->D F.cx q (gR l H j) ((d,[],.bool b)::o) C1 (B++Lo)) ->
    D F.cx R [] o C1 L1) ->
   D F.cx R (gR l H t) fr C L) :
  G F (.code (.region id l.toArray false)::k) .normal fr C L:=fun h0 a w E z=>by
 simp only [Kq];simp only [QT,T9,List.all_cons,S3,List.contains_eq_mem,Q1] at V;obtain ⟨⟨al,aa,am⟩,an,ao⟩:=V
 let kd:=fun i=>ovr H i (gc (kz l i))
 let b:Bs:=⟨F.b.w0,C,F.b.L0⟩
 let Post:Act->Mem × List Ent->Prop:=fun a κ=>∀ w,b.cls κ w->Kq F k .normal a w
 let q:Rg F.n (l.map (·.dst)):=⟨b,l.toArray,kd,Post,fun tmps=>eA l tmps,F.dd⟩
 let ap:Act->Mem × List Ent->Prop:=fun a κ=>DY r n y F.cx.P l.toArray b.cls kle kd Post (y::j) a κ
 let R1:Rg F.n (l.map (·.dst)):=⟨b,l.toArray,kd,ap,fun tmps=>eA l tmps,F.dd⟩
 have un:∀ κ w,b.cls κ w->F.b.cls κ w:=fun κ w I=>St.unbase h0 z.cn I;have aq:∀ fr C L,fr.all (fun x=>x.2.1.isEmpty)=true->G F (iO 64 k) .normal fr C L->D F.cx q [] fr C L:=fun fr C' L m hG Q _ a E w z=>U1 64 hG (h0.trans Q) a w ⟨E.size,E.defers,fun s g v J=>by
  have hm:=Q4.1 m _ (Fr.get_mem J);simp only [S6] at hm;subst hm;exact ⟨fun _=>(E.ent s [] v J).1 (fun p m=>by cases m),fun S=>absurd (fun p m=>by cases m) S⟩⟩ (un _ _ z)
 have ab:∀ (R:Rg F.n (l.map (·.dst)))(T:List Nat),R.ops=l.toArray->R.kd=kd->T.all (fun i=>Nat.blt i l.length)=true->∀ x∈gR l H T,R.kd x.1=x.2.1/\R.ops[x.1]?=some x.2.2:=fun R T ho hk ar x U=>by
  obtain ⟨h1,h2,h3⟩:=gQ U;refine ⟨by rw [hk];exact h2.symm, ?_⟩;have ac:=Q4.1 ar x.1 h1;rw [TN] at ac;rw [ho,RS,fI ac,h3]
 rw [TN] at aa;have au:l.toArray[y]?=some (kz l y):=by rw [RS,fI aa]
 have hD:=h R1 (Mem.le.refl _) (fun {lp vs M Lo N O o C1 L1} hY av J g aw hf ax hL ay az Q _ A K=>by
  show yo r n y F.cx.P l.toArray b.cls kle (kd y) y (DY r n y F.cx.P l.toArray b.cls kle kd Post j) A (C1,L1);unfold yo;rw [aJ rfl];intro w1 aA;unfold wpOpIn;rw [au];simp only;have ad:Region.wanted (kz l y) (yielded l.toArray A.tmps)=true:=oG (fun tmps=>eA l tmps) K J;rw [aJ ad];refine ⟨fun _ _=>trivial, ?_⟩;have ae:=St.perm aA hL;have af:=ae.sep.front;obtain ⟨fn,tmps,assign,body,hy,hR⟩:=hY w1 (af.lessC av);have ag:∀ x u,ev o g x=some u->A.eval x=u:=fun x u U=>bA K ((gx (fun tmps=>eA l tmps) K aw).1 ad) U;show Oper.uponIn (Fo r) n F.cx.P (kz l y) A _ _ (((kz l y).semAt r A.eval).run F.cx.P w1);rw [Oper.semAt_eq r A.eval (kz l y) (fun c I=>by rw [Y] at I;cases I),Ft Y (ag _ _ hf) (dM ag ax) hy];rw [Oper.uponIn_round];refine ⟨(fun h=>(by cases h)),(yy hR).mono fun e W' ⟨bb,B,he,aB,hs⟩=>?_⟩;subst he;refine ⟨(C1,B++Lo),St.call ae (St.up af hs), ?_⟩;have ah:=az bb B aB q (Mem.le.refl _) aq Q (ab q j rfl rfl am) _ (K.put (ay (.bool bb)) ⟨fun _=>rfl,fun S=>absurd (fun p m=>by cases m) S⟩);rw [dZ] at ah;have:=vn (r:=r) (n:=n) (y:=y) (ρ:=[]) (Post:=Post) (fun _ _ h=>h) j _ _ ao ah;rw [Q7] at this;rw [hd];exact this) (Mem.le.refl _) (ab R1 t Z Z al) a (E.enter _ m)
 rw [dZ] at hD;have ai:=vn (r:=r) (n:=n) (y:=y) (ρ:=y::j) (Post:=Post) (fun _ _ h=>h) t _ _ an hD;rw [hB] at ai;exact aj (nJ ak (cls:=b.cls) (le:=kle) kle.refl (St.rebase z) ai (fun a κ w hP z=>hP w z))
end
end Go.Jog
namespace Go.Jog
open Go
section
variable {cx:Cx} {fn:Func} {n:Nat} {fr:Fr} {C C':Mem} {L L1 LA:List Ent} {W1:World} {post:Value->Mem->List Ent->Prop} {W:Cw cx.P}
theorem Xh {A:Fr->List Ent->Prop}(b:Fr)(d:Has fr b)(f:A b LA) :
  G ⟨cx,fn,n,⟨W1,C,L⟩,post,W,[],fun e a w'=>e=.normal/\∃ c LA,A c LA/\FrOk n [] [] c a/\St W1 C L C LA w'⟩ [] .normal fr C' LA:=fun g _ _ h i =>
 ⟨rfl,b,LA,f,h.weaken d.sub,St.less i (Mem.le.refl _) g⟩
theorem Xs {I:List Ent->Prop}{X:Code->List Ent->Prop}{e:Exit}{c:Code}(a:Ip e=some c)(b:X c L1) :
  G ⟨cx,fn,n,⟨W1,C,L⟩,post,W,[],fun e _ w'=>(e=.normal/\∃ L1,I L1/\St W1 C L C L1 w')∨(∃ c L1,Ip e=some c/\X c L1/\St W1 C L C L1 w')⟩ [] e fr C' L1:=fun d _ _ _ f =>
 .inr ⟨c,L1,a,b,St.less f (Mem.le.refl _) d⟩
end
end Go.Jog
namespace Go.Jog
open Go
section
variable {cx:Cx} {fn:Func} {n:Nat} {fr:Fr} {C C':Mem} {L L1 LA:List Ent} {W1:World} {post:Value->Mem->List Ent->Prop} {W:Cw cx.P}
theorem Wr {Ds:List Nat}{b:Bs}{e:Exit}(k:e=.ret∨e=.normal){v:Value}
  (f:∀ a w,FrOk n [] (Ds.map zx) fr a->St b.w0 b.C0 b.L0 C L w->(results fn a.tmps).run cx.P w=.ok v w) (h:post v C []) :
  G ⟨cx,fn,n,b,post,Cw.plain cx.P,Ds.map zx,bodyPostM Fence.wide 3 cx.P fn (nO b post)⟩ [] e fr C (Ds.map rH++L):=fun p a w g c=>by
 have l:LeavesInM Fence.wide 3 cx.P fn a.tmps (nO b post) a.defers .returning w:=by
  have i:=g;rw [g.defers];have m:∀ (d:List Nat)(w:World),St b.w0 b.C0 b.L0 C (d.map rH++L) w->LeavesInM Fence.wide 3 cx.P fn a.tmps (nO b post) (d.map zx) .returning w:=by
   intro d;induction d with
   | nil=>exact fun w c=>⟨v,f a _ i c,v,C,[],rfl,St.dropAll c,h⟩
   | cons D d o =>
    intro w c;have j:w.heap[D]?=some (.deferred (some [])):=c.sep.e _ (PN ..);have hs:=(St.putObj (o':=.deferred none) c).drop;cases d with
    | nil=>exact ⟨by simp,.inl ⟨D,_,rfl,run_takeDeferred j,v,f a _ i hs,v,C,[],rfl,St.dropAll hs,h⟩⟩
    | cons E d=>exact ⟨by simp,.inl ⟨D,_,rfl,run_takeDeferred j,o _ hs⟩⟩
  exact m Ds w c
 rcases k with rfl | rfl <;> exact l
end
end Go.Jog
namespace Go.Jog
open Go
theorem FD {c:Cx}{d:Func}{n s t b u D E p G H:Nat}{g:Fr}{C:Mem}{L:List Ent}{h:List Deferred}{i:World}{j:Mem}{k:List Ent}{M N O:TypeId}{Q R S:Nat × Nat}{I J K:List Value}{l m o:TI}{y z x:Value}(U:Ent.obj b (.cells ⟨I⟩ M Q)∈L)(V:Ent.obj E (.cells ⟨J⟩ N R)∈L)(W:Ent.obj H (.cells ⟨K⟩ O S)∈L)(X:d.results=#[.cell s t,.cell u D,.cell p G])
  (Y:ev g [] (.tmp s)=some (.pointer (some ⟨b,0,none⟩))) (Z:ev g [] (.tmp u)=some (.pointer (some ⟨E,0,none⟩))) (aa:ev g [] (.tmp p)=some (.pointer (some ⟨H,0,none⟩))) (ht:c.T.get t=some l) (hv:bY l (I.take l.size)=some y) (ab:c.T.get D=some m) (ac:bY m (J.take m.size)=some z) (ad:c.T.get G=some o) (ae:bY o (K.take o.size)=some x) :
  ∀ a w,FrOk n [] h g a->St i j k C L w->(results d a.tmps).run c.P w=.ok (.tuple #[y,z,x]) w:=fun a w q r=>by
 have v:=bA q (fun p f=>by cases f) Y;have A:=bA q (fun p f=>by cases f) Z;have B:=bA q (fun p f=>by cases f) aa;simp only [Act.eval] at v A B;have hl:=eg (F:=⟨c,d,n,⟨i,j,k⟩,fun _ _ _=>True,Cw.plain c.P,h,fun _ _ _=>True⟩) ht (r.sep.e _ U) hv;have af:=eg (F:=⟨c,d,n,⟨i,j,k⟩,fun _ _ _=>True,Cw.plain c.P,h,fun _ _ _=>True⟩) ab (r.sep.e _ V) ac;have ag:=eg (F:=⟨c,d,n,⟨i,j,k⟩,fun _ _ _=>True,Cw.plain c.P,h,fun _ _ _=>True⟩) ad (r.sep.e _ W) ae;simp only [RE] at v A B;simp [results,X,v,A,B,asAddr,hl,af,ag]
end Go.Jog
namespace Go.Jog
theorem zu {l:List Nat}{x:Nat}:bR (l++[x])=if (bR l).getLast?=some x then bR l else bR l++[x]:=by
 cases h:l.getLast? with
 | none =>
  rw [List.getLast?_eq_none_iff] at h;subst h;rfl
 | some z =>
  have b:l≠[]:=fun e=>by subst e;cases h
  have f:0<l.length:=Ru.2 b;have c:l[l.length-1]?=some z:=by rw [<- SE];exact h
  have d:(bR l).getLast?=some z:=by
   cases l with
   | nil=>cases h
   | cons y l =>
    have:∀ (l:List Nat)(y:Nat),(y::kC y l).getLast?=(y::l).getLast?:=by
     intro l;induction l with
     | nil=>intro y;rfl
     | cons w l a =>
      intro y;simp only [kC];by_cases e:w=y
      ·subst e;rw [aJ rfl,a w];rfl
      rw [aB e,List.getLast?_cons_cons,a w,List.getLast?_cons_cons]
    rw [<- h];exact this l y
  rw [jE c om_,d];simp only [Rc]
end Go.Jog
namespace Go.Jog
theorem Ke {b j:Nat}:(List.range (j+1)).filter (fun i=>b.testBit i)=(List.range j).filter (fun i=>b.testBit i)++(if b.testBit j then [j] else []):=by
 rw [RK,Sh];congr 1;simp only [List.filter_cons,List.filter_nil]
theorem H4 (b j:Nat):((b / 2 ^ j &&& 1:Nat) == 1)=b.testBit j:=by
 rw [Nat.and_one_is_mod,Nat.testBit_eq_decide_div_mod_eq];by_cases h:b / 2 ^ j % 2=1
 ·rw [h];rfl
 rw [RI.2 h,Q8 h]
end Go.Jog
namespace Go.Jog
open Go
section
variable {cx:Cx} {n:Nat} {ds:List (Option Nat)} {R:Rg n ds} {its:List It} {fr:Fr} {C:Mem} {L:List Ent} {i k d:Nat} {o:Oper} {g:GL}
theorem BB {a:Nat}(b:a<256):(BitVec.ofInt 8 (a:Int)).toNat=a:=by
 rw [BitVec.ofInt_natCast,BitVec.toNat_ofNat];exact S7 om_
theorem Iq {a:Nat}(b:a<256):IntKind.u8.wrap (a:Int)=a:=by
 rw [IntKind.wrap_u8];omega
theorem WP (a b:Nat){t c:Nat}{x y:Operand}{p q:Int}(f:Nat.ble k 1=true)(j:o.dst=some d)(l:o.op=.binOp .and t x y c)(m:gOf ds fr o.guard=some g)(r:ev fr g x=some (.int .u8 p))(s:ev fr g y=some (.int .u8 q))
  (u:p=a) (v:q=b) (z:a<256) (F:b<256) (B:aQ n ds ((d,g,.int .u8 ((a &&& b:Nat):Int))::fr) d=true) (E:wfG ds fr g=true)
  (h:D cx R its ((d,g,.int .u8 ((a &&& b:Nat):Int))::fr) C L):D cx R ((i,k,o)::its) fr C L :=
 D.run _ f j m (fun _ A hs w=>by
  subst u v;rw [bT l (hs _ _ r) (hs _ _ s) (fun _ _=>.inl am) (.inl am) w];have e:IntKind.u8.wrap ((BitVec.ofInt 8 (a:Int) &&& BitVec.ofInt 8 (b:Int)).toNat:Int)=((a &&& b:Nat):Int):=by
   rw [BitVec.toNat_and,BB om_,BB om_];exact Iq (RC Nat.and_le_left z)
  simp [binOp,Op.intBits,IntKind.bits];exact e) B E h
theorem WM (a m:Nat){b:IntKind}{t c:Nat}{x y:Operand}{p q:Int}(f:Nat.ble k 1=true)(j:o.dst=some d)(l:o.op=.binOp .shr t x y c)(r:gOf ds fr o.guard=some g)(s:ev fr g x=some (.int .u8 p))(u:ev fr g y=some (.int b q))
  (v:p=a) (z:q=m) (H:m<=7) (B:aQ n ds ((d,g,.int .u8 ((a / 2 ^ m:Nat):Int))::fr) d=true) (E:wfG ds fr g=true)
  (h:D cx R its ((d,g,.int .u8 ((a / 2 ^ m:Nat):Int))::fr) C L):D cx R ((i,k,o)::its) fr C L :=
 D.run _ f j r (fun _ A hs w=>by
  subst v z;rw [bT l (hs _ _ s) (hs _ _ u) (fun _ _=>.inl am) (.inl am) w];have h0:¬ ((m:Int)<0):=by omega
  have F:Min.min m 8=m:=by omega
  have e:(a:Int).fdiv (2 ^ m)=((a / 2 ^ m:Nat):Int):=by
   have G:(2:Int) ^ m=((2 ^ m:Nat):Int):=by norm_cast
   rw [G,Int.fdiv_eq_ediv_of_nonneg _ (TL _)];exact (TY _ _).symm
  simp only [binOp,Op.shift,h0,RU,Sv,IntKind.bits,F,Sem.run_pure,Result.andThen_ok];rw [e]) B E h
end
end Go.Jog
namespace Go.Proofs.YthnpijdjlddpmaaGreatDoor
open Go.Proofs.Tryz
open Go Go.Jog
variable {C:Mem}{i k:Nat}{l:List Nat}{m n:Nat}{u v:Value}
def tab:Tab:=[(2,⟨.int .i64,1,8,[.int .i64],false⟩),
 (3,⟨.int .i64,1,8,[.int .i64],false⟩),
 (4,⟨.bool,1,1,[.bool],false⟩),
 (5,⟨.int .u8,1,1,[.int .u8],false⟩),
 (9,⟨.str,1,16,[.str],false⟩),
 (12,⟨.int .u64,1,8,[.int .u64],false⟩),
 (21,⟨.int .i32,1,4,[.int .i32],false⟩),
 (22,⟨.int .i8,1,1,[.int .i8],false⟩),
 (23,⟨.arr 2 22,2,2,[.int .i8,.int .i8],true⟩),
 (25,⟨.struct [(5,0),(23,1),(4,3)],4,4,[.int .u8,.int .i8,.int .i8,.bool],true⟩),
 (26,⟨.arr 6 22,6,6,[.int .i8,.int .i8,.int .i8,.int .i8,.int .i8,.int .i8],true⟩),
 (28,⟨.struct [(26,0),(4,6)],7,7,[.int .i8,.int .i8,.int .i8,.int .i8,.int .i8,.int .i8,.bool],true⟩),
 (29,⟨.slice 140,1,24,[.slice],false⟩),
 (31,⟨.struct [(25,0),(28,4),(29,11)],12,40,[.int .u8,.int .i8,.int .i8,.bool,.int .i8,.int .i8,.int .i8,.int .i8,.int .i8,.int .i8,.bool,.slice],true⟩),
 (33,⟨.slice 58,1,24,[.slice],false⟩),
 (34,⟨.slice 108,1,24,[.slice],false⟩),
 (36,⟨.struct [(33,0),(34,1)],2,48,[.slice,.slice],true⟩),
 (37,⟨.slice 56,1,24,[.slice],false⟩),
 (38,⟨.slice 56,1,24,[.slice],false⟩),
 (39,⟨.slice 111,1,24,[.slice],false⟩),
 (40,⟨.slice 62,1,24,[.slice],false⟩),
 (42,⟨.struct [(36,0),(38,2),(39,3),(40,4)],5,120,[.slice,.slice,.slice,.slice,.slice],true⟩),
 (45,⟨.slice 50,1,24,[.slice],false⟩),
 (46,⟨.int .i64,1,8,[.int .i64],false⟩),
 (50,⟨.slice 3,1,24,[.slice],false⟩),
 (56,⟨.str,1,16,[.str],false⟩),
 (58,⟨.struct [(56,0),(56,1)],2,32,[.str,.str],true⟩),
 (60,⟨.struct [(56,0),(56,1),(56,2)],3,48,[.str,.str,.str],true⟩),
 (62,⟨.struct [(3,0),(9,1),(58,2),(56,4),(9,5),(9,6),(60,7)],10,152,[.int .i64,.str,.str,.str,.str,.str,.str,.str,.str,.str],true⟩),
 (63,⟨.slice 5,1,24,[.slice],false⟩),
 (75,⟨.struct [(37,0)],1,24,[.slice],true⟩),
 (78,⟨.slice 123,1,24,[.slice],false⟩),
 (80,⟨.struct [(3,0),(78,1),(37,2)],3,56,[.int .i64,.slice,.slice],true⟩),
 (89,⟨.struct [(5,0),(5,1),(56,2)],3,24,[.int .u8,.int .u8,.str],true⟩),
 (96,⟨.ptr 153,1,8,[.ptr],false⟩),
 (99,⟨.int .u64,1,8,[.int .u64],false⟩),
 (100,⟨.slice 99,1,24,[.slice],false⟩),
 (107,⟨.arr 3 3,3,24,[.int .i64,.int .i64,.int .i64],true⟩),
 (108,⟨.arr 3 3,3,24,[.int .i64,.int .i64,.int .i64],true⟩),
 (111,⟨.struct [(9,0),(56,1),(56,2)],3,48,[.str,.str,.str],true⟩),
 (119,⟨.slice 125,1,24,[.slice],false⟩),
 (123,⟨.struct [(37,0),(56,1)],2,40,[.slice,.str],true⟩),
 (125,⟨.struct [(3,0),(123,1)],3,48,[.int .i64,.slice,.str],true⟩),
 (127,⟨.func,1,8,[.func],false⟩),
 (137,⟨.arr 2 5,2,2,[.int .u8,.int .u8],true⟩),
 (138,⟨.arr 3 22,3,3,[.int .i8,.int .i8,.int .i8],true⟩),
 (140,⟨.struct [(5,0),(23,1),(137,3),(5,5),(138,6)],9,9,[.int .u8,.int .i8,.int .i8,.int .u8,.int .u8,.int .u8,.int .i8,.int .i8,.int .i8],true⟩),
 (142,⟨.struct [(3,0),(3,1)],2,16,[.int .i64,.int .i64],true⟩),
 (149,⟨.map 9 4,1,8,[.map],false⟩),
 (151,⟨.map 99 4,1,8,[.map],false⟩),
 (153,⟨.struct [(42,0),(151,5)],6,128,[.slice,.slice,.slice,.slice,.slice,.map],true⟩),
 (158,⟨.int .u32,1,4,[.int .u32],false⟩),
 (160,⟨.int .u64,1,8,[.int .u64],false⟩),
 (164,⟨.struct [(3,0),(56,1),(37,2),(75,3),(37,4)],5,96,[.int .i64,.str,.slice,.slice,.slice],true⟩),
 (167,⟨.str,1,16,[.str],false⟩),
 (177,⟨.func,1,8,[.func],false⟩),
 (179,⟨.slice 183,1,24,[.slice],false⟩),
 (183,⟨.arr 2 3,2,16,[.int .i64,.int .i64],true⟩),
 (186,⟨.arr 3 9,3,48,[.str,.str,.str],true⟩),
 (189,⟨.map 58 4,1,8,[.map],false⟩),
 (202,⟨.ptr 212,1,8,[.ptr],false⟩),
 (209,⟨.struct [(56,0),(37,1)],2,40,[.str,.slice],true⟩),
 (210,⟨.slice 209,1,24,[.slice],false⟩),
 (212,⟨.struct [(3,0),(50,1),(210,2),(50,3),(209,4)],6,120,[.int .i64,.slice,.slice,.slice,.str,.slice],true⟩),
 (242,⟨.map 183 3,1,8,[.map],false⟩),
 (245,⟨.map 3 4,1,8,[.map],false⟩),
 (249,⟨.arr 3 58,6,96,[.str,.str,.str,.str,.str,.str],true⟩),
 (253,⟨.slice 38,1,24,[.slice],false⟩),
 (255,⟨.func,1,8,[.func],false⟩),
 (263,⟨.func,1,8,[.func],false⟩),
 (264,⟨.arr 32 5,32,32,[.int .u8,.int .u8,.int .u8,.int .u8,.int .u8,.int .u8,.int .u8,.int .u8,.int .u8,.int .u8,.int .u8,.int .u8,.int .u8,.int .u8,.int .u8,.int .u8,.int .u8,.int .u8,.int .u8,.int .u8,.int .u8,.int .u8,.int .u8,.int .u8,.int .u8,.int .u8,.int .u8,.int .u8,.int .u8,.int .u8,.int .u8,.int .u8],true⟩),
 (272,⟨.func,1,8,[.func],false⟩),
 (273,⟨.slice 37,1,24,[.slice],false⟩),
 (278,⟨.map 3 56,1,8,[.map],false⟩),
 (284,⟨.func,1,8,[.func],false⟩),
 (295,⟨.ptr 3,1,8,[.ptr],false⟩),
 (305,⟨.slice 160,1,24,[.slice],false⟩),
 (307,⟨.struct [(4,0),(305,1)],2,32,[.bool,.slice],true⟩),
 (315,⟨.func,1,8,[.func],false⟩),
 (317,⟨.map 3 3,1,8,[.map],false⟩),
 (318,⟨.func,1,8,[.func],false⟩),
 (327,⟨.arr 3 56,3,48,[.str,.str,.str],true⟩),
 (328,⟨.arr 3 56,3,48,[.str,.str,.str],true⟩),
 (346,⟨.iface,1,16,[.iface],false⟩),
 (352,⟨.ptr 354,1,8,[.ptr],false⟩),
 (354,⟨.struct [(352,0),(63,1)],2,32,[.ptr,.slice],true⟩),
 (357,⟨.func,1,8,[.func],false⟩),
 (371,⟨.ptr 209,1,8,[.ptr],false⟩),
 (372,⟨.arr 24 5,24,24,[.int .u8,.int .u8,.int .u8,.int .u8,.int .u8,.int .u8,.int .u8,.int .u8,.int .u8,.int .u8,.int .u8,.int .u8,.int .u8,.int .u8,.int .u8,.int .u8,.int .u8,.int .u8,.int .u8,.int .u8,.int .u8,.int .u8,.int .u8,.int .u8],true⟩),
 (383,⟨.ptr 5,1,8,[.ptr],false⟩),
 (386,⟨.arr 20 160,20,160,[.int .u64,.int .u64,.int .u64,.int .u64,.int .u64,.int .u64,.int .u64,.int .u64,.int .u64,.int .u64,.int .u64,.int .u64,.int .u64,.int .u64,.int .u64,.int .u64,.int .u64,.int .u64,.int .u64,.int .u64],true⟩),
 (390,⟨.struct [(58,0),(56,2)],3,48,[.str,.str,.str],true⟩),
 (391,⟨.arr 3 390,9,144,[.str,.str,.str,.str,.str,.str,.str,.str,.str],true⟩),
 (393,⟨.func,1,8,[.func],false⟩),
 (395,⟨.int .i64,1,8,[.int .i64],false⟩),
 (398,⟨.ptr 408,1,8,[.ptr],false⟩),
 (408,⟨.struct [(9,0),(9,1),(346,2)],3,48,[.str,.str,.iface],true⟩),
 (410,⟨.ptr 412,1,8,[.ptr],false⟩),
 (412,⟨.struct [(9,0)],1,16,[.str],true⟩),
 (415,⟨.arr 0 16,0,0,[],true⟩)]
noncomputable def cx:Cx:={ P:=Tryz.prog,T:=tab,mixed:=by kernel_rfl,hT:=by kernel_rfl }
abbrev Str:=List UInt8
/-! ### The model -/
structure Rel where
 kind:Int
 upper:Str
 lower:Str
 deriving DecidableEq,Inhabited
def pW (b:UInt8):Bool:=(decide (97<=(b.toNat:Int)) && decide ((b.toNat:Int)<=122)) || (decide (65<=(b.toNat:Int)) && decide ((b.toNat:Int)<=90))
def xt (b:UInt8):Bool:=(decide (48<=(b.toNat:Int)) && decide ((b.toNat:Int)<=57)) || ((b.toNat:Int) == 95)
def jU (k:Nat)(b:UInt8):Bool:=pW b || (!(k == 0) && xt b)
def io:Nat->Str->Bool
 | _,[]=>true
 | k,b::s=>jU k b && io (k+1) s
def cV (s:Str):Bool:=!(s == []) && decide (s.length<=32) && io 0 s
theorem pM:∀ {s:Str}{k i:Nat}{b:UInt8},s[i]?=some b->jU (k+i) b=false->io k s=false
 | [],k,i,b,h,_=>by simp at h
 | c::s,k,0,b,h,a=>by
  simp at h;subst h;simp only [SG] at a;simp [io,a]
 | c::s,k,i+1,b,h,a=>by
  have:=pM (k:=k+1) (by simpa using h) (by rw [show k+1+i=k+(i+1) by omega];exact a);simp [io,this]
theorem nD:∀ {s:Str}{k:Nat},(∀ i b,s[i]?=some b->jU (k+i) b=true)->io k s=true
 | [],k,_=>rfl
 | c::s,k,h=>by
  have h0:=h 0 c am;simp only [SG] at h0;have h1:=nD (s:=s) (k:=k+1) (fun i b a=>by
   have:=h (i+1) b (by simpa using a)
   rwa [show k+(i+1)=k+1+i by omega] at this)
  simp [io,h0,h1]
/-! ### IsName -/
set_option maxRecDepth 100000 in
theorem iu (C:Mem)(s:Str)(B:s.length<1000000):Gives cx.P 105 [ai s] C (.bool (cV s)):=by
 refine Uv func105 57 U3 fun w0=>?_;refine Ul 1 [0,2] Z ?_;refine Um 6 Z fun R a=>?_;refine US U8 ?_;refine Ur [0,13] a Z ?_;refine G.cond Z (fun h=>?_) (fun h=>?_)
 ·refine Ul 1 [2] Z ?_;refine Ut U2 ?_;refine ⟨?_,Z⟩;congr 1;simp only [Sr,Sn,QQ] at h;unfold cV;rcases h with h | h
  ·have:s=[]:=h;simp [this]
  have h2:¬ s.length<=32:=by omega
  simp [h2]
 simp only [Sq,RI,Q1] at h;have q:s≠[]:=h.1;have r:s.length<=32:=by have:=h.2;omega
 refine Um 1 Z fun R a=>?_;refine Wz Z Z Z Z Z Z Z Z Z Z (by simp only [maxLen];omega) fl_ (fun D _ _ g=>?_);have t:=g;obtain ⟨A,c,rfl,_⟩:=t;refine C4 2 [15,16,17] a Z ?_;refine G.loop (fun fr C' j m=>∃ k:Nat,k<=s.length/\(∀ i b,i<k->s[i]?=some b->jU (0+i) b=true)/\fr=[(15,[],.slice A (s.map fun b=>[Value.int .u8 b.toNat]).length c),(16,[],.int .i64 (s.map fun b=>[Value.int .u8 b.toNat]).length),(17,[],.int .i64 k)]/\j=[]/\m=s.length-k) (m:=s.length) (hn_ [15,16,17] Z) ⟨0,QK _,fun i b u=>by omega,Z,Z,Z⟩ (fun fr C' j m l v=>?_);obtain ⟨k,E,n,rfl,rfl,rfl⟩:=v;refine Ul 1 [15,16,17,18] Z ?_;refine G.cond Z (fun h=>?_) (fun h=>?_)
 ·simp only [aw,QQ] at h;have w:k<s.length:=by omega
  obtain ⟨b,d⟩:∃ b,s[k]?=some b:=⟨s[k],aj w⟩;have x:=g.mono l;refine Um 1 Z fun R a=>?_;refine UD x U10 om_ (row:=[.int .u8 b.toNat]) (by simp [d]) fl_ (fun F y=>?_);refine Un y U8 ?_;refine C4 2 [3,4,15,16,17] a Z ?_;refine Um 5 Z fun R a=>?_;refine UM U8 ?_;refine Us 6 Z ?_;refine UM U8 ?_;refine US U8 ?_;refine Up U6 ?_;refine VH [E_ 3 _,E_ 4 _,(5,[],.bool (pW b)),E_ 15 _,E_ 16 _,E_ 17 _] a ?_;refine Um 5 Z fun R a=>?_;refine UM U8 ?_;refine Us 3 Z ?_;refine US U8 ?_;refine Up U6 ?_;refine VH [E_ 3 _,E_ 5 _,(6,[],.bool (xt b)),E_ 15 _,E_ 16 _,E_ 17 _] a ?_;refine Um 8 Z fun R a=>?_;refine US U8 ?_;refine UM U8 ?_;refine VH [E_ 15 _,E_ 16 _,E_ 17 _,(55,[],.bool (!(pW b) && (((k:Int) == 0) || !(xt b))))] a ?_;have o:(!(pW b) && (((k:Int) == 0) || !(xt b)))=!(jU (0+k) b):=by
   have e:((k:Int) == 0)=(0+k == 0):=by
    rw [RR];by_cases p:k=0
    ·subst p;rfl
    have:¬ (k:Int)=0:=by omega
    rw [RI.2 this,RI.2 p]
   unfold jU;rw [e];cases pW b <;> cases xt b <;> cases (0+k == 0) <;> rfl
  refine G.cond Z (fun h=>?_) (fun h=>?_)
  ·rw [o] at h;refine Ul 1 [2] Z ?_;refine Ut U2 ?_;refine ⟨?_,Z⟩;have:=pM (k:=0) d (by simpa using h);simp [cV,this]
  rw [o] at h;refine Uq fun R a=>?_;refine UX ((k+1:Nat):Int) U4 om_ om_ om_ U2 ?_;refine C4 1 [15,16,17] a Z ?_;refine UA (m':=s.length-(k+1)) om_ l (hn_ [15,16,17] Z) ⟨k+1,by omega, ?_,Z,Z,Z⟩;intro i z u f;rcases Rh i k with h1 | h1
  ·exact n i z h1 f
  have:i=k:=by omega
  subst this;rw [d] at f;cases f
  simpa using h
 simp only [aw,Q1] at h;refine Ul 1 [2] Z ?_;refine Ut U2 ?_;refine ⟨?_,Z⟩;have:=nD (s:=s) (k:=0) (fun i b d=>n i b (by have:=(aE.1 d).1;omega) d);simp [cV,this,q,r]
set_option maxRecDepth 100000
structure ArcE where
 lower:Str
 upper:Str
 deriving DecidableEq,Inhabited
theorem Pr (a b:Str):(a == b)=decide (a=b):=by by_cases h:a=b <;> simp [h]
set_option maxRecDepth 100000
def LX (a b:Int):Int:=if a<b then -1 else if a=b then 0 else 1
/-! ### Comparisons -/
structure TotC {α:Type}(f:α->α->Int):Prop where
 eq:∀ x y,f x y=0 ↔ x=y
 sym:∀ x y,f x y<0 ↔ 0<f y x
 trans:∀ x y z,f x y<0->f y z<0->f x z<0
section
variable {α:Type} {f:α->α->Int}
variable [DecidableEq α]
def ins (f:α->α->Int)(x:α):List α->List α
 | []=>[x]
 | y::l=>if f y x<0 then y::ins f x l else if y=x then y::l else x::y::l
end
def mf (x:Int):List Value:=[.int .i64 x]
def aL (i:Nat):List Value:=[.int .i64 i]
abbrev PW (b:Nat):Value:=.pointer (some ⟨b,0,none⟩)
abbrev N2 (b:Nat)(q:Option Addr)(v:Value):Ent:=.obj b (.cells ⟨[.pointer q,v]⟩ 354 (0,0))
abbrev u8s (s:Str):List Value:=s.map fun c=>Value.int .u8 c.toNat
abbrev N3 (v:Value)(s:Str):Ent:=.arr v 5 1 s.length (u8s s)
theorem ta (C:Mem)(b:Nat)(q:Option Addr)(v:Value)(g:q=none∨q=some ⟨b,0,none⟩):Jog.Fn cx.P 284 [PW b] C [N2 b q v] fun _ _ d=>d=[N2 b (some ⟨b,0,none⟩) v]:=by
 refine Uv func284 20 U3 fun w0=>UE (L':=[.obj b (.cells ⟨[.pointer q,v]⟩ 354 (0,0))]) Z<|Um 3 Z fun R a=>Uu af U9<|WH (e:=354) Z Z Z Z Z kr_ kr_ Z Z<|Ur [0,6] a Z<|Uo (fun c=>?_) fun c=>?_
 ·have h:q=none:=by simpa using c
  subst h;refine Um 2 Z fun R a=>Wy (t:=354) Z Z Z Z Z af kr_ kr_ kr_ am fl_<|WB (fn:=Tryz.f311) Z Z Z Z Z func311 kr_ kr_ kr_ kr_ fl_<|WQ (t:=354) Z Z Z Z Z af kr_ kr_ kr_ kr_ fl_<|Us 2 Z<|Ux (j:=0) U12<|Vv [] trivial (a _ _ _ Z ?_);refine Vx Z ?_;rfl
 have i:q=some ⟨b,0,none⟩:=by
  rcases g with rfl | rfl
  ·simp at c
  rfl
 subst i;refine Um 3 Z fun R a=>Uu af U9<|Up U6<|WV (e:=354) Z Z Z Z Z Z kr_ kr_ Z Z<|Ur [19] a Z<|Uo (fun f=>?_) fun f=>?_
 ·cases f
 refine Vx Z ?_;rfl
theorem vB (C:Mem)(b:Nat)(q:Option Addr)(v:Value)(s:Str)(c:UInt8)(i:q=none∨q=some ⟨b,0,none⟩)(m:s.length<=1000000000):Jog.Fn cx.P 253 [PW b,.int .u8 c.toNat] C [N2 b q v,N3 v s] fun _ _ a=>∃ h,a=[N2 b (some ⟨b,0,none⟩) h,N3 h (s++[c])]:=by
 refine Uv func253 17 U3 fun w0=>UE (L':=[.obj b (.cells ⟨[.pointer q,v]⟩ 354 (0,0)),.arr v 5 1 s.length (u8s s)]) Z<|Ul 1 [0,1] Z<|UN [(1,3)] Z fun R d=>Up U6<|D.call (ta _ b q v i) Z (.inr dc_) U6 (QL _) fl_ fun n _ o _ k=>Ur [0,1] d Z ?_;subst k;refine UE (L':=[.obj b (.cells ⟨[.pointer (some ⟨b,0,none⟩),v]⟩ 354 (0,0)),.arr v 5 1 s.length (u8s s)]) Z<|Um 4 Z fun R d=>Uu af U9<|Up U6<|UI [[.int .u8 c.toNat]] U12 fun p _ _ l=>UP (j:=1) U11 l Z ax (by simp only [aK];omega) fl_ fun e f g=>Us 2 Z<|Ux (j:=1) U12<|Vv [] trivial (d _ _ _ Z ?_);refine Ul 1 [4] Z<|G.perm (L':=[.obj b (.cells ⟨[.pointer (some ⟨b,0,none⟩),.slice e f g]⟩ 354 (0,0)),.arr (.slice e f g) 5 1 (s.length+1) (u8s s++[Value.int .u8 c.toNat])]) (QL _)<|Uz (UZ Z Z ?_);exact ⟨.slice e f g,by simp [N3,u8s]⟩
theorem kE (C:Mem)(b:Nat)(q:Option Addr)(v:Value)(s t:Str)(e:q=none∨q=some ⟨b,0,none⟩)(g:s.length+t.length<=1000000000):Jog.Fn cx.P 256 [PW b,ai t] C [N2 b q v,N3 v s] fun _ _ a=>∃ d,a=[N2 b (some ⟨b,0,none⟩) d,N3 d (s++t)]:=by
 refine Uv func256 19 U3 fun w0=>UE (L':=[.obj b (.cells ⟨[.pointer q,v]⟩ 354 (0,0)),.arr v 5 1 s.length (u8s s)]) Z<|Ul 2 [0,1] Z<|UN [(1,3)] Z fun R c=>Up U6<|D.call (ta _ b q v e) Z (.inr dc_) U6 (QL _) fl_ fun h _ i _ f=>Ur [0,1] c Z ?_;subst f;refine UE (L':=[.obj b (.cells ⟨[.pointer (some ⟨b,0,none⟩),v]⟩ 354 (0,0)),.arr v 5 1 s.length (u8s s)]) Z<|Um 4 Z fun R c=>Uu af U9<|Up U6<|WY (j:=1) Z Z Z Z Z Z Z Z Z Z Z Z Z Z Z om_ fl_ fun A2 n2 c2=>Us 2 Z<|Ux (j:=1) U12<|Ur [1] c Z<|Ul 4 [4,5] Z<|G.perm (L':=[.obj b (.cells ⟨[.pointer (some ⟨b,0,none⟩),.slice A2 n2 c2]⟩ 354 (0,0)),.arr (.slice A2 n2 c2) 5 1 (s.length+t.length) (u8s s++t.map fun b=>Value.int .u8 b.toNat)]) (QL _)<|Uz (UO U3 ?_);exact ⟨.slice A2 n2 c2,by simp [N3,u8s]⟩
theorem Ed (C:Mem)(b:Nat)(q:Option Addr)(v:Value)(s:Str)(a:s≠[])(g:s.length<=1000000000):Jog.Fn cx.P 257 [PW b] C [N2 b q v,N3 v s] fun u _ c=>u=ai s/\c=[]:=by
 refine Uv func257 14 U3 fun w0=>UE (L':=[.obj b (.cells ⟨[.pointer q,v]⟩ 354 (0,0)),.arr v 5 1 s.length (u8s s)]) Z<|G.form ae (fun d h=>?_);have i:=Ru.2 a;rcases d with ⟨h1,h2⟩ | ⟨g0,c0,rfl,k,l⟩
 ·omega
 exact Ul 1 [0] Z<|UJ [0,1,2,3,4,5,6,7,8,9,10,11] [(4,0)] Z kr_ fun R m f=>Us 3 Z<|Uu af U9<|WT Z Z Z Z Z om_ Z Z<|Us 3 Z<|Uu af U9<|Up U6<|WS (j:=1) (e:=5) Z Z Z Z kr_ kr_ Z Z Z a om_ fl_<|C4 1 [2] f Z<|Ut U2<|⟨Z,Z⟩
def ck (x:Nat):List Value:=[.int .u64 x]
theorem eH (x:Nat):(ck x).length=1:=rfl
def NineC (C:Mem)(v:Value)(n:Nat):Prop:=∃ l,yg l/\bC l=n/\Sl C 1 v (l.map ck)
theorem NineC.mono {C D:Mem}{v:Value}{n:Nat}(h:NineC C v n)(a:C.le D):NineC D v n:=by
 obtain ⟨l,h1,h2,h3⟩:=h;exact ⟨l,h1,h2,h3.mono a⟩
theorem NineC.m_ {D:Mem}(h:NineC C v n)(a:C.le D:=by exact mup):NineC D v n:=NineC.mono h a
theorem AI (C:Mem)(v:Value)(l:List Nat)(d:Sl C 1 v (l.map ck)):Pur cx.P 252 [v] C fun u C'=>Sl C' 1 u ((EE l).map ck):=by
 obtain ⟨o,c0,rfl,p,_⟩:=id d;simp only [aw] at d p ⊢;refine Uv func252 21 U3 fun w0=>Ul 1 [0] Z<|G.loop (fun fr C' q r=>∃ (k:Nat)(A:Option Addr)(c:Nat),(k<=l.length/\Sl C' 1 (.slice A k c) ((l.take k).map ck)/\ni l l.length=ni l k)/\fr=[(0,[],.slice A k c)]/\q=[]/\r=k+1) (hn_ [0] Z) ⟨l.length,o,c0,⟨QG _,by rw [QV];exact d,Z⟩,Z,Z,Z⟩ (fun fr F H m _ s=>?_);obtain ⟨k,A,c,⟨I,hs,g⟩,rfl,rfl,rfl⟩:=s;obtain ⟨_,J,t,w,_⟩:=id hs;have K:maxLen<=9223372036854775807:=by simp [maxLen]
 have L:k<=c:=by
  rw [aw,QW] at w;injection t with h1 h2 h3;omega
 have x:0<k->((l.take k).map ck)[((k:Int)-1).toNat]?=some (ck (g9 l (k-1))):=fun h=>by
  rw [show ((k:Int)-1).toNat=k-1 by omega,QI,Rk,aJ om_,aj (by omega:k-1<l.length)];unfold g9;rw [al,aj (by omega:k-1<l.length)];rfl
 refine Um 7 Z fun R f=>Uw _ U7<|D.index U10 (fun i=>⟨hs,(by have h:decide ((0:Int)<(k:Int))=true:=i.1;simp at h;omega),x (by have h:decide ((0:Int)<(k:Int))=true:=i.1;simp at h;omega)⟩) fl_ Z fun M y=>UQ U6 y U3<|Up U6<|UM U8<|Ur [0,14] f Z<|Uo (fun b=>?_) fun b=>?_
 ·have a:0<k/\g9 l (k-1)=0:=by
   have:(0:Int)<(k:Int)/\((g9 l (k-1):Nat):Int)=0:=by simpa using b
   omega
  refine Um 3 Z fun R f=>UX (((k-1:Nat):Int)) U4 om_ om_ om_ U2<|Vf 0 (k-1) c U12 (fun _=>⟨.inl ⟨Z,Z⟩,.inr ⟨_,Z⟩,.inl ⟨Z,Z⟩,by omega,by omega,QG _⟩) U2<|C4 1 [0] f Z ?_;have n:=Sl.sub hs (l:=0) (h:=k-1) (m:=c) (QK _) ap om_ (QG _);have z:(((l.take k).map ck).take (k-1)).drop 0=(l.take (k-1)).map ck:=by
   rw [RQ,<- Tn,TO,R9 om_]
  rw [z] at n;have B:ni l l.length=ni l (k-1):=by
   rw [g];obtain ⟨j,rfl⟩:∃ j,k=j+1:=⟨k-1,by omega⟩;simp only [SV] at a ⊢;rw [ni,aJ];unfold g9 at a;rw [al,aj om_] at a;rw [aj om_];exact congrArg some a.2
  refine UA (m':=k-1+1) om_ mup (hn_ [0] Z) ⟨k-1,_,c,⟨by omega,n.mono mup,B⟩,Z,Z,Z⟩
 have a:¬ (0<k/\g9 l (k-1)=0):=fun E=>by
  have h1:(decide ((0:Int)<(k:Int)) && (((g9 l (k-1):Nat):Int) == 0))=true:=by
   rw [E.2];simp;omega
  rw [h1] at b;cases b
 refine Ul 2 [2] Z<|Ut U2<|⟨Z, ?_⟩;have e:ni l k=k:=by
  cases k with
  | zero=>rfl
  | succ j =>
   simp only [SV] at a;rw [ni,aB];intro h;refine a ⟨by omega, ?_⟩;unfold g9;rw [al,h];rfl
 unfold EE;rw [g,e];exact hs
theorem gA (C:Mem)(v:Value)(l:List Nat)(a:l.length=n):Jog.Fn cx.P 252 [v] C [.arr v 160 1 n (l.map ck).flatten] fun u C' b=>b=[]/\Sl C' 1 u ((EE l).map ck) :=
 Jog.Fn.give (l.map ck) kr_ (by intro r hr;obtain ⟨y,_,rfl⟩:=QO.1 hr;rfl) (by rw [aw,a]) (fun C' _ hs=>AI C' v l hs)
def jS (m n:Nat):Int:=if m<n then -1 else if n<m then 1 else 0
theorem jn :jS m n<0 ↔ m<n:=by unfold jS;split <;> (try split) <;> omega
theorem F9 :0<jS m n ↔ n<m:=by unfold jS;split <;> (try split) <;> omega
theorem F8 (C:Mem)(w z:Value)(a b:List Nat)(d:Sl C 1 w (a.map ck))(f:Sl C 1 z (b.map ck))(n:yg a)(o:yg b):Gives cx.P 217 [w,z] C (.int .i64 (jS (bC a) (bC b))):=by
 have Y:maxLen<=9223372036854775807:=by simp [maxLen]
 obtain ⟨F,c0,rfl,H,aa,_⟩:=id d;obtain ⟨I,J,rfl,K,ab,_⟩:=id f;simp only [aw] at d f H K ⊢;refine Uv func217 41 U3 fun w0=>Ul 1 [0,1] Z<|Ul 5 [0,1,10] Z<|Uo (fun g=>?_) fun g=>?_
 ·have ac:a.length≠b.length:=fun e=>by
   rw [e] at g;simp at g
  refine Ul 5 [15] Z<|Uo (fun p=>?_) fun p=>?_
  ·have q:a.length<b.length:=by
    have:(a.length:Int)<b.length:=by simpa using p
    omega
   exact Ul 1 [4] Z<|Ut U2<|⟨by rw [show jS (bC a) (bC b)=-1 from aJ (uw n.1 o q)],Z⟩
  have q:b.length<a.length:=by
   have:¬ (a.length:Int)<b.length:=by simpa using p
   omega
  have r:=uw o.1 n q;exact Ul 1 [4] Z<|Ut U2<|⟨by rw [show jS (bC a) (bC b)=1 from by unfold jS;rw [aB om_,aJ r]],Z⟩
 have s:a.length=b.length:=by
  have:(a.length:Int)=b.length:=by simpa using g
  omega
 refine Um 2 Z fun R c=>Uw _ U7<|C4 1 [0,1,5] c Z<|G.loop (fun fr C' L M=>∃ (k:Nat),(k<=a.length/\a.drop k=b.drop k)/\fr=[(0,[],.slice F a.length c0),(1,[],.slice I b.length J),(5,[],.int .i64 ((k:Int)-1))]/\L=[]/\M=k+1) (hn_ [0,1,5] Z) ⟨a.length,⟨QG _,by rw [RW,s,RW]⟩,Z,Z,Z⟩ (fun fr ad ae m _ N=>?_);obtain ⟨k,⟨hk,i⟩,rfl,rfl,rfl⟩:=N;refine Ul 2 [0,1,5,20] Z<|Uo (fun t=>?_) fun t=>?_
 ·have A:0<k:=by
   have:(0:Int)<=(k:Int)-1:=by simpa using t
   omega
  obtain ⟨j,rfl⟩:∃ j,k=j+1:=⟨k-1,by omega⟩;obtain ⟨x,l⟩:∃ x,a[j]?=some x:=⟨a[j],aj om_⟩;obtain ⟨y,hy⟩:∃ y,b[j]?=some y:=⟨b[j],aj om_⟩;have B:(a.map ck)[(((j+1:Nat):Int)-1).toNat]?=some (ck x):=by
   rw [show (((j+1:Nat):Int)-1).toNat=j by omega,QI,l];rfl
  have D:(b.map ck)[(((j+1:Nat):Int)-1).toNat]?=some (ck y):=by
   rw [show (((j+1:Nat):Int)-1).toNat=j by omega,QI,hy];rfl
  refine UJ [0,1,2,3,4,5,6,7,8] [] Z kr_ fun R O c=>Us 2 Z<|UD d.m_ U10 om_ B fl_ fun af Q=>Un Q U8<|Us 2 Z<|UD f.m_ U10 om_ D fl_ fun ag S=>Un S U8<|C4 1 [0,1,5,31] c Z<|Uo (fun u=>?_) fun u=>?_
  ·have E:x≠y:=fun h=>by
    subst h;simp at u
   refine UJ [0,1,2,3,4,5,6,7,8] [] Z kr_ fun R O c=>Us 2 Z<|UD d.m_ U10 om_ B fl_ fun ah T=>Un T U8<|Us 2 Z<|UD f.m_ U10 om_ D fl_ fun ai U=>Un U U8<|C4 1 [40] c Z<|Uo (fun v=>?_) fun v=>?_
   ·have E:x<y:=by
     have:(x:Int)<y:=by simpa using v
     omega
    exact Ul 1 [4] Z<|Ut U2<|⟨by rw [show jS (bC a) (bC b)=-1 from aJ (L3 n.1 s l hy E i)],Z⟩
   have V:y<x:=by
    have:¬ (x:Int)<y:=by simpa using v
    omega
   have r:=L3 o.1 s.symm hy l V i.symm;exact Ul 1 [4] Z<|Ut U2<|⟨by rw [show jS (bC a) (bC b)=1 from by unfold jS;rw [aB om_,aJ r]],Z⟩
  have W:x=y:=by
   have:(x:Int)=y:=by simpa using u
   omega
  refine Um 1 Z fun R c=>Uw _ U7<|C4 1 [0,1,5] c Z ?_;rw [show ((j+1:Nat):Int)-1-1=(j:Int)-1 by omega];refine UA (m':=j+1) om_ mup (hn_ [0,1,5] Z) ⟨j,⟨by omega,by
   rw [Re (by omega:j<a.length),Re (by omega:j<b.length),i,(aE.1 l).2,(aE.1 hy).2,W]⟩,rfl,rfl,rfl⟩
 have A:k=0:=by
  have:¬ (0:Int)<=(k:Int)-1:=by simpa using t
  omega
 subst A;refine Ul 1 [4] Z<|Ut U2 ?_;have X:a=b:=by simpa using i
 subst X;exact ⟨by rw [show jS (bC a) (bC a)=0 from by unfold jS;rw [aB om_,aB om_]],Z⟩
theorem xi (h:i<l.length):l[i]?=some (g9 l i):=by rw [aj h,yS (aj h)]
theorem jy (h:i<l.length):(l.map ck)[i]?=some (ck (g9 l i)):=by rw [QI,xi h];rfl
theorem LM (h:l.length<=i):g9 l i=0:=by
 unfold g9;rw [al,QS h];rfl
theorem B9v:B9=1000000000:=rfl
theorem MU (C:Mem)(z E:Value)(a b:List Nat)(p:Sl C 1 z (a.map ck))(q:Sl C 1 E (b.map ck))(F:Dig9 a)(H:Dig9 b)(N:a.length<=10000000)(O:b.length<=10000000) :
  Pur cx.P 215 [z,E] C fun u C'=>NineC C' u (bC a+bC b):=by
 obtain ⟨A0,c0,rfl,_⟩:=id p;obtain ⟨B0,d0,rfl,_⟩:=id q;simp only [aw] at p q ⊢;have hB:=B9v;refine Uv func215 53 U3 fun w0=>Ul 1 [0,1] Z<|Ul 5 [0,1,13] Z<|G.cut (fun fr C' k l=>∃ (e lb:List Nat)(A:Option Addr)(c:Nat)(B:Option Addr)(d:Nat),(Sl C' 1 (.slice A e.length c) (e.map ck)/\Sl C' 1 (.slice B lb.length d) (lb.map ck)/\lb.length<=e.length/\bC e+bC lb=bC a+bC b/\Dig9 e/\Dig9 lb/\e.length<=10000000)/\fr=[(0,[],.slice A e.length c),(1,[],.slice B lb.length d)]/\k=[]) ?_ (fun fr _ ai l _ o=>?_)
 ·refine Uo (fun s=>?_) fun s=>?_
  ·have Q:a.length<b.length:=by
    have:(a.length:Int)<b.length:=by simpa using s
    omega
   refine Ul 4 [0,1] Z<|UB 0 (Mem.le.refl _) (hn_ [0,1] Z) ⟨b,a,_,_,_,_,⟨q.mono mup,p.mono mup,by omega,by omega,H,F,O⟩,Z,Z⟩
  have Q:¬ a.length<b.length:=fun h=>by
   have:(a.length:Int)<b.length:=by omega
   simp [this] at s
  refine UB 0 (Mem.le.refl _) (hn_ [0,1] Z) ⟨a,b,_,_,_,_,⟨p.mono mup,q.mono mup,by omega,Z,F,H,N⟩,Z,Z⟩
 obtain ⟨e ,lb ,A ,c ,B ,d,⟨S,T,U,V,W,X,aj⟩,rfl,rfl⟩:=o;refine Um 2 Z fun R g=>Uw _ U7<|Vo U9 (QK _) (by show 8*(e.length+1)<=281474976710656;omega) (by simp only [maxLen];omega) fl_ fun ak=>C4 1 [0,1,5] g Z<|Ul 1 [0,1,5,6] Z<|Ul 3 [1,5,6,20,21,22] Z<|G.loop (fun fr C' k l=>∃ (i:Nat)(out:List Nat)(f:Nat)(w:Value),(i<=e.length/\out.length=i/\Dig9 out/\f<=1/\bC out+B9 ^ i*f=bC (e.take i)+bC (lb.take i))/\fr=[(1,[],.slice B lb.length d),(5,[],w),(6,[],.int .u64 f),(20,[],.slice A e.length c),(21,[],.int .i64 e.length),(22,[],.int .i64 i)]/\k=[.arr w 160 1 i (out.map ck).flatten]/\l=e.length-i) (hn_ [1,5,6,20,21,22] Z) ⟨0,[],0,_,⟨QK _,Z,(fun x Y=>(by cases Y)),by omega,Z⟩,Z,Z,Z⟩ (fun fr al am m _ o=>?_);obtain ⟨i,out,f,w,⟨hi,r,I,J,K⟩,rfl,rfl,rfl⟩:=o;refine Ul 1 [1,5,6,20,21,22,23] Z<|Uo (fun t=>?_) fun t=>?_
 ·have v:i<e.length:=by simpa using t
  have aa:=kY W i;have ab:=kY X i;refine Um 1 Z fun R g=>UD S.m_ U10 om_ (jy (i:=i) v) fl_ fun an ac=>Un ac U8<|C4 2 [1,5,6,7,8,20,21,22] g Z<|Um 2 Z fun R g=>D.int (((f+g9 e i:Nat):Int)) U4 (by rw [IntKind.wrap_u64];omega) U2<|C4 1 [1,5,6,7,20,21,22] g Z<|Ul 4 [1,5,6,7,20,21,22,33] Z<|G.cut (fun fr C' k l=>(True)/\fr=[(1,[],.slice B lb.length d),(5,[],w),(6,[],.int .u64 ((f+g9 e i+g9 lb i:Nat):Int)),(20,[],.slice A e.length c),(21,[],.int .i64 e.length),(22,[],.int .i64 i)]/\k=[.arr w 160 1 i (out.map ck).flatten]) ?_ (fun fr _ ao l _ o=>?_)
  ·refine Uo (fun y=>?_) fun y=>?_
   ·have ad:i<lb.length:=by simpa using y
    refine Um 3 Z fun R g=>UD T.m_ U10 om_ (jy (i:=i) ad) fl_ fun ap ae=>Un ae U8<|D.int (((f+g9 e i+g9 lb i:Nat):Int)) U4 (by rw [IntKind.wrap_u64];omega) U2<|C4 1 [1,5,6,20,21,22] g Z<|UB 0 (Mem.le.refl _) (hn_ [1,5,6,20,21,22] Z) ⟨trivial,Z,Z⟩
   have hz:g9 lb i=0:=LM (by have h:¬ i<lb.length:=(by simpa using y);omega);refine UB 0 (Mem.le.refl _) (hn_ [1,5,6,20,21,22] Z) ⟨trivial,by rw [hz];rfl,Z⟩
  obtain ⟨aq,rfl,rfl⟩:=o;refine Um 2 Z fun R g=>Vk (f+g9 e i+g9 lb i) (B9) U6 om_ U2<|UI [ck ((f+g9 e i+g9 lb i) % B9)] U12 fun ar _ _ af=>D.append (j:=0) U11 af Z ax (by show (i+1)*8<=_;omega) fl_ fun L=>C4 1 [1,5,6,20,21,22] g Z<|Um 1 Z fun R g=>Vu (f+g9 e i+g9 lb i) (B9) U6 om_ (.inr ⟨Z,by omega⟩) U2<|C4 1 [1,5,6,20,21,22] g Z<|Uq fun R g=>Uw _ U7<|C4 1 [1,5,6,20,21,22] g Z ?_;have M:f+g9 e i+g9 lb i=g9 e i+g9 lb i+f:=by omega
  refine UE (L':=[.arr L 160 1 (i+1) ((out++[(g9 e i+g9 lb i+f) % B9]).map ck).flatten]) (by rw [M];simp [ck]) ?_;rw [M];refine UA (m':=e.length-(i+1)) om_ mup (hn_ [1,5,6,20,21,22] Z) ⟨i+1,out++[(g9 e i+g9 lb i+f) % B9],(g9 e i+g9 lb i+f) / B9,L,⟨by omega,by simp [r],I.snoc (Rs _ dc_),HQ aa ab J,H5 r K⟩,Z,Z,Z⟩
 have v:i=e.length:=by
  have:¬ i<e.length:=by simpa using t
  omega
 refine UN [(4,3)] Z fun R g=>Us 2 Z<|UI [ck f] U12 fun au _ _ ag=>D.append (j:=0) U11 ag Z ax (by show (i+1)*8<=_;omega) fl_ fun av=>D.call (gA _ _ (out++[f]) (n:=i+1) (by simp [r])) Z (.inr dc_) U6 (by rw [Rj,Ri];exact QL _) fl_ (fun ay _ az _ ah=>?_);obtain ⟨rfl,hu⟩:=ah;refine C4 1 [4] g Z<|Ut U2<|⟨Z,EE (out++[f]),iD (I.snoc (RC J dc_)), ?_,hu⟩;rw [iC,iY,r,K,v,QV,Rr U,V]
theorem JN (C:Mem)(F H:Value)(a b:List Nat)(p:Sl C 1 F (a.map ck))(q:Sl C 1 H (b.map ck))(K:Dig9 a)(I:Dig9 b)(ab:a.length<=10000000)(L:b.length<=a.length)(ac:bC b<=bC a) :
  Pur cx.P 218 [F,H] C fun u C'=>NineC C' u (bC a-bC b):=by
 obtain ⟨r,c0,rfl,_⟩:=id p;obtain ⟨s,t,rfl,_⟩:=id q;simp only [aw] at p q ⊢;have M:=B9v;refine Uv func218 45 U3 fun w0=>Ul 1 [0,1] Z<|Um 2 Z fun R d=>Vo U9 (QK _) (by show 8*a.length<=281474976710656;omega) (by simp only [maxLen];omega) fl_ fun ad=>C4 1 [0,1,5] d Z<|Ul 1 [0,1,5,6] Z<|Ul 3 [1,5,6,13,14,15] Z<|G.loop (fun fr C' e f=>∃ (i:Nat)(out:List Nat)(c:Nat)(w:Value),(i<=a.length/\out.length=i/\Dig9 out/\c<=1/\bC out+bC (b.take i)=bC (a.take i)+B9 ^ i*c)/\fr=[(1,[],.slice s b.length t),(5,[],w),(6,[],.int .u64 c),(13,[],.slice r a.length c0),(14,[],.int .i64 a.length),(15,[],.int .i64 i)]/\e=[.arr w 160 1 i (out.map ck).flatten]/\f=a.length-i) (hn_ [1,5,6,13,14,15] Z) ⟨0,[],0,_,⟨QK _,Z,(fun x N=>(by cases N)),by omega,Z⟩,Z,Z,Z⟩ (fun fr ae af m _ g=>?_);obtain ⟨i,out,c,w,⟨hi,k,v,y,l⟩,rfl,rfl,rfl⟩:=g;refine Ul 1 [1,5,6,13,14,15,16] Z<|Uo (fun z=>?_) fun z=>?_
 ·have o:i<a.length:=by simpa using z
  have O:=kY K i;have Q:=kY I i;refine Um 1 Z fun R d=>UD p.m_ U10 om_ (jy (i:=i) o) fl_ fun ag S=>Un S U8<|C4 2 [1,5,6,7,8,13,14,15] d Z<|Ul 2 [1,5,7,8,9,13,14,15] Z<|Ul 4 [1,5,7,8,9,13,14,15,24] Z<|G.cut (fun fr C' e f=>(True)/\fr=[(1,[],.slice s b.length t),(5,[],w),(8,[],.int .u64 (g9 a i)),(9,[],.int .u64 ((c+g9 b i:Nat):Int)),(13,[],.slice r a.length c0),(14,[],.int .i64 a.length),(15,[],.int .i64 i)]/\e=[.arr w 160 1 i (out.map ck).flatten]) ?_ (fun fr _ ah f _ g=>?_)
  ·refine Uo (fun A=>?_) fun A=>?_
   ·have T:i<b.length:=by simpa using A
    refine Um 3 Z fun R d=>UD q.m_ U10 om_ (jy (i:=i) T) fl_ fun ai U=>Un U U8<|D.int (((c+g9 b i:Nat):Int)) U4 (by rw [IntKind.wrap_u64];omega) U2<|C4 1 [1,5,8,9,13,14,15] d Z<|UB 0 (Mem.le.refl _) (hn_ [1,5,8,9,13,14,15] Z) ⟨trivial,Z,Z⟩
   have V:g9 b i=0:=LM (by have h:¬ i<b.length:=(by simpa using A);omega);refine UB 0 (Mem.le.refl _) (hn_ [1,5,8,9,13,14,15] Z) ⟨trivial,by rw [V];rfl,Z⟩
  obtain ⟨aj,rfl,rfl⟩:=g;refine Ul 1 [1,5,6,8,9,13,14,15] Z<|Ul 3 [1,5,6,8,9,13,14,15,33] Z<|G.cut (fun fr C' e f=>(True)/\fr=[(1,[],.slice s b.length t),(5,[],w),(6,[],.int .u64 ((vz (g9 a i) (g9 b i) c:Nat):Int)),(8,[],.int .u64 ((g9 a i+B9*vz (g9 a i) (g9 b i) c:Nat):Int)),(9,[],.int .u64 ((c+g9 b i:Nat):Int)),(13,[],.slice r a.length c0),(14,[],.int .i64 a.length),(15,[],.int .i64 i)]/\e=[.arr w 160 1 i (out.map ck).flatten]) ?_ (fun fr _ ak f _ g=>?_)
  ·refine Uo (fun B=>?_) fun B=>?_
   ·have E:vz (g9 a i) (g9 b i) c=1:=by
     have:(g9 a i:Int)<((c+g9 b i:Nat):Int):=by simpa using B
     unfold vz;rw [aJ om_]
    refine Um 1 Z fun R d=>D.int (((g9 a i+B9*1:Nat):Int)) U4 (by rw [IntKind.wrap_u64];omega) U2<|C4 2 [1,5,6,8,9,13,14,15] d Z<|UB 0 (Mem.le.refl _) (hn_ [1,5,6,8,9,13,14,15] Z) ⟨trivial,by rw [E];rfl,Z⟩
   have E:vz (g9 a i) (g9 b i) c=0:=by
    have:¬ (g9 a i:Int)<((c+g9 b i:Nat):Int):=by simpa using B
    unfold vz;rw [aB om_]
   refine UB 0 (Mem.le.refl _) (hn_ [1,5,6,8,9,13,14,15] Z) ⟨trivial,by rw [E];rfl,Z⟩
  obtain ⟨al,rfl,rfl⟩:=g;refine Um 3 Z fun R d=>?_;have am:vz (g9 a i) (g9 b i) c<=1:=HT _ _ _;have W:c+g9 b i<=g9 a i+B9*vz (g9 a i) (g9 b i) c:=by
   unfold vz;split <;> omega
  refine D.int (((Hq (g9 a i) (g9 b i) c:Nat):Int)) U4 (by rw [IntKind.wrap_u64];unfold Hq;rw [M] at W ⊢;omega) U2<|UI [ck (Hq (g9 a i) (g9 b i) c)] U12 fun an _ _ X=>D.append (j:=0) U11 X Z ax (by show (i+1)*8<=_;omega) fl_ fun J=>C4 1 [1,5,6,13,14,15] d Z<|Uq fun R d=>Uw _ U7<|C4 1 [1,5,6,13,14,15] d Z<|UE (L':=[.arr J 160 1 (i+1) ((out++[Hq (g9 a i) (g9 b i) c]).map ck).flatten]) (by simp [ck])<|UA (m':=a.length-(i+1)) om_ mup (hn_ [1,5,6,13,14,15] Z) ⟨i+1,out++[Hq (g9 a i) (g9 b i) c],vz (g9 a i) (g9 b i) c,J,⟨by omega,by simp [k],v.snoc (NL O Q y),HT _ _ _,E7 I y k l⟩,Z,Z,Z⟩
 have o:i=a.length:=by
  have:¬ i<a.length:=by simpa using z
  omega
 refine UN [(1,3)] Z fun R d=>Up U6<|D.call (gA _ _ out (n:=i) k) Z (.inr dc_) U6 (QL _) fl_ (fun ao _ ap _ Y=>?_);obtain ⟨rfl,hu⟩:=Y;refine C4 1 [4] d Z<|Ut U2<|⟨Z,EE out,iD v, ?_,hu⟩;rw [o,QV,Rr L] at l;have h0:=iZ v;rw [k,o] at h0;have aa:c=0:=by
  rcases Nat.le_one_iff_eq_zero_or_eq_one.1 y with h | h
  ·exact h
  rw [h,SL] at l;omega
 rw [aa,Nat.mul_zero] at l;rw [iC];omega
abbrev qU (g c n:Nat):Value:=.slice (some ⟨g,0,none⟩) n c
theorem EH (n:Nat):fq ([.int .u64 0]:List Value) n=((List.replicate n 0).map ck).flatten:=by
 rw [de,Tp];rfl
theorem qq {j z:Nat}(h:i≠j):g9 (l.set i z) j=g9 l j:=by
 unfold g9;rw [al,al,TC h]
theorem BY (n j:Nat):g9 (List.replicate n 0) j=0:=by
 unfold g9;rw [al,Sx];split <;> rfl
theorem IG (C:Mem)(S T:Value)(a b:List Nat)(v:Sl C 1 S (a.map ck))(w:Sl C 1 T (b.map ck))(ag:Dig9 a)(ai:Dig9 b)(au:a.length<=1000000)(av:b.length<=1000000) :
  Pur cx.P 219 [S,T] C fun u C'=>NineC C' u (bC a*bC b):=by
 obtain ⟨y,c0,rfl,_⟩:=id v;obtain ⟨s,t,rfl,_⟩:=id w;simp only [aw] at v w ⊢;have hB:=B9v;obtain ⟨N,hN⟩:∃ N,a.length+b.length+1=N:=⟨_,rfl⟩;refine Uv func219 79 U3 fun w0=>Ul 1 [0,1] Z<|Um 4 Z fun R d=>UX (((a.length+b.length:Nat):Int)) U4 om_ om_ om_ U2<|UX (((N:Nat):Int)) U4 om_ om_ om_ U2<|Vo U9 (QG _) (by show 8*N<=281474976710656;omega) (by simp only [maxLen];omega) fl_ fun f=>C4 1 [0,1,5] d Z<|Ul 3 [1,5,19,20,21] Z<|UE (L':=[.arr (qU f N N) 160 1 N ((List.replicate N 0).map ck).flatten]) (by rw [<- EH];rfl)<|G.loop (fun fr C' g n=>∃ (i:Nat)(o:List Nat),(i<=a.length/\o.length=N/\Dig9 o/\bC o=bC (a.take i)*bC b/\∀ j,i+b.length<=j->g9 o j=0)/\fr=[(1,[],.slice s b.length t),(5,[],qU f N N),(19,[],.slice y a.length c0),(20,[],.int .i64 a.length),(21,[],.int .i64 i)]/\g=[.arr (qU f N N) 160 1 N (o.map ck).flatten]/\n=a.length-i) (hn_ [1,5,19,20,21] Z) ⟨0,List.replicate N 0,⟨QK _,Sc,(fun x l=>by rw [Ss l];decide),by rw [rO (fun x l=>Ss l)];simp [bC],fun j _=>BY _ j⟩,Z,Z,Z⟩ (fun fr ax ay m _ p=>?_);obtain ⟨i,o,⟨hi,U,V,W,hz⟩,rfl,rfl,rfl⟩:=p;refine Ul 1 [1,5,19,20,21,22] Z<|Uo (fun A=>?_) fun A=>?_
 ·have B:i<a.length:=by simpa using A
  have l:=kY ag i;refine Um 1 Z fun R d=>UD v.m_ U10 om_ (jy (i:=i) B) fl_ fun az aj=>Un aj U8<|C4 2 [1,5,6,7,19,20,21] d Z<|Ul 1 [1,5,6,7,8,19,20,21] Z<|Ul 3 [1,5,6,7,8,19,20,21,26,27,28] Z<|G.loop (fun fr C' g n=>∃ (k:Nat)(q:List Nat)(c:Nat),(k<=b.length/\q.length=N/\Dig9 q/\c<B9/\bC q+B9 ^ (i+k)*c=bC o+B9 ^ i*(g9 a i*bC (b.take k))/\∀ j,i+b.length<=j->g9 q j=0)/\fr=[(1,[],.slice s b.length t),(5,[],qU f N N),(6,[],.int .i64 i),(7,[],.int .u64 (g9 a i)),(8,[],.int .u64 c),(19,[],.slice y a.length c0),(20,[],.int .i64 a.length),(21,[],.int .i64 i),(26,[],.slice s b.length t),(27,[],.int .i64 b.length),(28,[],.int .i64 k)]/\g=[.arr (qU f N N) 160 1 N (q.map ck).flatten]/\n=b.length-k) (hn_ [1,5,6,7,8,19,20,21,26,27,28] Z) ⟨0,o,0,⟨QK _,U,V,by decide,by simp [bC],hz⟩,Z,Z,Z⟩ (fun fr aA aB m _ p=>?_);obtain ⟨k,q,c,⟨hk,E,F,H,I,J⟩,rfl,rfl,rfl⟩:=p;refine Ul 1 [1,5,6,7,8,19,20,21,26,27,28,29] Z<|Uo (fun K=>?_) fun K=>?_
  ·have L:k<b.length:=by simpa using K
   have hy:=kY ai k;have X:=kY F (i+k);have Y:q[i+k]?=some (g9 q (i+k)):=xi om_;have ak:=su H l hy X;rw [show B9*B9=1000000000000000000 from rfl] at ak;refine Um 1 Z fun R d=>UD w.m_ U10 om_ (jy (i:=k) L) fl_ fun aC al=>Un al U8<|C4 2 [1,5,6,7,8,9,10,19,20,21,26,27,28] d Z<|Um 4 Z fun R d=>UX (((i+k:Nat):Int)) U4 om_ om_ om_ U2<|UR ((i+k)*1) U10 ah U2<|Va af U6 (fun _=>(by rw [cP eH Y];rfl)) U2<|Us 2 Z<|D.int (((g9 a i*g9 b k:Nat):Int)) U4 (by rw [<- RG,IntKind.wrap_u64];omega) U2<|D.int (((g9 q (i+k)+g9 a i*g9 b k:Nat):Int)) U4 (by rw [IntKind.wrap_u64];omega) U2<|D.int (((c+g9 a i*g9 b k+g9 q (i+k):Nat):Int)) U4 (by rw [IntKind.wrap_u64];omega) U2<|C4 1 [1,5,6,7,8,9,19,20,21,26,27,28] d Z<|Um 3 Z fun R d=>UX (((i+k:Nat):Int)) U4 om_ om_ om_ U2<|Up U6<|Vk (c+g9 a i*g9 b k+g9 q (i+k)) (B9) U6 om_ U2<|UR ((i+k)*1) U10 ah U2<|UW (j:=0) U11 (by show (i+k)*1+1<=_;rw [bO eH,E];omega)<|Ur [1,5,6,7,8,19,20,21,26,27,28] d Z<|Um 1 Z fun R d=>Vu (c+g9 a i*g9 b k+g9 q (i+k)) (B9) U6 om_ (.inr ⟨Z,by omega⟩) U2<|C4 1 [1,5,6,7,8,19,20,21,26,27,28] d Z<|Uq fun R d=>Uw _ U7<|C4 1 [1,5,6,7,8,19,20,21,26,27,28] d Z<|UE (L':=[.arr (qU f N N) 160 1 N ((q.set (i+k) ((c+g9 a i*g9 b k+g9 q (i+k)) % B9)).map ck).flatten]) (by rw [<- bK eH _ (by omega:i+k<q.length)];rfl)<|UA (m':=b.length-(k+1)) om_ mup (hn_ [1,5,6,7,8,19,20,21,26,27,28] Z) ⟨k+1,q.set (i+k) ((c+g9 a i*g9 b k+g9 q (i+k)) % B9),(c+g9 a i*g9 b k+g9 q (i+k)) / B9,⟨by omega,by simp [E],F.set (Rs _ dc_),HP H l hy X,Gn Y Z I,fun j r=>by rw [qq om_];exact J j r⟩,Z,Z,Z⟩
  have L:k=b.length:=by
   have:¬ k<b.length:=by simpa using K
   omega
  refine Um 3 Z fun R d=>UX (((i+b.length:Nat):Int)) U4 om_ om_ om_ U2<|C4 1 [1,5,8,11,19,20,21] d Z<|G.loop (fun fr C' g n=>∃ (m:Nat)(e:List Nat)(c2:Nat),(i+b.length<=m/\m<=i+b.length+1/\e.length=N/\Dig9 e/\c2<B9/\(m=i+b.length+1->c2=0)/\(m=i+b.length->g9 e m=0)/\bC e+B9 ^ m*c2=bC o+B9 ^ i*(g9 a i*bC b)/\∀ j,i+b.length+1<=j->g9 e j=0)/\fr=[(1,[],.slice s b.length t),(5,[],qU f N N),(8,[],.int .u64 c2),(11,[],.int .i64 m),(19,[],.slice y a.length c0),(20,[],.int .i64 a.length),(21,[],.int .i64 i)]/\g=[.arr (qU f N N) 160 1 N (e.map ck).flatten]/\n=2-(m-(i+b.length))) (hn_ [1,5,8,11,19,20,21] Z) ⟨i+b.length,q,c,⟨QG _,by omega,E,F,H,fun h=>by omega,fun _=>J _ (QG _),by rw [L,QV] at I;exact I,fun j r=>J j om_⟩,Z,Z,Z⟩ (fun fr aD aE m _ p=>?_);obtain ⟨m,e,c2,⟨aF,aG,M,aa,O,am,an,ab,ac⟩,rfl,rfl,rfl⟩:=p;refine Ul 2 [1,5,8,11,19,20,21,60] Z<|Uo (fun h60=>?_) fun h60=>?_
  ·have ad:0<c2:=by
    have:(0:Int)<(c2:Int):=by simpa using h60
    omega
   have ao:m=i+b.length:=by
    rcases Rh m (i+b.length+1) with h | h
    ·omega
    have:=am om_;omega
   have Q:=an ao;have ae:e[m]?=some (g9 e m):=xi om_;refine Um 3 Z fun R d=>UR (m*1) U10 ah U2<|Va af U6 (fun _=>(by rw [cP eH ae];rfl)) U2<|D.int (((c2+g9 e m:Nat):Int)) U4 (by rw [IntKind.wrap_u64];omega) U2<|C4 1 [1,5,8,11,19,20,21] d Z<|Um 3 Z fun R d=>Vk (c2+g9 e m) (B9) U6 om_ U2<|UR (m*1) U10 ah U2<|UW (j:=0) U11 (by show m*1+1<=_;rw [bO eH,M];omega)<|Ur [1,5,8,11,19,20,21] d Z<|Um 1 Z fun R d=>Vu (c2+g9 e m) (B9) U6 om_ (.inr ⟨Z,by omega⟩) U2<|C4 1 [1,5,8,11,19,20,21] d Z<|Um 1 Z fun R d=>Uw _ U7<|C4 1 [1,5,8,11,19,20,21] d Z ?_;have ap:(c2+g9 e m) % B9=c2:=by rw [Q,SG];exact S7 O
   have aq:(c2+g9 e m) / B9=0:=by rw [Q,SG];exact S8 O
   refine UE (L':=[.arr (qU f N N) 160 1 N ((e.set m c2).map ck).flatten]) (by rw [ap,<- bK eH _ (by omega:m<e.length)];rfl) ?_;rw [aq];refine UA (m':=2-(m+1-(i+b.length))) om_ mup (hn_ [1,5,8,11,19,20,21] Z) ⟨m+1,e.set m c2,0,⟨by omega,by omega,by simp [M],aa.set O,by decide,fun _=>rfl,fun h=>by omega,by
    have h1:=tQ (z:=c2) ae;rw [Q] at h1;omega,fun j r=>by rw [qq om_];exact ac j r⟩,rfl,rfl,rfl⟩
  have ad:c2=0:=by
   have:¬ (0:Int)<(c2:Int):=by simpa using h60
   omega
  refine Uq fun R d=>Uw _ U7<|C4 1 [1,5,19,20,21] d Z<|UA (m':=a.length-(i+1)) om_ mup (hn_ [1,5,19,20,21] Z) ⟨i+1,e,⟨by omega,M,aa,by
   rw [ad,Nat.mul_zero,SG] at ab;rw [mK,R7,<- W,S4];exact ab,fun j r=>ac j om_⟩,Z,Z,Z⟩
 have B:i=a.length:=by
  have:¬ i<a.length:=by simpa using A
  omega
 refine UN [(1,3)] Z fun R d=>Up U6<|D.call (gA _ _ o U) Z (.inr dc_) U6 (QL _) fl_ (fun aH _ aI _ ar=>?_);obtain ⟨rfl,hu⟩:=ar;refine C4 1 [4] d Z<|Ut U2<|⟨Z,EE o,iD V, ?_,hu⟩;rw [iC,W,B,QV]
theorem tj (h:yg l)(a:bC l<B9 ^ m):l.length<=m:=by
 rcases Rh m l.length with h1 | h1
 ·have h2:=vf h om_;have h3:B9 ^ m<=B9 ^ (l.length-1):=Q6 dc_ om_;omega
 exact h1
theorem NineC.get (h:NineC C v n)(a:n<B9 ^ m):∃ l,yg l/\bC l=n/\l.length<=m/\Sl C 1 v (l.map ck):=by
 obtain ⟨l,h1,h2,h3⟩:=h;exact ⟨l,h1,h2,tj h1 (by rw [h2];exact a),h3⟩
theorem NineC.zero (C:Mem):NineC C (.slice none 0 0) 0:=⟨[],⟨(fun x a=>(by cases a)),by simp⟩,rfl,Sl.nil C 1⟩
theorem NineC.form (h:NineC C v n):∃ A m c,v=.slice A m c:=by
 obtain ⟨l,_,_,A,c,h,_⟩:=h;exact ⟨A,_,c,h⟩
theorem dE (h:m<B9 ^ n)(a:n<=k):m<B9 ^ k:=R4 h (Q6 dc_ a)
theorem pK (C:Mem)(c:NineC C u m)(d:NineC C v n):Gives cx.P 217 [u,v] C (.int .i64 (jS m n)):=by
 obtain ⟨a,h1,h2,h3⟩:=c;obtain ⟨b,h4,h5,e⟩:=d;rw [<- h2,<- h5];exact F8 C u v a b h3 e h1 h4
theorem Ly (C:Mem)(c:NineC C u m)(d:NineC C v n)(e:m<B9 ^ k)(f:n<B9 ^ k)(i:k<=1000000):Pur cx.P 215 [u,v] C fun w D=>NineC D w (m+n):=by
 obtain ⟨a,h1,h2,h3,h4⟩:=c.get e;obtain ⟨b,h5,g,j,h⟩:=d.get f;rw [<- h2,<- g];exact MU C u v a b h4 h h1.1 h5.1 om_ om_
theorem uu (C:Mem)(c:NineC C u m)(d:NineC C v n)(e:m<B9 ^ k)(i:n<=m)(j:k<=1000000):Pur cx.P 218 [u,v] C fun w D=>NineC D w (m-n):=by
 obtain ⟨a,h1,h2,h3,h4⟩:=c.get e;obtain ⟨b,h5,f,g⟩:=d;rw [<- h2,<- f];refine JN C u v a b h4 g h1.1 h5.1 om_ ?_ om_;rcases Rh a.length b.length with h | h
 ·have:=uw h1.1 h5 h;omega
 exact h
theorem E0 (C:Mem)(c:NineC C u m)(d:NineC C v n)(e:m<B9 ^ k)(f:n<B9 ^ k)(i:k<=1000000):Pur cx.P 219 [u,v] C fun w D=>NineC D w (m*n):=by
 obtain ⟨a,h1,h2,h3,h4⟩:=c.get e;obtain ⟨b,h5,g,j,h⟩:=d.get f;rw [<- h2,<- g];exact IG C u v a b h4 h h1.1 h5.1 om_ om_
theorem vL (C:Mem)(a:Dig9 l)(b:Sl C 1 u (l.map ck)):Pur cx.P 252 [u] C fun w D=>NineC D w (bC l) :=
 (AI C u l b).mono fun _c _d _e _ ⟨h1,h2⟩=>⟨h1,EE l,iD a,iC l,h2⟩
theorem yp (C:Mem){d:Nat}(a:NineC C u m)(f:m<B9 ^ k)(g:d<B9)(p:k<=999999):Pur cx.P 279 [u,.int .u64 d] C fun w D=>NineC D w (m*d):=by
 obtain ⟨A,n,c,rfl⟩:=a.form;refine Uv func279 10 U3 fun w0=>Ul 1 [0,1] Z<|Um 2 Z fun R h=>UI [ck d] U12 fun q _ _ i=>UT (vL _ (l:=[d]) (fun x j=>by rw [Q3.1 j];exact g) i) U7 fl_ fun r _ _ o=>UT (E0 (k:=k+1) _ a.m_ o (dE f om_) (by show d+B9*0<_;rw [RY];have:0<B9 ^ k:=Tb dc_;have h2:=Rz B9 this;omega) om_) U7 fl_ fun s _ _ b=>C4 1 [4] h Z<|Ut U2<|⟨Z, ?_⟩;have e:bC [d]=d:=by show d+B9*0=d;omega
 rw [e] at b;exact b
open Go Go.Jog Go.RowKit Go.Shelf
attribute [local go_sem] Oper.semAt_some
set_option maxRecDepth 100000 in
theorem KT (l Bs b off len cap:Nat)(zs:Nat->Int)(hlen:len<1000000)(J:Nat->World->Prop)
  (hJ:∀ k W,J k W->W.cell? ⟨Bs,0,none⟩=some (.slice (some ⟨b,off,none⟩) len cap)/\∀ j,j<len->W.cell? ⟨b,off+j,none⟩=some (.int .u64 (zs j)))
  (hY:∀ k W,J k W->k<len->YieldAt Fence.wide 1 Tryz.prog l #[.int .i64 ((len-1-k:Nat):Int),.int .u64 (zs (len-1-k))] W fun e W'=>e=.returned (.bool true)/\J (k+1) W')
  (W:World) (h0:J 0 W) :
  CallsIn Fence.wide 2 Tryz.prog 285 #[.func (.yield l) #[] #[],.pointer (some ⟨Bs,0,none⟩)] W fun e W'=>(∃ v,e=.returned v)/\J len W':=by
 refine callsIn_of_wp func285 Z trivial ?_ Z;simp only [Tryz.ntmps285,Sm,QY,Rq,Nat.reduceAdd,Nat.reduceSub,Ua,Ub,List.push_toArray,List.append_toArray,SB,Sd];have hBs:=(hJ 0 W h0).1
 gi_wp2
 gi_loopw [3] (fun i wr=>∃ k:Nat,k<=len/\i=.int .i64 ((len:Int)-1-k)/\J k wr) (fun i _=>(intOf i+1).toNat)
 case atStart=>exact ⟨0,QK _,by simp,h0⟩
 case round =>
  obtain ⟨k,hk,rfl,hJs⟩:=hrel;obtain ⟨hB2,hcx⟩:=hJ k wr hJs;by_cases hlt:k<len
  ·obtain ⟨fn,tmps,assign,body,hy,hR⟩:=hY k wr hJs hlt;have hcx':=hcx (len-1-k) om_;have e1:((len-1-k:Nat):Int)=(len:Int)-1-k:=by omega
   rw [e1] at hy
   gi_wp2
   refine hR.mono ?_;rintro e W3 ⟨rfl,hJ3⟩
   gi_wp2
   go_roundw
   case rel=>exact ⟨k+1,by omega,by congr 1;omega,hJ3⟩
   case measure=>simp [intOf];omega
  obtain rfl:k=len:=by omega
  gi_wp2
  go_end0
  exact ⟨⟨_,Z⟩,hJs⟩
set_option maxRecDepth 100000 in
theorem xM (l Bs:Nat)(A:Option Addr)(cap:Nat)(J:Nat->World->Prop)(W:World)(hBs:W.cell? ⟨Bs,0,none⟩=some (.slice A 0 cap))(h0:J 0 W) :
  CallsIn Fence.wide 2 Tryz.prog 285 #[.func (.yield l) #[] #[],.pointer (some ⟨Bs,0,none⟩)] W fun e W'=>(∃ v,e=.returned v)/\J 0 W':=by
 refine callsIn_of_wp func285 Z trivial ?_ Z;simp only [Tryz.ntmps285,Sm,QY,Rq,Nat.reduceAdd,Nat.reduceSub,Ua,Ub,List.push_toArray,List.append_toArray,SB,Sd]
 gi_wp2
 gi_loopw [3] (fun i wr=>i=.int .i64 (-1)/\J 0 wr) (fun _ _=>0)
 case atStart=>exact ⟨rfl,h0⟩
 case round =>
  obtain ⟨rfl,hJs⟩:=hrel
  gi_wp2
  go_end0
  exact ⟨⟨_,Z⟩,hJs⟩
def HZ (xs:List Nat):List (Value × Value):=(List.range xs.length).map fun k=>(.int .i64 ((xs.length-1-k:Nat):Int),.int .u64 ((xs.getD (xs.length-1-k) 0:Nat):Int))
theorem fP (a:List Nat):(HZ a).length=a.length:=by simp [HZ]
theorem vh {a:List Nat}(h:k<a.length):(HZ a)[k]?=some (.int .i64 ((a.length-1-k:Nat):Int),.int .u64 ((a.getD (a.length-1-k) 0:Nat):Int)):=by
 simp [HZ,h]
theorem tq (C:Mem)(b t:Nat)(v:Value)(a:List Nat)(p:C b=some (.cells ⟨[v]⟩ t (0,0)))(q:Sl C 1 v (a.map fun n:Nat=>[Value.int .u64 (n:Int)]))(r:a.length<1000000) :
  PY Tryz.prog 285 #[.pointer (some ⟨b,0,none⟩)] C (HZ a):=by
 intro l J W hC B s h0;obtain ⟨A,d,rfl,D,_,_,e⟩:=q;rw [aw] at *;have f:∀ {W:World}{k:Nat},J k W->W.cell? ⟨b,0,none⟩=some (.slice A a.length d):=fun {W k} c=>by
  simp [World.cell?,hC k W c b _ p]
 rw [fP];rcases Sb a.length with h | h
 ·have h1:=f h0;rw [h] at h1 ⊢;exact xM l b A d J W h1 h0
 obtain ⟨u,rfl,g,_⟩:=e 0 _ (aj (by simpa using h));obtain ⟨i,w,E⟩:=u;simp only at g;subst g;refine KT l b i w a.length d (fun j=>((a.getD j 0:Nat):Int)) r J (fun k W c=>⟨f c,fun j x=>?_⟩) (fun k W c y=>s k _ W c (vh y)) W h0;have h3:(a.map fun n:Nat=>[Value.int .u64 (n:Int)])[j]?=some [Value.int .u64 ((a.getD j 0:Nat):Int)]:=by
  simp [x]
 obtain ⟨a2,h4,_,h5⟩:=e j _ h3;cases h4
 have m:=h5 0 _ rfl;rw [Addr.add_lit] at m;obtain ⟨_,blk,F,fz,o,z⟩:=m;simp only at o;simp only [World.cell?,hC k W c i _ o];simpa using z
theorem CD (C:Mem)(A:Option Addr)(n c:Nat):Pur cx.P 254 [.slice A n c] C fun r C'=>∃ b,r=.func (.func 285) #[] #[.pointer (some ⟨b,0,none⟩)]/\C' b=some (.cells ⟨[.slice A n c]⟩ 305 (0,0)):=by
 exact Uv func254 4 U3 fun w0=>Uq fun R a=>UF U6 fun e=>C4 1 [1] a Z<|Ul 2 [2] Z<|G.freeze 0 Z fun f g d=>Ut U2<|⟨Z,_,Z,d⟩
abbrev qW (b n c:Nat):Value:=.slice (some ⟨b,0,none⟩) n c
theorem DL (C:Mem)(s:Str)(c:UInt8):Gives cx.P 300 [ai s,.int .u8 c.toNat] C (.int .i64 (Lib.indexByte s c)):=by
 have h:=Gives.ofCalls (f:=300) (args:=[ai s,.int .u8 c.toNat]) (P:=cx.P) kr_ (fun w=>Any.stringslite_IndexByte Tryz.idxByte ⟨s.toArray⟩ (c.toNat:Int) w) C;simpa using h
theorem GU (C:Mem)(s:Str)(c:UInt8):Gives cx.P 277 [ai s,ai [c]] C (.int .i64 (Lib.indexByte s c)):=by
 refine Uv func277 143 U3 fun w0=>Ul 1 [0,1] Z<|Ul 3 [0,1,5] Z<|Um 6 Z fun R a=>US U8<|C4 1 [0,1,5,16] a Z<|Uo (fun b=>?_) fun b=>?_
 ·refine Ul 1 [4] Z<|Ut U2<|⟨?_,Z⟩;have h:([c]:Str)=s:=by simpa using b
  subst h;simp [Lib.indexByte]
 refine Ul 3 [0,1,5,24] Z<|Uo (fun d=>?_) fun d=>?_
 ·exact Um 2 Z fun R a=>Vj U8 (fun _=>⟨by omega,(rfl:([c]:Str)[(0:Int).toNat]?=some c)⟩) U2<|Uy (DL _ s c) U7<|C4 1 [4] a Z<|Ut U2<|⟨Z,Z⟩
 exact absurd d am
theorem NQ (C:Mem)(s:Str)(c:UInt8)(g:s.length<1000000):Gives cx.P 246 [ai s,ai [c]] C (.tuple #[ai (kg c s).1,ai ((kg c s).2.getD []),.bool (kg c s).2.isSome]):=by
 refine Uv func246 23 U3 fun w0=>Ul 3 [0,1] Z<|Um 2 Z fun R b=>Uy (GU _ s c) U7<|C4 1 [0,1,7] b Z<|Ul 2 [0,1,7,12] Z<|Uo (fun d=>?_) fun d=>?_
 ·have h0:0<=Lib.indexByte s c:=by simpa using d
  obtain ⟨a,post,h1,h2,h3⟩:=Kz h0;have h:s.length=a.length+1+post.length:=by rw [h2];simp;omega
  rw [h1,h3];refine UJ [0,1,2,3,4,5,6,7,8,9,10,11] [] Z kr_ fun R i b=>Us 2 Z<|Vn 0 a.length U9 (fun _=>⟨.inl ⟨Z,Z⟩,.inr ⟨_,Z⟩,.inl ⟨Z,Z⟩,by omega,by omega,QG _⟩) U2<|Us 4 Z<|UX (((a.length+1:Nat):Int)) U4 am om_ om_ U2<|Vn (a.length+1) s.length U9 (fun _=>⟨.inr ⟨_,Z⟩,.inl ⟨Z,Z⟩,.inl ⟨Z,Z⟩,by omega,QG _,QG _⟩) U2<|C4 3 [4,5,6] b Z<|Uz (G.dropAll (Vl U4 ?_));refine ⟨?_,Z⟩;have e:(s.take a.length).drop 0=a:=by rw [h2];simp
  have f:(s.take s.length).drop (a.length+1)=post:=by rw [QV,h2];simp
  rw [e,f];rfl
 have h0:¬ 0<=Lib.indexByte s c:=by simpa using d
 rw [HB h0];refine Ul 4 [4,5,6] Z<|Uz (G.dropAll (Vl U4 ?_));exact ⟨Z,Z⟩
theorem LW (C:Mem)(s:Str)(c:UInt8)(a:s.length<1000000):Gives cx.P 206 [ai s,ai [c]] C (.tuple #[ai (kg c s).1,ai ((kg c s).2.getD []),.bool (kg c s).2.isSome]):=by
 refine Uv func206 13 U3 fun w0=>Ul 3 [0,1] Z<|Um 2 Z fun R b=>Uy (NQ _ s c a) U7<|C4 6 [4,5,6] b Z<|Uz (G.dropAll (Vl U4 ?_));exact ⟨Z,Z⟩
theorem yQ (C:Mem)(s:Str)(c:UInt8):Gives cx.P 280 [ai s,ai [c]] C (.bool (cM c s).2):=by
 refine Uv func280 18 U3 fun w0=>Ul 1 [0,1] Z<|Um 9 Z fun R d=>Vn 0 1 U9 (fun e=>⟨.inl ⟨Z,Z⟩,.inr ⟨_,Z⟩,.inl ⟨Z,Z⟩,by omega,(by have h:decide ((1:Int)<=(s.length:Int))=true:=e.1;simp at h;omega),QG _⟩) U2<|Us 2 Z<|UM U8<|C4 1 [4] d Z<|Ut U2<|⟨?_,Z⟩;cases s with
 | nil=>rfl
 | cons b s =>
  have h1:decide ((1:Int)<=((b::s).length:Nat))=true:=by simp;omega
  unfold cM;by_cases a:b=c
  ·subst a;simp;omega
  simp [a]
theorem Ky (C:Mem)(s:Str)(c:UInt8):Gives cx.P 278 [ai s,ai [c]] C (.tuple #[ai (cM c s).1,.bool (cM c s).2]):=by
 refine Uv func278 15 U3 fun w0=>Ul 2 [0,1] Z<|Um 2 Z fun R d=>Uy (yQ _ s c) U7<|C4 1 [0,1,9] d Z<|Uo (fun a=>?_) fun a=>?_
 ·have h:¬ s.head?=some c:=fun h=>by unfold cM at a;rw [aJ h] at a;cases a
  refine Ul 3 [4,5] Z<|Uz (G.dropAll (UO U3 ?_));unfold cM;rw [aB h];exact ⟨Z,Z⟩
 have h:s.head?=some c:=Rp fun h=>by unfold cM at a;rw [aB h] at a;cases a
 have e:1<=s.length:=by cases s with
  | nil=>cases h
  | cons b s=>simp
 refine Um 3 Z fun R d=>Vn 1 s.length U9 (fun _=>⟨.inr ⟨_,Z⟩,.inl ⟨Z,Z⟩,.inl ⟨Z,Z⟩,by omega,QG _,QG _⟩) U2<|C4 2 [4,5] d Z<|Uz (G.dropAll (UO U3 ?_));unfold cM;rw [aJ h];refine ⟨?_,Z⟩;rw [QV,List.drop_one];rfl
theorem HA (C:Mem)(s:Str)(c:UInt8):Gives cx.P 247 [ai s,ai [c]] C (.tuple #[ai (cM c s).1,.bool (cM c s).2]):=by
 refine Uv func247 11 U3 fun w0=>Ul 2 [0,1] Z<|Um 2 Z fun R a=>Uy (Ky _ s c) U7<|C4 4 [4,5] a Z<|Uz (G.dropAll (UO U3 ?_));exact ⟨Z,Z⟩
structure Tabs (C:Mem):Prop where
 pow : VarC cx.P C "internal/strconv.uint64pow10" (Lib.pow10Tab.map fun z => Value.int .u64 z).toArray
 db : VarC cx.P C "math/bits.deBruijn64tab" (Lib.deBruijn64tab.map fun z : Nat => Value.int .u8 (z : Int)).toArray
theorem Tabs.mono {C D:Mem}(h:Tabs C)(a:C.le D):Tabs D:=⟨h.pow.mono a,h.db.mono a⟩
theorem Tabs.m_ {D:Mem}(h:Tabs C)(a:C.le D:=by exact mup):Tabs D:=Tabs.mono h a
theorem LJ (C:Mem)(a:Tabs C)(n:Int)(b:-9223372036854775808<=n)(c:n<=9223372036854775807):Gives cx.P 123 [.int .i64 n] C (ai (Lib.itoa n)) :=
 Nq Tryz.itoa n b c C a.pow kr_
structure FV where
 b:Bool
 A:Option Addr
 n:Nat
 c:Nat
 A2:Option Addr
 n2:Nat
 c2:Nat
theorem split_fn (C:Mem)(s:Str):Gives cx.P 258 [ai s] C (.tuple #[.bool (cM 45 s).2,ai (cM 45 s).1]):=by
 refine Uv func258 17 U3 fun w0=>Ul 2 [0] Z<|Ul 2 [4] Z<|Um 5 Z fun R d=>Vj (b:=s.headD 0) U8 (fun e=>⟨by omega,(by
  cases s with
  | nil=>exact Bool.noConfusion (show false=true from e.1)
  | cons b s=>rfl)⟩) U2 ?_
 refine Up U6<|UM U8<|Ur [4,13] d Z<|Uo (fun a=>?_) fun a=>?_
 ·have c:s.head?=some 45:=by
   cases s with
   | nil=>cases a
   | cons b s =>
    have h1:b=45:=by
     refine T5.1 ?_;show b.toNat=45;simp at a;omega
    rw [h1];rfl
  have f:1<=s.length:=by cases s with
   | nil=>cases c
   | cons b s=>simp
  refine UJ [0,1,2,3] [] Z kr_ fun R g d=>Up U6<|Vn 1 s.length U9 (fun _=>⟨.inr ⟨_,Z⟩,.inl ⟨Z,Z⟩,.inl ⟨Z,Z⟩,by omega,QG _,QG _⟩) U2<|C4 2 [2,3] d Z<|Uz (G.dropAll (UO U3 ?_));unfold cM;rw [aJ c];refine ⟨?_,Z⟩;rw [QV,List.drop_one];rfl
 have c:¬ s.head?=some 45:=by
  cases s with
  | nil=>simp
  | cons b s =>
   intro h;have h1:b=45:=by simpa using h
   subst h1;simp at a
 refine Ul 3 [2,3] Z<|Uz (G.dropAll (UO U3 ?_));unfold cM;rw [aB c];exact ⟨Z,Z⟩
def xI (s:Str):Bool:=(cM 45 s).1.all eO && !((cM 45 s).1 == []) && !((cM 45 s).1.head? == some 48 && ((cM 45 s).2 || decide (1<(cM 45 s).1.length)))
def cK (s:Str):Bool:=xI s && decide ((cM 45 s).1.length<=200)
theorem Ch (C:Mem)(v:Value)(l:List Nat)(d:Sl C 1 v (l.map aL)):Pur cx.P 288 [v] C fun u C'=>Sl C' 1 u ((xv l).map aL):=by
 obtain ⟨o,c0,rfl,p,_⟩:=id d;simp only [aw] at d p ⊢;refine Uv func288 21 U3 fun w0=>Ul 1 [0] Z<|G.loop (fun fr C' q r=>∃ (k:Nat)(A:Option Addr)(c:Nat),(k<=l.length/\Sl C' 1 (.slice A k c) ((l.take k).map aL)/\D7 l l.length=D7 l k)/\fr=[(0,[],.slice A k c)]/\q=[]/\r=k+1) (hn_ [0] Z) ⟨l.length,o,c0,⟨QG _,by rw [QV];exact d,Z⟩,Z,Z,Z⟩ (fun fr F H m _ s=>?_);obtain ⟨k,A,c,⟨I,hs,g⟩,rfl,rfl,rfl⟩:=s;obtain ⟨_,J,t,w,_⟩:=id hs;have K:maxLen<=9223372036854775807:=by simp [maxLen]
 have L:k<=c:=by
  rw [aw,QW] at w;injection t with h1 h2 h3;omega
 have x:0<k->((l.take k).map aL)[((k:Int)-1).toNat]?=some (aL (gP l (k-1))):=fun h=>by
  rw [show ((k:Int)-1).toNat=k-1 by omega,QI,Rk,aJ om_,aj (by omega:k-1<l.length)];unfold gP;rw [al,aj (by omega:k-1<l.length)];rfl
 refine Um 7 Z fun R f=>Uw _ U7<|D.index U10 (fun i=>⟨hs,(by have h:decide ((0:Int)<(k:Int))=true:=i.1;simp at h;omega),x (by have h:decide ((0:Int)<(k:Int))=true:=i.1;simp at h;omega)⟩) fl_ Z fun M y=>UQ U6 y U3<|Up U6<|UM U8<|Ur [0,14] f Z<|Uo (fun b=>?_) fun b=>?_
 ·have a:0<k/\gP l (k-1)=0:=by
   have:(0:Int)<(k:Int)/\((gP l (k-1):Nat):Int)=0:=by simpa using b
   omega
  refine Um 3 Z fun R f=>UX (((k-1:Nat):Int)) U4 om_ om_ om_ U2<|Vf 0 (k-1) c U12 (fun _=>⟨.inl ⟨Z,Z⟩,.inr ⟨_,Z⟩,.inl ⟨Z,Z⟩,by omega,by omega,QG _⟩) U2<|C4 1 [0] f Z ?_;have n:=Sl.sub hs (l:=0) (h:=k-1) (m:=c) (QK _) ap om_ (QG _);have z:(((l.take k).map aL).take (k-1)).drop 0=(l.take (k-1)).map aL:=by
   rw [RQ,<- Tn,TO,R9 om_]
  rw [z] at n;have B:D7 l l.length=D7 l (k-1):=by
   rw [g];obtain ⟨j,rfl⟩:∃ j,k=j+1:=⟨k-1,by omega⟩;simp only [SV] at a ⊢;rw [D7,aJ];unfold gP at a;rw [al,aj om_] at a;rw [aj om_];exact congrArg some a.2
  refine UA (m':=k-1+1) om_ mup (hn_ [0] Z) ⟨k-1,_,c,⟨by omega,n.mono mup,B⟩,Z,Z,Z⟩
 have a:¬ (0<k/\gP l (k-1)=0):=fun E=>by
  have h1:(decide ((0:Int)<(k:Int)) && (((gP l (k-1):Nat):Int) == 0))=true:=by
   rw [E.2];simp;omega
  rw [h1] at b;cases b
 refine Ul 2 [2] Z<|Ut U2<|⟨Z, ?_⟩;have e:D7 l k=k:=by
  cases k with
  | zero=>rfl
  | succ j =>
   simp only [SV] at a;rw [D7,aB];intro h;refine a ⟨by omega, ?_⟩;unfold gP;rw [al,h];rfl
 unfold xv;rw [g,e];exact hs
theorem uQ (C:Mem)(v:Value)(l:List Nat)(a:l.length=n):Jog.Fn cx.P 288 [v] C [.arr v 3 1 n (l.map aL).flatten] fun u C' b=>b=[]/\Sl C' 1 u ((xv l).map aL) :=
 Jog.Fn.give (l.map aL) kr_ (by intro r hr;obtain ⟨y,_,rfl⟩:=QO.1 hr;rfl) (by rw [aw,a]) (fun C' _ hs=>Ch C' v l hs)
def PieC (C:Mem)(v:Value)(n:Nat):Prop:=∃ l,CO l/\bM l=n/\Sl C 1 v (l.map aL)
theorem Jz (C:Mem)(s t:Value)(a b:List Nat)(d:Sl C 1 s (a.map aL))(f:Sl C 1 t (b.map aL))(n:CO a)(o:CO b):Gives cx.P 289 [s,t] C (.bool (decide (bM a<bM b))):=by
 have Q:maxLen<=9223372036854775807:=by simp [maxLen]
 obtain ⟨A,c0,rfl,B,S,_⟩:=id d;obtain ⟨D,E,rfl,F,T,_⟩:=id f;simp only [aw] at d f B F ⊢;refine Uv func289 41 U3 fun w0=>Ul 1 [0,1] Z<|Ul 5 [0,1,10] Z<|Uo (fun g=>?_) fun g=>?_
 ·have U:a.length≠b.length:=fun e=>by
   rw [e] at g;simp at g
  refine Ul 6 [4] Z<|Ut U2<|⟨?_,Z⟩;congr 1;rw [Rv];rcases Rh a.length b.length with h | h
  ·have:=GG n.1 o h;constructor
   ·intro _;exact this
   intro _;omega
  have:=GG o.1 n om_;constructor <;> intro _ <;> omega
 have p:a.length=b.length:=by
  have:(a.length:Int)=b.length:=by simpa using g
  omega
 refine Um 2 Z fun R c=>Uw _ U7<|C4 1 [0,1,5] c Z<|G.loop (fun fr C' H I=>∃ (k:Nat),(k<=a.length/\a.drop k=b.drop k)/\fr=[(0,[],.slice A a.length c0),(1,[],.slice D b.length E),(5,[],.int .i64 ((k:Int)-1))]/\H=[]/\I=k+1) (hn_ [0,1,5] Z) ⟨a.length,⟨QG _,by rw [RW,p,RW]⟩,Z,Z,Z⟩ (fun fr V W m _ J=>?_);obtain ⟨k,⟨X,i⟩,rfl,rfl,rfl⟩:=J;refine Ul 2 [0,1,5,20] Z<|Uo (fun q=>?_) fun q=>?_
 ·have u:0<k:=by
   have:(0:Int)<=(k:Int)-1:=by simpa using q
   omega
  obtain ⟨j,rfl⟩:∃ j,k=j+1:=⟨k-1,by omega⟩;obtain ⟨x,l⟩:∃ x,a[j]?=some x:=⟨a[j],aj om_⟩;obtain ⟨y,hy⟩:∃ y,b[j]?=some y:=⟨b[j],aj om_⟩;have v:(a.map aL)[(((j+1:Nat):Int)-1).toNat]?=some (aL x):=by
   rw [show (((j+1:Nat):Int)-1).toNat=j by omega,QI,l];rfl
  have w:(b.map aL)[(((j+1:Nat):Int)-1).toNat]?=some (aL y):=by
   rw [show (((j+1:Nat):Int)-1).toNat=j by omega,QI,hy];rfl
  refine UJ [0,1,2,3,4,5,6,7,8] [] Z kr_ fun R K c=>Us 2 Z<|UD d.m_ U10 om_ v fl_ fun Y L=>Un L U8<|Us 2 Z<|UD f.m_ U10 om_ w fl_ fun aa M=>Un M U8<|C4 1 [0,1,5,31] c Z<|Uo (fun r=>?_) fun r=>?_
  ·have z:x≠y:=fun e=>by
    subst e;simp at r
   refine UJ [0,1,2,3,4,5,6,7,8,9] [] Z kr_ fun R K c=>Us 2 Z<|UD d.m_ U10 om_ v fl_ fun ab N=>Un N U8<|Us 2 Z<|UD f.m_ U10 om_ w fl_ fun ac O=>Un O U8<|C4 2 [4] c Z<|Ut U2<|⟨?_,Z⟩;congr 1;rw [Rv];rcases Rh x y with h | h
   ·have:=LZ n.1 p l hy h i;constructor
    ·intro _;exact this
    intro _;omega
   have:=LZ o.1 p.symm hy l om_ i.symm;constructor <;> intro _ <;> omega
  have z:x=y:=by
   have:(x:Int)=y:=by simpa using r
   omega
  refine Um 1 Z fun R c=>Uw _ U7<|C4 1 [0,1,5] c Z ?_;rw [show ((j+1:Nat):Int)-1-1=(j:Int)-1 by omega];refine UA (m':=j+1) om_ mup (hn_ [0,1,5] Z) ⟨j,⟨by omega,by
   rw [Re (by omega:j<a.length),Re (by omega:j<b.length),i,(aE.1 l).2,(aE.1 hy).2,z]⟩,rfl,rfl,rfl⟩
 have u:k=0:=by
  have:¬ (0:Int)<=(k:Int)-1:=by simpa using q
  omega
 subst u;refine Ul 1 [4] Z<|Ut U2<|⟨?_,Z⟩;have:a=b:=by simpa using i
 subst this;simp
theorem Hy {s:Str}{a:Nat}{c:UInt8}(d:a<=i)(b:s[i]?=some c):bX (gW s a (i+1))=10*bX (gW s a i)+(c.toNat-48):=by
 have f:=(aE.1 b).1;have e:gW s a (i+1)=gW s a i++[c]:=by
  unfold gW;rw [Q5,b,R5,Ty,QW,R9 om_,show a-i=0 by omega];rfl
 rw [e];unfold bX;rw [List.foldl_append];rfl
theorem Kw (s:Str)(a:Nat):gW s a a=[]:=by
 unfold gW;rw [List.drop_eq_nil_iff,QW];omega
theorem Mq (C:Mem)(s:Str)(g:∀ c∈s,eO c=true)(K:s.length<=100000):Pur cx.P 262 [ai s] C fun u D=>PieC D u (bX s):=by
 refine Uv func262 35 U3 fun w0=>Ul 1 [0] Z<|Ul 1 [0,3] Z<|Ul 3 [0,3,4] Z<|G.nilArr 3 1<|G.loop (fun fr C' d k=>∃ (e j:Nat)(b:Int)(out:List Nat)(w:Value),((b=e/\e+4*j=s.length∨b<=0/\e=0)/\-4<=b/\b<=100000/\e<=s.length/\out.length=j/\j<=100000/\DigP out/\bM out=bX (s.drop e))/\fr=[(0,[],ai s),(3,[],w),(4,[],.int .i64 b)]/\d=[.arr w 3 1 j (out.map aL).flatten]/\k=e+1) (hn_ [0,3,4] Z) ⟨s.length,0,(s.length:Int),[],_,⟨.inl ⟨Z,Z⟩,by omega,by omega,QG _,Z,by omega,(fun x B=>(by cases B)),by rw [RW];rfl⟩,Z,Z,Z⟩ (fun fr L M m _ l=>?_);obtain ⟨e,j,b,out,w,⟨q,N,O,Q,n,S,r,t⟩,rfl,rfl,rfl⟩:=l;refine Ul 2 [0,3,4,10] Z<|Uo (fun f=>?_) fun f=>?_
 ·obtain ⟨rfl,E⟩:b=e/\e+4*j=s.length:=by
   have h0:0<b:=by simpa using f
   rcases q with h | h
   ·exact h
   omega
  have v:0<e:=by
   have h0:(0:Int)<(e:Int):=by simpa using f
   omega
  refine Ul 1 [0,3,4,5] Z<|Um 1 Z fun R a=>Uw _ U7<|D.max (((e-4:Nat):Int)) U6 om_ U2<|C4 1 [0,3,4,5,6] a Z ?_;rw [show (Value.int .i64 0)=.int .i64 ((bX (gW s (e-4) (e-4)):Nat):Int) by rw [Kw];rfl];refine G.loop (fun fr C' d k=>∃ (i:Nat),(e-4<=i/\i<=e)/\fr=[(0,[],ai s),(3,[],w),(4,[],.int .i64 (e:Int)),(5,[],.int .i64 (bX (gW s (e-4) i):Nat)),(6,[],.int .i64 i)]/\d=[.arr w 3 1 j (out.map aL).flatten]/\k=e-i) (hn_ [0,3,4,5,6] Z) ⟨e-4,⟨QG _,by omega⟩,Z,Z,Z⟩ (fun fr T U m _ l=>?_);obtain ⟨i,⟨F,V⟩,rfl,rfl,rfl⟩:=l;refine Ul 3 [0,3,4,5,6,18] Z<|Uo (fun o=>?_) fun o=>?_
  ·have y:i<e:=by simpa using o
   obtain ⟨c,p⟩:∃ c,s[i]?=some c:=⟨s[i]'om_,aj _⟩;have z:=g c (QF p);have W:48<=c.toNat/\c.toNat<=57:=by unfold eO at z;simpa using z
   have X:bX (gW s (e-4) i)<10000:=Hz g om_;refine Um 1 Z fun R a=>UX (((10*bX (gW s (e-4) i):Nat):Int)) U4 om_ om_ om_ U2<|Us 2 Z<|Vj U8 (fun _=>⟨by omega,p⟩) U2<|Vb (c:=((c.toNat:Nat):Int)) U8 (by rw [IntKind.wrap_i64];omega) fl_<|UX (((10*bX (gW s (e-4) i)+c.toNat:Nat):Int)) U4 om_ om_ om_ U2<|UX (((10*bX (gW s (e-4) i)+(c.toNat-48):Nat):Int)) U4 om_ om_ om_ U2<|C4 1 [0,3,4,5,6] a Z<|Um 1 Z fun R a=>Uw _ U7<|C4 1 [0,3,4,5,6] a Z ?_;rw [<- Hy F p];refine UA (m':=e-(i+1)) om_ mup (hn_ [0,3,4,5,6] Z) ⟨i+1,⟨by omega,by omega⟩,Z,Z,Z⟩
  have y:i=e:=by
   have:¬ i<e:=by simpa using o
   omega
  subst y;refine Um 2 Z fun R a=>UI [aL (bX (gW s (i-4) i))] U12 fun Y _ _ H=>D.append (j:=0) U11 H Z ax (by show (j+1)*8<=_;omega) fl_ fun A=>C4 1 [0,3,4] a Z<|Um 1 Z fun R a=>Uw _ U7<|C4 1 [0,3,4] a Z<|UE (L':=[.arr A 3 1 (j+1) ((out++[bX (gW s (i-4) i)]).map aL).flatten]) (by simp [aL])<|UA (m':=i-4+1) om_ mup (hn_ [0,3,4] Z) ⟨i-4,j+1,(i:Int)-4,out++[bX (gW s (i-4) i)],A,⟨by
   rcases Rh i 4 with h | h
   ·exact .inr ⟨by omega,by omega⟩
   exact .inl ⟨by omega,by omega⟩,by omega,by omega,by omega,by simp [n],by omega,r.snoc (Hz g om_),E1 E n om_ t⟩,Z,Z,Z⟩
 have v:e=0:=by
  have h0:¬ 0<b:=by simpa using f
  rcases q with h | h
  ·omega
  exact h.2
 refine UN [(1,3)] Z fun R a=>Up U6<|D.call (uQ _ _ out n) Z (.inr dc_) U6 (QL _) fl_ (fun aa _ ab _ I=>?_);obtain ⟨rfl,J⟩:=I;refine C4 1 [2] a Z<|Ut U2<|⟨Z,xv out,ml r, ?_,J⟩;rw [iB,t,v,RQ]
end Go.Proofs.YthnpijdjlddpmaaGreatDoor
