/- Laws that the proofs of this seat share, part 5. -/
import Derived.Test.YthnpijdjlddpmaaGreatDoorG4
import Derived.Test.YthnpijdjlddpmaaGreatDoorShelf
import Derived.Sort.Walk0
import Derived.Shelf.SlSortCmp.Insertion
import Derived.Test.YthnpijdjlddpmaaGreatDoorProg
import Derived.RangeFuncBox
import Derived.RangeFuncLeaves
import Derived.Shelf.Abstract
import Derived.WalkKit
import Derived.OwnWalkIn
import Derived.TacticsInMore
import Derived.LoopNIn
import Derived.LoopIn
set_option maxHeartbeats 4000000
namespace Go.Jog
open Go
variable {C C1:Mem}{L:List Ent}{P:Program}{W:World}{assign body:Code}{fn l:Nat}{tmps:Array Value}{w:World}
theorem Sep.lessC (h:Sep C1 L w)(a:C.le C1):Sep C L w :=
 ⟨fun b o f=>h.c b o (a b o f),h.e,h.d,fun k g=>by
  cases i:C k with
  | none=>rfl
  | some o=>have:=a k o i;rw [h.n k g] at this;cases this⟩
theorem St.up {m:Mem}{g:List Ent}{j:World}(a:Sep C1 L W)(k:St W C L m g j):St W C1 L C1 g j:=by
 refine ⟨⟨fun b o f=>?_,k.sep.e,k.sep.d,fun i p=>?_⟩,k.ev,Mem.le.refl _,fun _ _ h=>.inl h,k.ln⟩
 ·rw [k.ev.block b (ck (a.c b o f)) (fun q=>by have:=a.n b q;rw [f] at this;cases this)];exact a.c b o f
 cases l:C1 i with
 | none=>rfl
 | some o =>
  rcases k.ln i p with h | h
  ·have:=ck (a.c i o l);omega
  have:=a.n i h;rw [l] at this;cases this
theorem Sep.front {b f:List Ent}(h:Sep C (b++f) w):Sep C b w :=
 ⟨h.c,fun x a=>h.e x (Sp _ a),(TH.1 h.d).1,fun k ⟨x,a,g⟩=>h.n k ⟨x,Sp _ a,g⟩⟩
def YC (P:Program)(l:Nat)(vs:List Value)(C:Mem)(L:List Ent)(R:Bool->List Ent->Prop):Prop :=
 ∀ W,Sep C L W->YieldAt Fence.wide 1 P l vs.toArray W fun e W'=>∃ b L1,e=.returned (.bool b)/\R b L1/\St W C L C L1 W'
theorem yq {R:Ending->World->Prop}{m n:Nat}{r:Option Nat}(h:RoundIn Fence.wide m P l fn tmps assign body W R):RoundIn (Fo r) n P l fn tmps assign body W R :=
 ⟨trivial,fun c cs _=>h.2 c cs (room_wide _)⟩
theorem Fv {a:Act}{o:Oper}{f:Operand}{b:Array Operand}{d:Array TypeId}{c:List Value}
  (e:o.op=.call ⟨.value f,b,d⟩) (g:a.eval f=.func (.yield l) #[] #[]) (h:b.toList.map a.eval=c) (i:(Instr.yield l c.toArray).run P w=.ok (.round l fn tmps assign body) w) :
  (execOp a.eval o).run P w=.ok (.round l fn tmps assign body) w:=by
 have j:execOp a.eval o=(do let dd <- resolve a.eval ⟨.value f,b,d⟩ o.type;invoke dd.target dd.args:Sem Next):=by unfold execOp;rw [e]
 have k:b.map a.eval=c.toArray:=by apply Sz;rw [<- h];simp
 rw [j];simp only [resolve,g,Deferred.ofValue,k,Sem.run_bind,Sem.run_pure,Result.andThen_ok,invoke];simpa using i
def YW (P:Program)(W:Cw P)(r:Option Nat)(n:Nat):Prop:=∀ {c:Code}{Q:Exit->Act->World->Prop}{a:Act}{w:World},c.wpIn (Fo r) n P Q a w->W.wp c Q a w
theorem YW.plain (P:Program):YW P (Cw.plain P) none 3:=fun h=>(wpIn_wide (n:=3)).1 h
end Go.Jog
namespace Go.Jog
open Go
def Jv:List (Nat × Value)->Fr->Fr
 | [],fr=>fr
 | (p,v)::l,fr=>Jv l ((p,[],v)::fr)
def Bv (n:Nat):List (Nat × Value)->Fr->Bool
 | [],_=>true
 | (p,v)::l,fr=>aQ n [] ((p,[],v)::fr) p && Bv n l ((p,[],v)::fr)
theorem FrOk.puts {n:Nat}:∀ {l:List (Nat × Value)}{fr:Fr}{t:Array Value},FrOk n [] [] fr { tmps:=t,defers:=[] }->Bv n l fr=true->FrOk n [] [] (Jv l fr) { tmps:=l.foldl (fun t x=>t.setIfInBounds x.1 x.2) t,defers:=[] }
 | [],_,_,h,_=>h
 | (p,v)::l,fr,t,h,a=>by
  simp only [Bv,Q1] at a;have h1:=FrOk.put (u:=v) h a.1 ⟨fun _=>rfl,fun b=>absurd (fun p c=>by cases c) b⟩;exact FrOk.puts (l:=l) ⟨h1.size,Z,h1.ent⟩ a.2
def IC:Exit->Option Code
 | .ret=>some .ret
 | .exit id=>some (.exit id)
 | _=>none
end Go.Jog
namespace Go.Jog
open Go
def IterM (P:Program)(gf:FuncId)(fb lb:Array Value)(C:Mem)(M0:List Ent)(vss:List (List Value)):Prop :=
 ∀ (l:Nat)(I X:Nat->List Ent->Prop)(L:List Ent),(∀ k v L',vss[k]?=some v->I k L'->YC P l v C L' (fun b L1=>(b=true/\I (k+1) L1)∨(b=false/\X k L1)))->I 0 L ->
  ∀ W,Sep C (M0++L) W->CallsIn Fence.wide 2 P gf (fb++#[.func (.yield l) #[] #[]]++lb) W fun e W'=>(∃ v,e=.returned v)/\∃ M' L',(I vss.length L'∨∃ k,k<vss.length/\X k L')/\St W C (M0++L) C (M'++L') W'
def EndM (n:Nat)(I X:Nat->List Ent->Prop)(L2:List Ent):Prop:=∃ M' L',L2=M'++L'/\(I n L'∨∃ k,k<n/\X k L')
theorem IterM.intro {a:Cx}{f:FuncId}{g:Func}{c:Code}{fb lb:List Value}{C:Mem}{i:List Ent}{j:List (List Value)}(m:Enters a.P f=true)(o:a.P.funcs[f]?=some g)(p:g.body=some c)
  (n:Nat) (q:g.ntmps=n) (r:Nat.ble (fb++.func (.yield 0) #[] #[]::lb).length n=true)
  (h:∀ (l:Nat)(I X:Nat->List Ent->Prop)(L:List Ent),(∀ k v d,j[k]?=some v->I k d->YC a.P l v C d (fun b L1=>(b=true/\I (k+1) L1)∨(b=false/\X k L1)))->I 0 L ->
   ∀ w0,G ⟨a,g,n,⟨w0,C,i++L⟩,fun _ _ d=>EndM j.length I X d,Cw.plain a.P,[],bodyPost a.P g (nM ⟨w0,C,i++L⟩ fun _ _ d=>EndM j.length I X d)⟩
    (iI 64 [.code c]) .normal (xJ (fb++.func (.yield l) #[] #[]::lb) 0) C (i++L)):IterM a.P f fb.toArray lb.toArray C i j:=fun l I X L hy h0 W s=>by
 have t:=Fn.intro (args:=fb++.func (.yield l) #[] #[]::lb) m o p n q (by rw [<- r];congr 1;simp) (h l I X L hy h0);have e:(fb.toArray++#[Value.func (.yield l) #[] #[]]++lb.toArray)=(fb++Value.func (.yield l) #[] #[]::lb).toArray:=by simp
 rw [e];refine callsIn_wide.2 ((t.2 W s).mono fun e w' ⟨v,C',d,u,hs,w,x,y,z⟩=>⟨⟨v,u⟩,w,x,z, ?_⟩);subst y;exact St.less hs (Mem.le.refl _) hs.c0
theorem St.dropFront {a:World}{b:Mem}{c:List Ent}{C:Mem}{W:World}:∀ (M:List Ent){L:List Ent},St a b c C (M++L) W->St a b c C L W
 | [],_,h=>h
 | _::M,_,h=>St.dropFront M h.drop
section
variable {F:Fx} {k:List KI} {fr:Fr} {C:Mem} {L:List Ent}
theorem Xt {g:Operand}{ps:List Nat}{assign body:Code}{gf:FuncId}{fb lb:Array Value}{vss:List (List Value)}(hW:F.W=Cw.plain F.cx.P)
  (hg:ev fr [] g=some (.func (.func gf) fb lb)) (hen:Enters F.cx.P gf=true) {M0 Lr:List Ent} (hseq:IterM F.cx.P gf fb lb C M0 vss) (hL:L.Perm (M0++Lr)) (hps:∀ v∈vss,v.length=ps.length)
  (I:Nat->List Ent->Prop) (X:Code->Nat->List Ent->Prop) (h0:I 0 Lr)
  (hok:∀ v∈vss,Bv F.n (ps.zip v) fr=true) (A:Nat->List Ent->Fr->List Ent->Prop)
  (hassign:∀ l j v L' W1,I j L'->vss[j]?=some v->G ⟨F.cx,F.fn,F.n,⟨W1,C,L'⟩,F.post,Cw.round F.cx.P l 1,[],fun e a w'=>e=.normal/\∃ frA LA,A j L' frA LA/\FrOk F.n [] [] frA a/\St W1 C L' C LA w'⟩ (iI 64 [.code assign]) .normal (Jv (ps.zip v) fr) C L')
  (hbody:∀ l j v L' frA LA W1,I j L'->vss[j]?=some v->A j L' frA LA ->
   G ⟨F.cx,F.fn,F.n,⟨W1,C,LA⟩,F.post,Cw.round F.cx.P l 1,[],fun e _ w'=>(e=.normal/\∃ L1,I (j+1) L1/\St W1 C LA C L1 w')∨(∃ c L1,IC e=some c/\X c j L1/\St W1 C LA C L1 w')⟩ (iI 64 [.code body]) .normal frA C LA)
  (hdone:∀ D L',I vss.length L'->G { F with dd:={ target:=.collected D,args:=#[] }::F.dd } (iI 64 k) .normal fr C (.obj D (.deferred (some []))::L'))
  (hstop:∀ D j c L',j<vss.length->X c j L'->G { F with dd:={ target:=.collected D,args:=#[] }::F.dd } (.code c::k) .normal fr C (.obj D (.deferred (some []))::L')) :
  G F (.code (.rangeFunc g ps.toArray assign body)::k) .normal fr C L:=fun hle a w ha hw=>by
 simp only [Kq,hW];show (Code.rangeFunc g ps.toArray assign body).wp F.cx.P (Kq F k) a w;refine (wpIn_wide (n:=3)).1 (wpIn_rangeFunc fun fn _=>?_);have hga:a.eval g=.func (.func gf) fb lb:=bI ha (fun p hp=>by cases hp) hg;obtain ⟨rec,hrec⟩:∃ rec:LoopState->Option Code->Loop,rec=fun st pe=>{ state:=st,pending:=pe,fn,tmps:=a.tmps,params:=ps.toArray,assign,body,defers:=w.heap.size }:=⟨_,rfl⟩;obtain ⟨z,hz⟩:∃ z,w.heap.size=z:=⟨_,rfl⟩;obtain ⟨W1,hW1⟩:∃ W1,(w.alloc (.deferred (some []))).alloc (.loop (rec .ready none))=W1:=⟨_,rfl⟩;have hS1:St F.b.w0 F.b.C0 F.b.L0 C (M0++.obj (z+1) (.loop (rec .ready none))::.obj z (.deferred (some []))::Lr) W1:=by
  have:=St.alloc (St.alloc (St.perm hw hL) (.deferred (some []))) (.loop (rec .ready none));rw [World.size_alloc,hz] at this;rw [<- hW1];exact St.perm this (((QW [_,_]).append Rv).trans (Rv (l₁:=[_,_]++Lr)))
 refine ⟨z+1,[{ target:=.collected z,args:=#[] }],W1,{ target:=.fn (.func gf) lb,args:=fb++#[.func (.yield (z+1)) #[] #[]] },W1,gf,
  fb++#[.func (.yield (z+1)) #[] #[]]++lb,W1, ?_, ?_,fun _ _=>trivial, ?_,fun _=>by decide, ?_⟩
 ·rw [<- hW1,hrec,<- hz];exact run_enterLoop_outer _ _ _ _ _
 ·simp only [resolve,hga];simp [go_sem]
 ·simp [invoke,go_sem,eY hen]
 refine (hseq (z+1) (fun j L2=>∃ L',I j L'/\L2=.obj (z+1) (.loop (rec .ready none))::.obj z (.deferred (some []))::L')
  (fun j L2=>∃ c L',X c j L'/\L2=.obj (z+1) (.loop (rec .done (some c)))::.obj z (.deferred (some []))::L') _ ?_ ⟨Lr,h0,rfl⟩ W1 hS1.sep).mono ?_
 ·rintro j v L2 hj ⟨L',hi,rfl⟩ W hW0;have hmem:v∈vss:=QQ hj;have hs:=St.start hW0;have hl:W.heap[z+1]?=some (.loop (rec .ready none)):=hs.sep.e _ (Qb ..);have hy:=run_yield (P:=F.cx.P) (args:=v.toArray) hl (by rw [hrec];simp [hps v hmem]);rw [hrec] at hy;have hzz:(ps.toArray.zip v.toArray).foldl (fun tmps (x:Nat × Value)=>match x with | (t,a)=>tmps.setIfInBounds t a) a.tmps=(ps.zip v).foldl (fun t x=>t.setIfInBounds x.1 x.2) a.tmps:=by simp
  dsimp only at hy;rw [hzz] at hy;refine ⟨fn,_,assign,body,hy,roundIn_of_wpIn trivial ?_⟩;have hfr:FrOk F.n [] [] (Jv (ps.zip v) fr) { tmps:=(ps.zip v).foldl (fun t x=>t.setIfInBounds x.1 x.2) a.tmps,defers:=[] } :=
   FrOk.puts ⟨ha.size,rfl,ha.ent⟩ (hok v hmem)
  have hA:=VO (hassign (z+1) j v L' W hi hj) (Mem.le.refl _) hfr (St.start hs.drop.drop.sep);refine wpIn_mono hA (fun e a1 W2 q=>?_);obtain ⟨rfl,frA,LA,hAA,hfr1,hs1⟩:=q;have hs2a:=St.call (Lp:=L') (Lr:=[.obj (z+1) (.loop (rec .ready none)),.obj z (.deferred (some []))]) (St.perm hs (Rv (l₁:=[_,_]))) hs1;have hs2:St W C (.obj (z+1) (.loop (rec .ready none))::.obj z (.deferred (some []))::L') C (.obj (z+1) (.loop (rec .ready none))::.obj z (.deferred (some []))::LA) W2:=St.perm hs2a (Rv (l₂:=[_,_]));have hl2:W2.heap[z+1]?=some (.loop (rec .ready none)):=hs2.sep.e _ (Qb ..);refine ⟨_,run_beginRound hl2 (by rw [hrec]), ?_⟩;have hs3:St W C (.obj (z+1) (.loop (rec .ready none))::.obj z (.deferred (some []))::L') C (.obj (z+1) (.loop (rec .busy none))::.obj z (.deferred (some []))::LA) (W2.putObj (z+1) (.loop { rec .ready none with state:=.busy })):=by
   have:=St.putObj (o':=.loop { rec .ready none with state:=.busy }) hs2;rw [hrec] at this ⊢;exact this
  have hB:=VO (hbody (z+1) j v L' frA LA (W2.putObj (z+1) (.loop { rec .ready none with state:=.busy })) hi hj hAA) (Mem.le.refl _) hfr1 (St.start hs3.drop.drop.sep);refine wpIn_mono hB (fun e a2 W4 q=>?_);have back:∀ L1,St (W2.putObj (z+1) (.loop { rec .ready none with state:=.busy })) C LA C L1 W4->St W C (.obj (z+1) (.loop (rec .ready none))::.obj z (.deferred (some []))::L') C (.obj (z+1) (.loop (rec .busy none))::.obj z (.deferred (some []))::L1) W4:=fun L1 hs4=>by
   have hs5:=St.call (Lp:=LA) (Lr:=[.obj (z+1) (.loop (rec .busy none)),.obj z (.deferred (some []))]) (St.perm hs3 (Rv (l₁:=[_,_]))) hs4;exact St.perm hs5 (Rv (l₂:=[_,_]))
  have leave:∀ (c:Code) L1,X c j L1->St (W2.putObj (z+1) (.loop { rec .ready none with state:=.busy })) C LA C L1 W4->∃ v W5,(Instr.endRound (z+1) (some c)).run F.cx.P W4=.ok v W5/\∃ b L2,Ending.returned v=.returned (.bool b) /\
    ((b=true/\∃ L',I (j+1) L'/\L2=.obj (z+1) (.loop (rec .ready none))::.obj z (.deferred (some []))::L')∨(b=false/\∃ c L',X c j L'/\L2=.obj (z+1) (.loop (rec .done (some c)))::.obj z (.deferred (some []))::L')) /\
    St W C (.obj (z+1) (.loop (rec .ready none))::.obj z (.deferred (some []))::L') C L2 W5:=fun c L1 hX hs4=>by
   have hs6:=back L1 hs4;have hl4:W4.heap[z+1]?=some (.loop (rec .busy none)):=hs6.sep.e _ (Qb ..);refine ⟨_,_,run_endRound (some c) hl4,false,_,Z,.inr ⟨Z,c,L1,hX,Z⟩, ?_⟩;have:=St.putObj (o':=.loop { rec .busy none with state:=if (some c).isNone then .ready else .done,pending:=some c }) hs6;rw [hrec] at this ⊢;exact this
  rcases q with ⟨rfl,L1,hi1,hs4⟩ | ⟨c,L1,hc,hX,hs4⟩
  ·have hs6:=back L1 hs4;have hl4:W4.heap[z+1]?=some (.loop (rec .busy none)):=hs6.sep.e _ (Qb ..);refine ⟨_,_,run_endRound none hl4,true,_,Z,.inl ⟨Z,L1,hi1,Z⟩, ?_⟩;have:=St.putObj (o':=.loop { rec .busy none with state:=if (none:Option Code).isNone then .ready else .done,pending:=none }) hs6;rw [hrec] at this ⊢;exact this
  cases e <;> simp only [IC] at hc <;> cases hc
  ·exact leave _ L1 hX hs4
  exact leave _ L1 hX hs4
 rintro e W2 ⟨⟨v,rfl⟩,M',L2,hL2,hs⟩;have hs':St F.b.w0 F.b.C0 F.b.L0 C L2 W2:=by
  have:=St.call (Lr:=[]) (by rw [Rf];exact hS1) hs;rw [Rf] at this;exact St.dropFront M' this
 have hfr:FrOk F.n [] ({ target:=.collected z,args:=#[] }::F.dd) fr { a with defers:=[{ target:=.collected z,args:=#[] }]++a.defers }:=⟨ha.size,by rw [ha.defers];rfl,ha.ent⟩;rcases hL2 with ⟨L',hi,rfl⟩ | ⟨j,hj,c,L',hX,rfl⟩
 ·have hl:W2.heap[z+1]?=some (.loop (rec .ready none)):=hs'.sep.e _ (Qb ..);refine ⟨none,_,by have:=run_endLoop (P:=F.cx.P) hl (by rw [hrec];simp);rw [hrec] at this;exact this, ?_⟩;have hs2:St F.b.w0 F.b.C0 F.b.L0 C (.obj z (.deferred (some []))::L') (W2.putObj (z+1) (.loop { rec .ready none with state:=.exhausted })):=(St.putObj hs').drop;have:=Vh 64 (hdone z L' hi) hle _ _ hfr hs2;rw [xN] at this;rw [hrec] at this;exact this
 have hl:W2.heap[z+1]?=some (.loop (rec .done (some c))):=hs'.sep.e _ (Qb ..);refine ⟨some c,_,by have:=run_endLoop (P:=F.cx.P) hl (by rw [hrec];simp);rw [hrec] at this;exact this, ?_⟩;have hs2:St F.b.w0 F.b.C0 F.b.L0 C (.obj z (.deferred (some []))::L') (W2.putObj (z+1) (.loop { rec .done (some c) with state:=.exhausted })):=(St.putObj hs').drop;have:=hstop z j c L' hj hX hle _ _ hfr hs2;rw [xN] at this;simp only [Kq,hW] at this;rw [hrec] at this;exact (wpIn_wide (n:=3)).2 this
theorem Xr {id:Nat}{l:List Oper}(y:Nat)(t j:List Nat)(H:List (Nat × Nat)){r:Option Nat}{n:Nat}(aj:YW F.cx.P F.W r n)(m:fr.all (fun x=>x.2.1.isEmpty)=true)(ak:gk l.toArray=true)
  (hB:t++y::j=List.range l.toArray.size)
  (V:((t++y::j).all (fun i=>Nat.blt i l.length) && (!t.contains y && !j.contains y))=true)
  {f:Operand} {X:Array Operand} {ts:Array TypeId} {d:Nat} (Y:(kb l y).op=.call ⟨.value f,X,ts⟩) (hd:(kb l y).dst=some d)
  (h:∀ R:Rg F.n (l.map (·.dst)),C.le R.b.C0 ->
   (∀ {lp:Nat}{vs:List Value}{M Lo:List Ent}{N:Mem}{O:Bool->List Ent->Prop}{o:Fr}{C1:Mem}{L1:List Ent},YC F.cx.P lp vs N M O->N.le C1->gOn (l.map (·.dst)) o (kb l y).guard=true->∀ {g:GL},gOf (l.map (·.dst)) o (kb l y).guard=some g->ev o g f=some (.func (.yield lp) #[] #[]) ->
    kc (ev o g) X.toList=some vs->L1.Perm (M++Lo)->(∀ v,aQ F.n (l.map (·.dst)) ((d,[],v)::o) d=true) ->
    (∀ b B,O b B->∀ q:Rg F.n (l.map (·.dst)),C.le q.b.C0->(∀ fr C L,fr.all (fun x=>x.2.1.isEmpty)=true->G F (iI 64 k) .normal fr C L->D F.cx q [] fr C L)->D F.cx q (gF l H j) ((d,[],.bool b)::o) C1 (B++Lo)) ->
    D F.cx R [] o C1 L1) ->
   D F.cx R (gF l H t) fr C L) :
  G F (.code (.region id l.toArray false)::k) .normal fr C L:=fun h0 a w E z=>by
 simp only [Kq];simp only [Q1,Ty,List.all_cons,Td,List.contains_eq_mem,Ri] at V;obtain ⟨⟨al,aa,am⟩,an,ao⟩:=V
 let kd:=fun i=>ovr H i (gb (kb l i))
 let b:Bs:=⟨F.b.w0,C,F.b.L0⟩
 let Post:Act->Mem × List Ent->Prop:=fun a κ=>∀ w,b.cls κ w->Kq F k .normal a w
 let q:Rg F.n (l.map (·.dst)):=⟨b,l.toArray,kd,Post,fun tmps=>el l tmps,F.dd⟩
 let ap:Act->Mem × List Ent->Prop:=fun a κ=>DY r n y F.cx.P l.toArray b.cls kle kd Post (y::j) a κ
 let R1:Rg F.n (l.map (·.dst)):=⟨b,l.toArray,kd,ap,fun tmps=>el l tmps,F.dd⟩
 have un:∀ κ w,b.cls κ w->F.b.cls κ w:=fun κ w I=>St.unbase h0 z.cn I;have aq:∀ fr C L,fr.all (fun x=>x.2.1.isEmpty)=true->G F (iI 64 k) .normal fr C L->D F.cx q [] fr C L:=fun fr C' L m hG Q _ a E w z=>Vh 64 hG (h0.trans Q) a w ⟨E.size,E.defers,fun s g v J=>by
  have hm:=Q4.1 m _ (Fr.get_mem J);simp only [Th] at hm;subst hm;exact ⟨fun _=>(E.ent s [] v J).1 (fun p m=>by cases m),fun S=>absurd (fun p m=>by cases m) S⟩⟩ (un _ _ z)
 have ab:∀ (R:Rg F.n (l.map (·.dst)))(T:List Nat),R.ops=l.toArray->R.kd=kd->T.all (fun i=>Nat.blt i l.length)=true->∀ x∈gF l H T,R.kd x.1=x.2.1/\R.ops[x.1]?=some x.2.2:=fun R T ho hk ar x U=>by
  obtain ⟨h1,h2,h3⟩:=gE U;refine ⟨by rw [hk];exact h2.symm, ?_⟩;have ac:=Q4.1 ar x.1 h1;rw [TZ] at ac;rw [ho,R4,fK ac,h3]
 rw [TZ] at aa;have au:l.toArray[y]?=some (kb l y):=by rw [R4,fK aa]
 have hD:=h R1 (Mem.le.refl _) (fun {lp vs M Lo N O o C1 L1} hY av J g aw hf ax hL ay az Q _ A K=>by
  show yh r n y F.cx.P l.toArray b.cls kle (kd y) y (DY r n y F.cx.P l.toArray b.cls kle kd Post j) A (C1,L1);unfold yh;rw [aW rfl];intro w1 aA;unfold wpOpIn;rw [au];simp only;have ad:Region.wanted (kb l y) (yielded l.toArray A.tmps)=true:=oC (fun tmps=>el l tmps) K J;rw [aW ad];refine ⟨fun _ _=>trivial, ?_⟩;have ae:=St.perm aA hL;have af:=ae.sep.front;obtain ⟨fn,tmps,assign,body,hy,hR⟩:=hY w1 (af.lessC av);have ag:∀ x u,ev o g x=some u->A.eval x=u:=fun x u U=>bI K ((jx (fun tmps=>el l tmps) K aw).1 ad) U;show Oper.uponIn (Fo r) n F.cx.P (kb l y) A _ _ (((kb l y).semAt r A.eval).run F.cx.P w1);rw [Oper.semAt_eq r A.eval (kb l y) (fun c I=>by rw [Y] at I;cases I),Fv Y (ag _ _ hf) (er ag ax) hy];rw [Oper.uponIn_round];refine ⟨(fun h=>(by cases h)),(yq hR).mono fun e W' ⟨bb,B,he,aB,hs⟩=>?_⟩;subst he;refine ⟨(C1,B++Lo),St.call ae (St.up af hs), ?_⟩;have ah:=az bb B aB q (Mem.le.refl _) aq Q (ab q j rfl rfl am) _ (K.put (ay (.bool bb)) ⟨fun _=>rfl,fun S=>absurd (fun p m=>by cases m) S⟩);rw [dY] at ah;have:=vn (r:=r) (n:=n) (y:=y) (ρ:=[]) (Post:=Post) (fun _ _ h=>h) j _ _ ao ah;rw [Rf] at this;rw [hd];exact this) (Mem.le.refl _) (ab R1 t Z Z al) a (E.enter _ m)
 rw [dY] at hD;have ai:=vn (r:=r) (n:=n) (y:=y) (ρ:=y::j) (Post:=Post) (fun _ _ h=>h) t _ _ an hD;rw [hB] at ai;exact aj (nI ak (cls:=b.cls) (le:=kle) kle.refl (St.rebase z) ai (fun a κ w hP z=>hP w z))
end
end Go.Jog
namespace Go.Jog
open Go
section
variable {cx:Cx} {fn:Func} {n:Nat} {fr:Fr} {C C':Mem} {L L1 LA:List Ent} {W1:World} {post:Value->Mem->List Ent->Prop} {W:Cw cx.P}
theorem Xm {A:Fr->List Ent->Prop}(b:Fr)(d:Has fr b)(f:A b LA) :
  G ⟨cx,fn,n,⟨W1,C,L⟩,post,W,[],fun e a w'=>e=.normal/\∃ c LA,A c LA/\FrOk n [] [] c a/\St W1 C L C LA w'⟩ [] .normal fr C' LA:=fun g _ _ h i =>
 ⟨rfl,b,LA,f,h.weaken d.sub,St.less i (Mem.le.refl _) g⟩
theorem Xw {I:List Ent->Prop}{X:Code->List Ent->Prop}{e:Exit}{c:Code}(a:IC e=some c)(b:X c L1) :
  G ⟨cx,fn,n,⟨W1,C,L⟩,post,W,[],fun e _ w'=>(e=.normal/\∃ L1,I L1/\St W1 C L C L1 w')∨(∃ c L1,IC e=some c/\X c L1/\St W1 C L C L1 w')⟩ [] e fr C' L1:=fun d _ _ _ f =>
 .inr ⟨c,L1,a,b,St.less f (Mem.le.refl _) d⟩
end
end Go.Jog
namespace Go.Jog
open Go
section
variable {cx:Cx} {fn:Func} {n:Nat} {fr:Fr} {C C':Mem} {L L1 LA:List Ent} {W1:World} {post:Value->Mem->List Ent->Prop} {W:Cw cx.P}
theorem Wx {Ds:List Nat}{b:Bs}{e:Exit}(k:e=.ret∨e=.normal){v:Value}
  (f:∀ a w,FrOk n [] (Ds.map zi) fr a->St b.w0 b.C0 b.L0 C L w->(results fn a.tmps).run cx.P w=.ok v w) (h:post v C []) :
  G ⟨cx,fn,n,b,post,Cw.plain cx.P,Ds.map zi,bodyPostM Fence.wide 3 cx.P fn (nM b post)⟩ [] e fr C (Ds.map rB++L):=fun p a w g c=>by
 have l:LeavesInM Fence.wide 3 cx.P fn a.tmps (nM b post) a.defers .returning w:=by
  have i:=g;rw [g.defers];have m:∀ (d:List Nat)(w:World),St b.w0 b.C0 b.L0 C (d.map rB++L) w->LeavesInM Fence.wide 3 cx.P fn a.tmps (nM b post) (d.map zi) .returning w:=by
   intro d;induction d with
   | nil=>exact fun w c=>⟨v,f a _ i c,v,C,[],rfl,St.dropAll c,h⟩
   | cons D d o =>
    intro w c;have j:w.heap[D]?=some (.deferred (some [])):=c.sep.e _ (Qb ..);have hs:=(St.putObj (o':=.deferred none) c).drop;cases d with
    | nil=>exact ⟨by simp,.inl ⟨D,_,rfl,run_takeDeferred j,v,f a _ i hs,v,C,[],rfl,St.dropAll hs,h⟩⟩
    | cons E d=>exact ⟨by simp,.inl ⟨D,_,rfl,run_takeDeferred j,o _ hs⟩⟩
  exact m Ds w c
 rcases k with rfl | rfl <;> exact l
end
end Go.Jog
namespace Go.Jog
open Go
theorem FE {c:Cx}{d:Func}{n s t b u D E p G H:Nat}{g:Fr}{C:Mem}{L:List Ent}{h:List Deferred}{i:World}{j:Mem}{k:List Ent}{M N O:TypeId}{Q R S:Nat × Nat}{I J K:List Value}{l m o:TI}{y z x:Value}(U:Ent.obj b (.cells ⟨I⟩ M Q)∈L)(V:Ent.obj E (.cells ⟨J⟩ N R)∈L)(W:Ent.obj H (.cells ⟨K⟩ O S)∈L)(X:d.results=#[.cell s t,.cell u D,.cell p G])
  (Y:ev g [] (.tmp s)=some (.pointer (some ⟨b,0,none⟩))) (Z:ev g [] (.tmp u)=some (.pointer (some ⟨E,0,none⟩))) (aa:ev g [] (.tmp p)=some (.pointer (some ⟨H,0,none⟩))) (ht:c.T.get t=some l) (hv:cA l (I.take l.size)=some y) (ab:c.T.get D=some m) (ac:cA m (J.take m.size)=some z) (ad:c.T.get G=some o) (ae:cA o (K.take o.size)=some x) :
  ∀ a w,FrOk n [] h g a->St i j k C L w->(results d a.tmps).run c.P w=.ok (.tuple #[y,z,x]) w:=fun a w q r=>by
 have v:=bI q (fun p f=>by cases f) Y;have A:=bI q (fun p f=>by cases f) Z;have B:=bI q (fun p f=>by cases f) aa;simp only [Act.eval] at v A B;have hl:=eT (F:=⟨c,d,n,⟨i,j,k⟩,fun _ _ _=>True,Cw.plain c.P,h,fun _ _ _=>True⟩) ht (r.sep.e _ U) hv;have af:=eT (F:=⟨c,d,n,⟨i,j,k⟩,fun _ _ _=>True,Cw.plain c.P,h,fun _ _ _=>True⟩) ab (r.sep.e _ V) ac;have ag:=eT (F:=⟨c,d,n,⟨i,j,k⟩,fun _ _ _=>True,Cw.plain c.P,h,fun _ _ _=>True⟩) ad (r.sep.e _ W) ae;simp only [RV] at v A B;simp [results,X,v,A,B,asAddr,hl,af,ag]
end Go.Jog
namespace Go.Jog
variable {k:Nat}{out:List (List Nat)}{s:List Nat}
def yD:List Nat->List Nat->Bool
 | x::a,y::b=>if x=y then yD a b else decide (x<y)
 | _,_=>false
def goE (out:List (List Nat))(s:List Nat)(k:Nat):Bool:=decide ((out.getD k []).length=s.length) && yD s (out.getD k [])
def Dt (out:List (List Nat))(s:List Nat):Nat->Nat
 | 0=>0
 | k+1=>if goE out s k then Dt out s k else k+1
def Pz (out:List (List Nat))(s:List Nat):List (List Nat):=out.take (Dt out s out.length)++[s]++out.drop (Dt out s out.length)
def lm (size:Nat)(out:List (List Nat))(b:Nat):List (List Nat):=if (aV b).length=size then Pz out (aV b) else out
def MU (n:Nat)(out:List (List Nat))(size:Nat):List (List Nat):=(List.range (2 ^ n)).foldl (lm size) out
def allE (n:Nat):List (List Nat):=(List.range (n+1)).foldl (MU n) []
theorem Ic:∀ n<4,allE n=(bQ n).map aV:=by decide +kernel
theorem H6:∀ n<4,∀ b<2 ^ n,(List.range n).filter (fun i=>b.testBit i)=aV b:=by decide +kernel
theorem F1 (a:List (List Nat))(s:List Nat):∀ k,Dt a s k<=k
 | 0=>QO _
 | k+1=>by
  unfold Dt;split
  ·have:=F1 a s k;omega
  exact QO _
theorem Kh :(Pz out s).length=out.length+1:=by
 have:=F1 out s out.length;unfold Pz;simp;omega
theorem mQ {b:Type}{f:b->Nat->b}{a:b}{i:Nat}:(List.range (i+1)).foldl f a=f ((List.range i).foldl f a) i:=by
 rw [RY,List.foldl_append];rfl
theorem BT {b j:Nat}:(List.range (j+1)).filter (fun i=>b.testBit i)=(List.range j).filter (fun i=>b.testBit i)++(if b.testBit j then [j] else []):=by
 rw [RY,Si];congr 1;simp only [List.filter_cons,List.filter_nil]
theorem tR:∀ (l:List Nat)(size:Nat)(out:List (List Nat)),(l.foldl (lm size) out).length<=out.length+l.length
 | [],_,_=>QO _
 | b::l,size,out=>by
  have h1:=tR l size (lm size out b);have h2:(lm size out b).length<=out.length+1:=by
   unfold lm;split
   ·rw [Kh];exact QO _
   omega
  rw [Sn,Q8];omega
theorem CC (n:Nat):∀ i,((List.range i).foldl (MU n) []).length<=i*2 ^ n
 | 0=>QT _
 | i+1=>by
  have h1:=CC n i;have h2:=tR (List.range (2 ^ n)) i ((List.range i).foldl (MU n) []);rw [RL] at h2;rw [mQ,Nat.succ_mul];show ((List.range (2 ^ n)).foldl (lm i) _).length<=_;omega
theorem M8 (a:0<k)(h:goE out s (k-1)=true):Dt out s k=Dt out s (k-1):=by
 obtain ⟨j,rfl⟩:∃ j,k=j+1:=⟨k-1,by omega⟩;rw [SQ] at h ⊢
 conv=>lhs;unfold Dt
 rw [aW h]
theorem F0 (h:0<k->goE out s (k-1)=false):Dt out s k=k:=by
 cases k with
 | zero=>rfl
 | succ j =>
  have:=h om_;rw [SQ] at this;unfold Dt;rw [this];rfl
theorem vh (b j:Nat):((b / 2 ^ j &&& 1:Nat) == 1)=b.testBit j:=by
 rw [Nat.and_one_is_mod,Nat.testBit_eq_decide_div_mod_eq];by_cases h:b / 2 ^ j % 2=1
 ·rw [h];rfl
 rw [RT.2 h,Rj h]
end Go.Jog
namespace Go.Jog
def Pr (n t:Nat):Bool:=(List.range (2 ^ n)).all fun s=>(List.range (2 ^ n)).all fun x=>!(x &&& s == x) || !t.testBit s || t.testBit x
def KS (l:List Nat):Nat:=l.foldr (fun i a=>a+2 ^ i) 0
def Ov (h:Nat->Bool)(s:Nat):Bool:=!h s && (List.range (aV s).length).all fun i=>h (KS ((aV s).eraseIdx i))
theorem sT:∀ n<4,∀ s<2 ^ n,∀ i<(aV s).length,aV (KS ((aV s).eraseIdx i))=(aV s).eraseIdx i/\KS ((aV s).eraseIdx i)<2 ^ n:=by decide +kernel
theorem NH:∀ n<4,∀ t<2 ^ (2 ^ n),Pr n t=true->∀ s<2 ^ n,Ov (fun x=>t.testBit x) s=(eB (fun x=>t.testBit x) (bQ n)).contains s:=by decide +kernel
theorem Lv (h:Nat->Bool):∀ m,∃ t,t<2 ^ m/\∀ s,s<m->t.testBit s=h s
 | 0=>⟨0,by decide,fun s hs=>by omega⟩
 | m+1=>by
  obtain ⟨t,h1,h2⟩:=Lv h m;refine ⟨2 ^ m*(if h m then 1 else 0)+t, ?_,fun s hs=>?_⟩
  ·rw [R8];split <;> omega
  rw [Nat.testBit_two_pow_mul_add _ h1];split
  ·exact h2 s (by assumption)
  rw [show s=m by omega,SZ];cases h m <;> rfl
theorem qG {h g:Nat->Bool}:∀ (l f:List Nat),(∀ s∈l,h s=g s)->l.foldl (eI h) f=l.foldl (eI g) f
 | [],_,_=>rfl
 | s::l,f,a=>by
  have e:eI h f s=eI g f s:=by unfold eI;rw [a s Qb]
  rw [Sn,Sn,e];exact qG l _ fun x b=>a x (Q0 _ b)
def QM (n:Nat)(h:Nat->Bool):Prop:=∀ s x,s<2 ^ n->x<2 ^ n->x &&& s=x->h s=true->h x=true
theorem JW {h:Nat->Bool}{n t:Nat}(c:QM n h)(b:∀ s,s<2 ^ n->t.testBit s=h s):Pr n t=true:=by
 refine Q4.2 fun s hs=>Q4.2 fun x a=>?_;have hs:=Q9.1 hs;have a:=Q9.1 a;rw [b s hs,b x a];cases e:(x &&& s == x) with
 | false=>rfl
 | true =>
  cases d:h s with
  | false=>rfl
  | true=>rw [c s x hs a (eq_of_beq e) d];rfl
theorem G3 {h:Nat->Bool}{n s:Nat}(b:n<4)(c:QM n h)(a:s<2 ^ n):Ov h s=(eB h (bQ n)).contains s:=by
 obtain ⟨t,h1,h2⟩:=Lv h (2 ^ n);have h3:=NH n b t h1 (JW c h2) s a;have d:Ov (fun x=>t.testBit x) s=Ov h s:=by
  unfold Ov;simp only [h2 s a];congr 1;rw [Tz,Q4,Q4];refine forall_congr' fun i=>forall_congr' fun e=>?_;rw [h2 _ (sT n b s a i (Q9.1 e)).2]
 have f:eB (fun x=>t.testBit x) (bQ n)=eB h (bQ n):=qG _ _ fun x g=>h2 x (eS g);rw [<- d,<- f,h3]
end Go.Jog
namespace Go.Jog
open Go
section
variable {cx:Cx} {n:Nat} {ds:List (Option Nat)} {R:Rg n ds} {its:List It} {fr:Fr} {C:Mem} {L:List Ent} {i k d:Nat} {o:Oper} {g:GL}
theorem Bw {a:Nat}(b:a<256):(BitVec.ofInt 8 (a:Int)).toNat=a:=by
 rw [BitVec.ofInt_natCast,BitVec.toNat_ofNat];exact Ti om_
theorem ID {a:Nat}(b:a<256):IntKind.u8.wrap (a:Int)=a:=by
 rw [IntKind.wrap_u8];omega
theorem WR (a b:Nat){t c:Nat}{x y:Operand}{p q:Int}(f:Nat.ble k 1=true)(j:o.dst=some d)(l:o.op=.binOp .and t x y c)(m:gOf ds fr o.guard=some g)(r:ev fr g x=some (.int .u8 p))(s:ev fr g y=some (.int .u8 q))
  (u:p=a) (v:q=b) (z:a<256) (F:b<256) (B:aQ n ds ((d,g,.int .u8 ((a &&& b:Nat):Int))::fr) d=true) (E:wfG ds fr g=true)
  (h:D cx R its ((d,g,.int .u8 ((a &&& b:Nat):Int))::fr) C L):D cx R ((i,k,o)::its) fr C L :=
 D.run _ f j m (fun _ A hs w=>by
  subst u v;rw [bR l (hs _ _ r) (hs _ _ s) (fun _ _=>.inl am) (.inl am) w];have e:IntKind.u8.wrap ((BitVec.ofInt 8 (a:Int) &&& BitVec.ofInt 8 (b:Int)).toNat:Int)=((a &&& b:Nat):Int):=by
   rw [BitVec.toNat_and,Bw om_,Bw om_];exact ID (RJ Nat.and_le_left z)
  simp [binOp,Op.intBits,IntKind.bits];exact e) B E h
theorem WT (a m:Nat){b:IntKind}{t c:Nat}{x y:Operand}{p q:Int}(f:Nat.ble k 1=true)(j:o.dst=some d)(l:o.op=.binOp .shr t x y c)(r:gOf ds fr o.guard=some g)(s:ev fr g x=some (.int .u8 p))(u:ev fr g y=some (.int b q))
  (v:p=a) (z:q=m) (H:m<=7) (B:aQ n ds ((d,g,.int .u8 ((a / 2 ^ m:Nat):Int))::fr) d=true) (E:wfG ds fr g=true)
  (h:D cx R its ((d,g,.int .u8 ((a / 2 ^ m:Nat):Int))::fr) C L):D cx R ((i,k,o)::its) fr C L :=
 D.run _ f j r (fun _ A hs w=>by
  subst v z;rw [bR l (hs _ _ s) (hs _ _ u) (fun _ _=>.inl am) (.inl am) w];have h0:¬ ((m:Int)<0):=by omega
  have F:Min.min m 8=m:=by omega
  have e:(a:Int).fdiv (2 ^ m)=((a / 2 ^ m:Nat):Int):=by
   have G:(2:Int) ^ m=((2 ^ m:Nat):Int):=by norm_cast
   rw [G,Int.fdiv_eq_ediv_of_nonneg _ (Tw _)];exact (TM _ _).symm
  simp only [binOp,Op.shift,h0,R7,Sx,IntKind.bits,F,Sem.run_pure,Result.andThen_ok];rw [e]) B E h
end
end Go.Jog
namespace Go.Proofs.YthnpijdjlddpmaaGreatDoor
open Go.Proofs.Tryz
open Go Go.Jog
variable {C:Mem}{i k:Nat}{l:List Nat}{m n:Nat}{u v:Value}
def tab:Tab:=[(2,⟨.int .i64,1,8,[.int .i64],false⟩),
 (3,⟨.int .i64,1,8,[.int .i64],false⟩),
 (4,⟨.bool,1,1,[.bool],false⟩),
 (5,⟨.int .u8,1,1,[.int .u8],false⟩),
 (9,⟨.str,1,16,[.str],false⟩),
 (12,⟨.int .u64,1,8,[.int .u64],false⟩),
 (21,⟨.int .i32,1,4,[.int .i32],false⟩),
 (22,⟨.int .i8,1,1,[.int .i8],false⟩),
 (23,⟨.arr 2 22,2,2,[.int .i8,.int .i8],true⟩),
 (25,⟨.struct [(5,0),(23,1),(4,3)],4,4,[.int .u8,.int .i8,.int .i8,.bool],true⟩),
 (26,⟨.arr 6 22,6,6,[.int .i8,.int .i8,.int .i8,.int .i8,.int .i8,.int .i8],true⟩),
 (28,⟨.struct [(26,0),(4,6)],7,7,[.int .i8,.int .i8,.int .i8,.int .i8,.int .i8,.int .i8,.bool],true⟩),
 (29,⟨.slice 140,1,24,[.slice],false⟩),
 (31,⟨.struct [(25,0),(28,4),(29,11)],12,40,[.int .u8,.int .i8,.int .i8,.bool,.int .i8,.int .i8,.int .i8,.int .i8,.int .i8,.int .i8,.bool,.slice],true⟩),
 (33,⟨.slice 58,1,24,[.slice],false⟩),
 (34,⟨.slice 108,1,24,[.slice],false⟩),
 (36,⟨.struct [(33,0),(34,1)],2,48,[.slice,.slice],true⟩),
 (37,⟨.slice 56,1,24,[.slice],false⟩),
 (38,⟨.slice 56,1,24,[.slice],false⟩),
 (39,⟨.slice 111,1,24,[.slice],false⟩),
 (40,⟨.slice 62,1,24,[.slice],false⟩),
 (42,⟨.struct [(36,0),(38,2),(39,3),(40,4)],5,120,[.slice,.slice,.slice,.slice,.slice],true⟩),
 (45,⟨.slice 50,1,24,[.slice],false⟩),
 (46,⟨.int .i64,1,8,[.int .i64],false⟩),
 (50,⟨.slice 3,1,24,[.slice],false⟩),
 (56,⟨.str,1,16,[.str],false⟩),
 (58,⟨.struct [(56,0),(56,1)],2,32,[.str,.str],true⟩),
 (60,⟨.struct [(56,0),(56,1),(56,2)],3,48,[.str,.str,.str],true⟩),
 (62,⟨.struct [(3,0),(9,1),(58,2),(56,4),(9,5),(9,6),(60,7)],10,152,[.int .i64,.str,.str,.str,.str,.str,.str,.str,.str,.str],true⟩),
 (63,⟨.slice 5,1,24,[.slice],false⟩),
 (75,⟨.struct [(37,0)],1,24,[.slice],true⟩),
 (78,⟨.slice 123,1,24,[.slice],false⟩),
 (80,⟨.struct [(3,0),(78,1),(37,2)],3,56,[.int .i64,.slice,.slice],true⟩),
 (89,⟨.struct [(5,0),(5,1),(56,2)],3,24,[.int .u8,.int .u8,.str],true⟩),
 (96,⟨.ptr 153,1,8,[.ptr],false⟩),
 (99,⟨.int .u64,1,8,[.int .u64],false⟩),
 (100,⟨.slice 99,1,24,[.slice],false⟩),
 (107,⟨.arr 3 3,3,24,[.int .i64,.int .i64,.int .i64],true⟩),
 (108,⟨.arr 3 3,3,24,[.int .i64,.int .i64,.int .i64],true⟩),
 (111,⟨.struct [(9,0),(56,1),(56,2)],3,48,[.str,.str,.str],true⟩),
 (119,⟨.slice 125,1,24,[.slice],false⟩),
 (123,⟨.struct [(37,0),(56,1)],2,40,[.slice,.str],true⟩),
 (125,⟨.struct [(3,0),(123,1)],3,48,[.int .i64,.slice,.str],true⟩),
 (127,⟨.func,1,8,[.func],false⟩),
 (137,⟨.arr 2 5,2,2,[.int .u8,.int .u8],true⟩),
 (138,⟨.arr 3 22,3,3,[.int .i8,.int .i8,.int .i8],true⟩),
 (140,⟨.struct [(5,0),(23,1),(137,3),(5,5),(138,6)],9,9,[.int .u8,.int .i8,.int .i8,.int .u8,.int .u8,.int .u8,.int .i8,.int .i8,.int .i8],true⟩),
 (142,⟨.struct [(3,0),(3,1)],2,16,[.int .i64,.int .i64],true⟩),
 (149,⟨.map 9 4,1,8,[.map],false⟩),
 (151,⟨.map 99 4,1,8,[.map],false⟩),
 (153,⟨.struct [(42,0),(151,5)],6,128,[.slice,.slice,.slice,.slice,.slice,.map],true⟩),
 (158,⟨.int .u32,1,4,[.int .u32],false⟩),
 (160,⟨.int .u64,1,8,[.int .u64],false⟩),
 (164,⟨.struct [(3,0),(56,1),(37,2),(75,3),(37,4)],5,96,[.int .i64,.str,.slice,.slice,.slice],true⟩),
 (167,⟨.str,1,16,[.str],false⟩),
 (177,⟨.func,1,8,[.func],false⟩),
 (179,⟨.slice 183,1,24,[.slice],false⟩),
 (183,⟨.arr 2 3,2,16,[.int .i64,.int .i64],true⟩),
 (186,⟨.arr 3 9,3,48,[.str,.str,.str],true⟩),
 (189,⟨.map 58 4,1,8,[.map],false⟩),
 (202,⟨.ptr 212,1,8,[.ptr],false⟩),
 (209,⟨.struct [(56,0),(37,1)],2,40,[.str,.slice],true⟩),
 (210,⟨.slice 209,1,24,[.slice],false⟩),
 (212,⟨.struct [(3,0),(50,1),(210,2),(50,3),(209,4)],6,120,[.int .i64,.slice,.slice,.slice,.str,.slice],true⟩),
 (242,⟨.map 183 3,1,8,[.map],false⟩),
 (245,⟨.map 3 4,1,8,[.map],false⟩),
 (249,⟨.arr 3 58,6,96,[.str,.str,.str,.str,.str,.str],true⟩),
 (253,⟨.slice 38,1,24,[.slice],false⟩),
 (255,⟨.func,1,8,[.func],false⟩),
 (263,⟨.func,1,8,[.func],false⟩),
 (264,⟨.arr 32 5,32,32,[.int .u8,.int .u8,.int .u8,.int .u8,.int .u8,.int .u8,.int .u8,.int .u8,.int .u8,.int .u8,.int .u8,.int .u8,.int .u8,.int .u8,.int .u8,.int .u8,.int .u8,.int .u8,.int .u8,.int .u8,.int .u8,.int .u8,.int .u8,.int .u8,.int .u8,.int .u8,.int .u8,.int .u8,.int .u8,.int .u8,.int .u8,.int .u8],true⟩),
 (272,⟨.func,1,8,[.func],false⟩),
 (273,⟨.slice 37,1,24,[.slice],false⟩),
 (278,⟨.map 3 56,1,8,[.map],false⟩),
 (284,⟨.func,1,8,[.func],false⟩),
 (295,⟨.ptr 3,1,8,[.ptr],false⟩),
 (305,⟨.slice 160,1,24,[.slice],false⟩),
 (307,⟨.struct [(4,0),(305,1)],2,32,[.bool,.slice],true⟩),
 (315,⟨.func,1,8,[.func],false⟩),
 (317,⟨.map 3 3,1,8,[.map],false⟩),
 (318,⟨.func,1,8,[.func],false⟩),
 (327,⟨.arr 3 56,3,48,[.str,.str,.str],true⟩),
 (328,⟨.arr 3 56,3,48,[.str,.str,.str],true⟩),
 (346,⟨.iface,1,16,[.iface],false⟩),
 (352,⟨.ptr 354,1,8,[.ptr],false⟩),
 (354,⟨.struct [(352,0),(63,1)],2,32,[.ptr,.slice],true⟩),
 (357,⟨.func,1,8,[.func],false⟩),
 (371,⟨.ptr 209,1,8,[.ptr],false⟩),
 (372,⟨.arr 24 5,24,24,[.int .u8,.int .u8,.int .u8,.int .u8,.int .u8,.int .u8,.int .u8,.int .u8,.int .u8,.int .u8,.int .u8,.int .u8,.int .u8,.int .u8,.int .u8,.int .u8,.int .u8,.int .u8,.int .u8,.int .u8,.int .u8,.int .u8,.int .u8,.int .u8],true⟩),
 (383,⟨.ptr 5,1,8,[.ptr],false⟩),
 (386,⟨.arr 20 160,20,160,[.int .u64,.int .u64,.int .u64,.int .u64,.int .u64,.int .u64,.int .u64,.int .u64,.int .u64,.int .u64,.int .u64,.int .u64,.int .u64,.int .u64,.int .u64,.int .u64,.int .u64,.int .u64,.int .u64,.int .u64],true⟩),
 (390,⟨.struct [(58,0),(56,2)],3,48,[.str,.str,.str],true⟩),
 (391,⟨.arr 3 390,9,144,[.str,.str,.str,.str,.str,.str,.str,.str,.str],true⟩),
 (393,⟨.func,1,8,[.func],false⟩),
 (395,⟨.int .i64,1,8,[.int .i64],false⟩),
 (398,⟨.ptr 408,1,8,[.ptr],false⟩),
 (408,⟨.struct [(9,0),(9,1),(346,2)],3,48,[.str,.str,.iface],true⟩),
 (410,⟨.ptr 412,1,8,[.ptr],false⟩),
 (412,⟨.struct [(9,0)],1,16,[.str],true⟩),
 (415,⟨.arr 0 16,0,0,[],true⟩)]
noncomputable def cx:Cx:={ P:=Tryz.prog,T:=tab,mixed:=by kernel_rfl,hT:=by kernel_rfl }
abbrev Str:=List UInt8
/-! ### The model -/
structure Rel where
 kind:Int
 upper:Str
 lower:Str
 deriving DecidableEq,Inhabited
def pU (b:UInt8):Bool:=(decide (97<=(b.toNat:Int)) && decide ((b.toNat:Int)<=122)) || (decide (65<=(b.toNat:Int)) && decide ((b.toNat:Int)<=90))
def xl (b:UInt8):Bool:=(decide (48<=(b.toNat:Int)) && decide ((b.toNat:Int)<=57)) || ((b.toNat:Int) == 95)
def jI (k:Nat)(b:UInt8):Bool:=pU b || (!(k == 0) && xl b)
def ib:Nat->Str->Bool
 | _,[]=>true
 | k,b::s=>jI k b && ib (k+1) s
def cY (s:Str):Bool:=!(s == []) && decide (s.length<=32) && ib 0 s
theorem pI:∀ {s:Str}{k i:Nat}{b:UInt8},s[i]?=some b->jI (k+i) b=false->ib k s=false
 | [],k,i,b,h,_=>by simp at h
 | c::s,k,0,b,h,a=>by
  simp at h;subst h;simp only [SU] at a;simp [ib,a]
 | c::s,k,i+1,b,h,a=>by
  have:=pI (k:=k+1) (by simpa using h) (by rw [show k+1+i=k+(i+1) by omega];exact a);simp [ib,this]
theorem nB:∀ {s:Str}{k:Nat},(∀ i b,s[i]?=some b->jI (k+i) b=true)->ib k s=true
 | [],k,_=>rfl
 | c::s,k,h=>by
  have h0:=h 0 c am;simp only [SU] at h0;have h1:=nB (s:=s) (k:=k+1) (fun i b a=>by
   have:=h (i+1) b (by simpa using a)
   rwa [show k+(i+1)=k+1+i by omega] at this)
  simp [ib,h0,h1]
/-! ### IsName -/
set_option maxRecDepth 100000 in
theorem il (C:Mem)(s:Str)(B:s.length<1000000):Gives cx.P 105 [ai s] C (.bool (cY s)):=by
 refine UD func105 57 U3 fun w0=>?_;refine Uu 1 [0,2] Z ?_;refine Uv 6 Z fun R a=>?_;refine U1 U8 ?_;refine UA [0,13] a Z ?_;refine G.cond Z (fun h=>?_) (fun h=>?_)
 ·refine Uu 1 [2] Z ?_;refine UC U2 ?_;refine ⟨?_,Z⟩;congr 1;simp only [Sm,Sr,QZ] at h;unfold cY;rcases h with h | h
  ·have:s=[]:=h;simp [this]
  have h2:¬ s.length<=32:=by omega
  simp [h2]
 simp only [Sq,RT,Ri] at h;have q:s≠[]:=h.1;have r:s.length<=32:=by have:=h.2;omega
 refine Uv 1 Z fun R a=>?_;refine WG Z Z Z Z Z Z Z Z Z Z (by simp only [maxLen];omega) fl_ (fun D _ _ g=>?_);have t:=g;obtain ⟨A,c,rfl,_⟩:=t;refine C4 2 [15,16,17] a Z ?_;refine G.loop (fun fr C' j m=>∃ k:Nat,k<=s.length/\(∀ i b,i<k->s[i]?=some b->jI (0+i) b=true)/\fr=[(15,[],.slice A (s.map fun b=>[Value.int .u8 b.toNat]).length c),(16,[],.int .i64 (s.map fun b=>[Value.int .u8 b.toNat]).length),(17,[],.int .i64 k)]/\j=[]/\m=s.length-k) (m:=s.length) (hn_ [15,16,17] Z) ⟨0,QT _,fun i b u=>by omega,Z,Z,Z⟩ (fun fr C' j m l v=>?_);obtain ⟨k,E,n,rfl,rfl,rfl⟩:=v;refine Uu 1 [15,16,17,18] Z ?_;refine G.cond Z (fun h=>?_) (fun h=>?_)
 ·simp only [al,QZ] at h;have w:k<s.length:=by omega
  obtain ⟨b,d⟩:∃ b,s[k]?=some b:=⟨s[k],aj w⟩;have x:=g.mono l;refine Uv 1 Z fun R a=>?_;refine UK x U10 om_ (row:=[.int .u8 b.toNat]) (by simp [d]) fl_ (fun F y=>?_);refine Uw y U8 ?_;refine C4 2 [3,4,15,16,17] a Z ?_;refine Uv 5 Z fun R a=>?_;refine UU U8 ?_;refine UB 6 Z ?_;refine UU U8 ?_;refine U1 U8 ?_;refine Uy U6 ?_;refine VV [E_ 3 _,E_ 4 _,(5,[],.bool (pU b)),E_ 15 _,E_ 16 _,E_ 17 _] a ?_;refine Uv 5 Z fun R a=>?_;refine UU U8 ?_;refine UB 3 Z ?_;refine U1 U8 ?_;refine Uy U6 ?_;refine VV [E_ 3 _,E_ 5 _,(6,[],.bool (xl b)),E_ 15 _,E_ 16 _,E_ 17 _] a ?_;refine Uv 8 Z fun R a=>?_;refine U1 U8 ?_;refine UU U8 ?_;refine VV [E_ 15 _,E_ 16 _,E_ 17 _,(55,[],.bool (!(pU b) && (((k:Int) == 0) || !(xl b))))] a ?_;have o:(!(pU b) && (((k:Int) == 0) || !(xl b)))=!(jI (0+k) b):=by
   have e:((k:Int) == 0)=(0+k == 0):=by
    rw [Sd];by_cases p:k=0
    ·subst p;rfl
    have:¬ (k:Int)=0:=by omega
    rw [RT.2 this,RT.2 p]
   unfold jI;rw [e];cases pU b <;> cases xl b <;> cases (0+k == 0) <;> rfl
  refine G.cond Z (fun h=>?_) (fun h=>?_)
  ·rw [o] at h;refine Uu 1 [2] Z ?_;refine UC U2 ?_;refine ⟨?_,Z⟩;have:=pI (k:=0) d (by simpa using h);simp [cY,this]
  rw [o] at h;refine Uz fun R a=>?_;refine Vf ((k+1:Nat):Int) U4 om_ om_ om_ U2 ?_;refine C4 1 [15,16,17] a Z ?_;refine UH (m':=s.length-(k+1)) om_ l (hn_ [15,16,17] Z) ⟨k+1,by omega, ?_,Z,Z,Z⟩;intro i z u f;rcases Rr i k with h1 | h1
  ·exact n i z h1 f
  have:i=k:=by omega
  subst this;rw [d] at f;cases f
  simpa using h
 simp only [al,Ri] at h;refine Uu 1 [2] Z ?_;refine UC U2 ?_;refine ⟨?_,Z⟩;have:=nB (s:=s) (k:=0) (fun i b d=>n i b (by have:=(aD.1 d).1;omega) d);simp [cY,this,q,r]
set_option maxRecDepth 100000
structure ArcE where
 lower:Str
 upper:Str
 deriving DecidableEq,Inhabited
theorem PI (a b:Str):(a == b)=decide (a=b):=by by_cases h:a=b <;> simp [h]
set_option maxRecDepth 100000
def Mj (a b:Int):Int:=if a<b then -1 else if a=b then 0 else 1
/-! ### Comparisons -/
structure TotC {α:Type}(f:α->α->Int):Prop where
 eq:∀ x y,f x y=0 ↔ x=y
 sym:∀ x y,f x y<0 ↔ 0<f y x
 trans:∀ x y z,f x y<0->f y z<0->f x z<0
section
variable {α:Type} {f:α->α->Int}
variable [DecidableEq α]
def ins (f:α->α->Int)(x:α):List α->List α
 | []=>[x]
 | y::l=>if f y x<0 then y::ins f x l else if y=x then y::l else x::y::l
end
def me (x:Int):List Value:=[.int .i64 x]
def aM (i:Nat):List Value:=[.int .i64 i]
abbrev P7 (b:Nat):Value:=.pointer (some ⟨b,0,none⟩)
abbrev Of (b:Nat)(q:Option Addr)(v:Value):Ent:=.obj b (.cells ⟨[.pointer q,v]⟩ 354 (0,0))
abbrev u8s (s:Str):List Value:=s.map fun c=>Value.int .u8 c.toNat
abbrev Og (v:Value)(s:Str):Ent:=.arr v 5 1 s.length (u8s s)
theorem sR (C:Mem)(b:Nat)(q:Option Addr)(v:Value)(g:q=none∨q=some ⟨b,0,none⟩):Jog.Fn cx.P 284 [P7 b] C [Of b q v] fun _ _ d=>d=[Of b (some ⟨b,0,none⟩) v]:=by
 refine UD func284 20 U3 fun w0=>UN (L':=[.obj b (.cells ⟨[.pointer q,v]⟩ 354 (0,0))]) Z<|Uv 3 Z fun R a=>UE af U9<|WO (e:=354) Z Z Z Z Z kr_ kr_ Z Z<|UA [0,6] a Z<|Ux (fun c=>?_) fun c=>?_
 ·have h:q=none:=by simpa using c
  subst h;refine Uv 2 Z fun R a=>WF (t:=354) Z Z Z Z Z af kr_ kr_ kr_ am fl_<|WI (fn:=Tryz.f311) Z Z Z Z Z func311 kr_ kr_ kr_ kr_ fl_<|WV (t:=354) Z Z Z Z Z af kr_ kr_ kr_ kr_ fl_<|UB 2 Z<|UG (j:=0) U12<|VE [] trivial (a _ _ _ Z ?_);refine VI Z ?_;rfl
 have i:q=some ⟨b,0,none⟩:=by
  rcases g with rfl | rfl
  ·simp at c
  rfl
 subst i;refine Uv 3 Z fun R a=>UE af U9<|Uy U6<|W0 (e:=354) Z Z Z Z Z Z kr_ kr_ Z Z<|UA [19] a Z<|Ux (fun f=>?_) fun f=>?_
 ·cases f
 refine VI Z ?_;rfl
theorem vC (C:Mem)(b:Nat)(q:Option Addr)(v:Value)(s:Str)(c:UInt8)(i:q=none∨q=some ⟨b,0,none⟩)(m:s.length<=1000000000):Jog.Fn cx.P 253 [P7 b,.int .u8 c.toNat] C [Of b q v,Og v s] fun _ _ a=>∃ h,a=[Of b (some ⟨b,0,none⟩) h,Og h (s++[c])]:=by
 refine UD func253 17 U3 fun w0=>UN (L':=[.obj b (.cells ⟨[.pointer q,v]⟩ 354 (0,0)),.arr v 5 1 s.length (u8s s)]) Z<|Uu 1 [0,1] Z<|UW [(1,3)] Z fun R d=>Uy U6<|D.call (sR _ b q v i) Z (.inr dc_) U6 (QW _) fl_ fun n _ o _ k=>UA [0,1] d Z ?_;subst k;refine UN (L':=[.obj b (.cells ⟨[.pointer (some ⟨b,0,none⟩),v]⟩ 354 (0,0)),.arr v 5 1 s.length (u8s s)]) Z<|Uv 4 Z fun R d=>UE af U9<|Uy U6<|UR [[.int .u8 c.toNat]] U12 fun p _ _ l=>UZ (j:=1) U11 l Z ax (by simp only [aK];omega) fl_ fun e f g=>UB 2 Z<|UG (j:=1) U12<|VE [] trivial (d _ _ _ Z ?_);refine Uu 1 [4] Z<|G.perm (L':=[.obj b (.cells ⟨[.pointer (some ⟨b,0,none⟩),.slice e f g]⟩ 354 (0,0)),.arr (.slice e f g) 5 1 (s.length+1) (u8s s++[Value.int .u8 c.toNat])]) (QW _)<|UJ (Vj Z Z ?_);exact ⟨.slice e f g,by simp [Og,u8s]⟩
theorem ko (C:Mem)(b:Nat)(q:Option Addr)(v:Value)(s t:Str)(e:q=none∨q=some ⟨b,0,none⟩)(g:s.length+t.length<=1000000000):Jog.Fn cx.P 256 [P7 b,ai t] C [Of b q v,Og v s] fun _ _ a=>∃ d,a=[Of b (some ⟨b,0,none⟩) d,Og d (s++t)]:=by
 refine UD func256 19 U3 fun w0=>UN (L':=[.obj b (.cells ⟨[.pointer q,v]⟩ 354 (0,0)),.arr v 5 1 s.length (u8s s)]) Z<|Uu 2 [0,1] Z<|UW [(1,3)] Z fun R c=>Uy U6<|D.call (sR _ b q v e) Z (.inr dc_) U6 (QW _) fl_ fun h _ i _ f=>UA [0,1] c Z ?_;subst f;refine UN (L':=[.obj b (.cells ⟨[.pointer (some ⟨b,0,none⟩),v]⟩ 354 (0,0)),.arr v 5 1 s.length (u8s s)]) Z<|Uv 4 Z fun R c=>UE af U9<|Uy U6<|W8 (j:=1) Z Z Z Z Z Z Z Z Z Z Z Z Z Z Z om_ fl_ fun A2 n2 c2=>UB 2 Z<|UG (j:=1) U12<|UA [1] c Z<|Uu 4 [4,5] Z<|G.perm (L':=[.obj b (.cells ⟨[.pointer (some ⟨b,0,none⟩),.slice A2 n2 c2]⟩ 354 (0,0)),.arr (.slice A2 n2 c2) 5 1 (s.length+t.length) (u8s s++t.map fun b=>Value.int .u8 b.toNat)]) (QW _)<|UJ (UX U3 ?_);exact ⟨.slice A2 n2 c2,by simp [Og,u8s]⟩
theorem Ef (C:Mem)(b:Nat)(q:Option Addr)(v:Value)(s:Str)(a:s≠[])(g:s.length<=1000000000):Jog.Fn cx.P 257 [P7 b] C [Of b q v,Og v s] fun u _ c=>u=ai s/\c=[]:=by
 refine UD func257 14 U3 fun w0=>UN (L':=[.obj b (.cells ⟨[.pointer q,v]⟩ 354 (0,0)),.arr v 5 1 s.length (u8s s)]) Z<|G.form ae (fun d h=>?_);have i:=RD.2 a;rcases d with ⟨h1,h2⟩ | ⟨g0,c0,rfl,k,l⟩
 ·omega
 exact Uu 1 [0] Z<|US [0,1,2,3,4,5,6,7,8,9,10,11] [(4,0)] Z kr_ fun R m f=>UB 3 Z<|UE af U9<|WY Z Z Z Z Z om_ Z Z<|UB 3 Z<|UE af U9<|Uy U6<|WX (j:=1) (e:=5) Z Z Z Z kr_ kr_ Z Z Z a om_ fl_<|C4 1 [2] f Z<|UC U2<|⟨Z,Z⟩
def cm (x:Nat):List Value:=[.int .u64 x]
theorem eG (x:Nat):(cm x).length=1:=rfl
def NineC (C:Mem)(v:Value)(n:Nat):Prop:=∃ l,xZ l/\bB l=n/\Sl C 1 v (l.map cm)
theorem NineC.mono {C D:Mem}{v:Value}{n:Nat}(h:NineC C v n)(a:C.le D):NineC D v n:=by
 obtain ⟨l,h1,h2,h3⟩:=h;exact ⟨l,h1,h2,h3.mono a⟩
theorem NineC.m_ {D:Mem}(h:NineC C v n)(a:C.le D:=by exact mup):NineC D v n:=NineC.mono h a
theorem Am (C:Mem)(v:Value)(l:List Nat)(d:Sl C 1 v (l.map cm)):Pur cx.P 252 [v] C fun u C'=>Sl C' 1 u ((EG l).map cm):=by
 obtain ⟨o,c0,rfl,p,_⟩:=id d;simp only [al] at d p ⊢;refine UD func252 21 U3 fun w0=>Uu 1 [0] Z<|G.loop (fun fr C' q r=>∃ (k:Nat)(A:Option Addr)(c:Nat),(k<=l.length/\Sl C' 1 (.slice A k c) ((l.take k).map cm)/\ni l l.length=ni l k)/\fr=[(0,[],.slice A k c)]/\q=[]/\r=k+1) (hn_ [0] Z) ⟨l.length,o,c0,⟨QO _,by rw [Q2];exact d,Z⟩,Z,Z,Z⟩ (fun fr F H m _ s=>?_);obtain ⟨k,A,c,⟨I,hs,g⟩,rfl,rfl,rfl⟩:=s;obtain ⟨_,J,t,w,_⟩:=id hs;have K:maxLen<=9223372036854775807:=by simp [maxLen]
 have L:k<=c:=by
  rw [al,Q5] at w;injection t with h1 h2 h3;omega
 have x:0<k->((l.take k).map cm)[((k:Int)-1).toNat]?=some (cm (g9 l (k-1))):=fun h=>by
  rw [show ((k:Int)-1).toNat=k-1 by omega,QU,Rx,aW om_,aj (by omega:k-1<l.length)];unfold g9;rw [au,aj (by omega:k-1<l.length)];rfl
 refine Uv 7 Z fun R f=>UF _ U7<|D.index U10 (fun i=>⟨hs,(by have h:decide ((0:Int)<(k:Int))=true:=i.1;simp at h;omega),x (by have h:decide ((0:Int)<(k:Int))=true:=i.1;simp at h;omega)⟩) fl_ Z fun M y=>UY U6 y U3<|Uy U6<|UU U8<|UA [0,14] f Z<|Ux (fun b=>?_) fun b=>?_
 ·have a:0<k/\g9 l (k-1)=0:=by
   have:(0:Int)<(k:Int)/\((g9 l (k-1):Nat):Int)=0:=by simpa using b
   omega
  refine Uv 3 Z fun R f=>Vf (((k-1:Nat):Int)) U4 om_ om_ om_ U2<|Vq 0 (k-1) c U12 (fun _=>⟨.inl ⟨Z,Z⟩,.inr ⟨_,Z⟩,.inl ⟨Z,Z⟩,by omega,by omega,QO _⟩) U2<|C4 1 [0] f Z ?_;have n:=Sl.sub hs (l:=0) (h:=k-1) (m:=c) (QT _) ap om_ (QO _);have z:(((l.take k).map cm).take (k-1)).drop 0=(l.take (k-1)).map cm:=by
   rw [R0,<- SC,TG,Sa om_]
  rw [z] at n;have B:ni l l.length=ni l (k-1):=by
   rw [g];obtain ⟨j,rfl⟩:∃ j,k=j+1:=⟨k-1,by omega⟩;simp only [SQ] at a ⊢;rw [ni,aW];unfold g9 at a;rw [au,aj om_] at a;rw [aj om_];exact congrArg some a.2
  refine UH (m':=k-1+1) om_ mup (hn_ [0] Z) ⟨k-1,_,c,⟨by omega,n.mono mup,B⟩,Z,Z,Z⟩
 have a:¬ (0<k/\g9 l (k-1)=0):=fun E=>by
  have h1:(decide ((0:Int)<(k:Int)) && (((g9 l (k-1):Nat):Int) == 0))=true:=by
   rw [E.2];simp;omega
  rw [h1] at b;cases b
 refine Uu 2 [2] Z<|UC U2<|⟨Z, ?_⟩;have e:ni l k=k:=by
  cases k with
  | zero=>rfl
  | succ j =>
   simp only [SQ] at a;rw [ni,az];intro h;refine a ⟨by omega, ?_⟩;unfold g9;rw [au,h];rfl
 unfold EG;rw [g,e];exact hs
theorem gv (C:Mem)(v:Value)(l:List Nat)(a:l.length=n):Jog.Fn cx.P 252 [v] C [.arr v 160 1 n (l.map cm).flatten] fun u C' b=>b=[]/\Sl C' 1 u ((EG l).map cm) :=
 Jog.Fn.give (l.map cm) kr_ (by intro r hr;obtain ⟨y,_,rfl⟩:=QX.1 hr;rfl) (by rw [al,a]) (fun C' _ hs=>Am C' v l hs)
def jG (m n:Nat):Int:=if m<n then -1 else if n<m then 1 else 0
theorem ja :jG m n<0 ↔ m<n:=by unfold jG;split <;> (try split) <;> omega
theorem Gf :0<jG m n ↔ n<m:=by unfold jG;split <;> (try split) <;> omega
theorem Ge (C:Mem)(w z:Value)(a b:List Nat)(d:Sl C 1 w (a.map cm))(f:Sl C 1 z (b.map cm))(n:xZ a)(o:xZ b):Gives cx.P 217 [w,z] C (.int .i64 (jG (bB a) (bB b))):=by
 have Y:maxLen<=9223372036854775807:=by simp [maxLen]
 obtain ⟨F,c0,rfl,H,aa,_⟩:=id d;obtain ⟨I,J,rfl,K,ab,_⟩:=id f;simp only [al] at d f H K ⊢;refine UD func217 41 U3 fun w0=>Uu 1 [0,1] Z<|Uu 5 [0,1,10] Z<|Ux (fun g=>?_) fun g=>?_
 ·have ac:a.length≠b.length:=fun e=>by
   rw [e] at g;simp at g
  refine Uu 5 [15] Z<|Ux (fun p=>?_) fun p=>?_
  ·have q:a.length<b.length:=by
    have:(a.length:Int)<b.length:=by simpa using p
    omega
   exact Uu 1 [4] Z<|UC U2<|⟨by rw [show jG (bB a) (bB b)=-1 from aW (uv n.1 o q)],Z⟩
  have q:b.length<a.length:=by
   have:¬ (a.length:Int)<b.length:=by simpa using p
   omega
  have r:=uv o.1 n q;exact Uu 1 [4] Z<|UC U2<|⟨by rw [show jG (bB a) (bB b)=1 from by unfold jG;rw [az om_,aW r]],Z⟩
 have s:a.length=b.length:=by
  have:(a.length:Int)=b.length:=by simpa using g
  omega
 refine Uv 2 Z fun R c=>UF _ U7<|C4 1 [0,1,5] c Z<|G.loop (fun fr C' L M=>∃ (k:Nat),(k<=a.length/\a.drop k=b.drop k)/\fr=[(0,[],.slice F a.length c0),(1,[],.slice I b.length J),(5,[],.int .i64 ((k:Int)-1))]/\L=[]/\M=k+1) (hn_ [0,1,5] Z) ⟨a.length,⟨QO _,by rw [RM,s,RM]⟩,Z,Z,Z⟩ (fun fr ad ae m _ N=>?_);obtain ⟨k,⟨hk,i⟩,rfl,rfl,rfl⟩:=N;refine Uu 2 [0,1,5,20] Z<|Ux (fun t=>?_) fun t=>?_
 ·have A:0<k:=by
   have:(0:Int)<=(k:Int)-1:=by simpa using t
   omega
  obtain ⟨j,rfl⟩:∃ j,k=j+1:=⟨k-1,by omega⟩;obtain ⟨x,l⟩:∃ x,a[j]?=some x:=⟨a[j],aj om_⟩;obtain ⟨y,hy⟩:∃ y,b[j]?=some y:=⟨b[j],aj om_⟩;have B:(a.map cm)[(((j+1:Nat):Int)-1).toNat]?=some (cm x):=by
   rw [show (((j+1:Nat):Int)-1).toNat=j by omega,QU,l];rfl
  have D:(b.map cm)[(((j+1:Nat):Int)-1).toNat]?=some (cm y):=by
   rw [show (((j+1:Nat):Int)-1).toNat=j by omega,QU,hy];rfl
  refine US [0,1,2,3,4,5,6,7,8] [] Z kr_ fun R O c=>UB 2 Z<|UK d.m_ U10 om_ B fl_ fun af Q=>Uw Q U8<|UB 2 Z<|UK f.m_ U10 om_ D fl_ fun ag S=>Uw S U8<|C4 1 [0,1,5,31] c Z<|Ux (fun u=>?_) fun u=>?_
  ·have E:x≠y:=fun h=>by
    subst h;simp at u
   refine US [0,1,2,3,4,5,6,7,8] [] Z kr_ fun R O c=>UB 2 Z<|UK d.m_ U10 om_ B fl_ fun ah T=>Uw T U8<|UB 2 Z<|UK f.m_ U10 om_ D fl_ fun ai U=>Uw U U8<|C4 1 [40] c Z<|Ux (fun v=>?_) fun v=>?_
   ·have E:x<y:=by
     have:(x:Int)<y:=by simpa using v
     omega
    exact Uu 1 [4] Z<|UC U2<|⟨by rw [show jG (bB a) (bB b)=-1 from aW (Mm n.1 s l hy E i)],Z⟩
   have V:y<x:=by
    have:¬ (x:Int)<y:=by simpa using v
    omega
   have r:=Mm o.1 s.symm hy l V i.symm;exact Uu 1 [4] Z<|UC U2<|⟨by rw [show jG (bB a) (bB b)=1 from by unfold jG;rw [az om_,aW r]],Z⟩
  have W:x=y:=by
   have:(x:Int)=y:=by simpa using u
   omega
  refine Uv 1 Z fun R c=>UF _ U7<|C4 1 [0,1,5] c Z ?_;rw [show ((j+1:Nat):Int)-1-1=(j:Int)-1 by omega];refine UH (m':=j+1) om_ mup (hn_ [0,1,5] Z) ⟨j,⟨by omega,by
   rw [Rh (by omega:j<a.length),Rh (by omega:j<b.length),i,(aD.1 l).2,(aD.1 hy).2,W]⟩,rfl,rfl,rfl⟩
 have A:k=0:=by
  have:¬ (0:Int)<=(k:Int)-1:=by simpa using t
  omega
 subst A;refine Uu 1 [4] Z<|UC U2 ?_;have X:a=b:=by simpa using i
 subst X;exact ⟨by rw [show jG (bB a) (bB a)=0 from by unfold jG;rw [az om_,az om_]],Z⟩
theorem xd (h:i<l.length):l[i]?=some (g9 l i):=by rw [aj h,yM (aj h)]
theorem jn (h:i<l.length):(l.map cm)[i]?=some (cm (g9 l i)):=by rw [QU,xd h];rfl
theorem L4 (h:l.length<=i):g9 l i=0:=by
 unfold g9;rw [au,QY h];rfl
theorem B9v:B9=1000000000:=rfl
theorem M9 (C:Mem)(z E:Value)(a b:List Nat)(p:Sl C 1 z (a.map cm))(q:Sl C 1 E (b.map cm))(F:Dig9 a)(H:Dig9 b)(N:a.length<=10000000)(O:b.length<=10000000) :
  Pur cx.P 215 [z,E] C fun u C'=>NineC C' u (bB a+bB b):=by
 obtain ⟨A0,c0,rfl,_⟩:=id p;obtain ⟨B0,d0,rfl,_⟩:=id q;simp only [al] at p q ⊢;have hB:=B9v;refine UD func215 53 U3 fun w0=>Uu 1 [0,1] Z<|Uu 5 [0,1,13] Z<|G.cut (fun fr C' k l=>∃ (e lb:List Nat)(A:Option Addr)(c:Nat)(B:Option Addr)(d:Nat),(Sl C' 1 (.slice A e.length c) (e.map cm)/\Sl C' 1 (.slice B lb.length d) (lb.map cm)/\lb.length<=e.length/\bB e+bB lb=bB a+bB b/\Dig9 e/\Dig9 lb/\e.length<=10000000)/\fr=[(0,[],.slice A e.length c),(1,[],.slice B lb.length d)]/\k=[]) ?_ (fun fr _ ai l _ o=>?_)
 ·refine Ux (fun s=>?_) fun s=>?_
  ·have Q:a.length<b.length:=by
    have:(a.length:Int)<b.length:=by simpa using s
    omega
   refine Uu 4 [0,1] Z<|UL 0 (Mem.le.refl _) (hn_ [0,1] Z) ⟨b,a,_,_,_,_,⟨q.mono mup,p.mono mup,by omega,by omega,H,F,O⟩,Z,Z⟩
  have Q:¬ a.length<b.length:=fun h=>by
   have:(a.length:Int)<b.length:=by omega
   simp [this] at s
  refine UL 0 (Mem.le.refl _) (hn_ [0,1] Z) ⟨a,b,_,_,_,_,⟨p.mono mup,q.mono mup,by omega,Z,F,H,N⟩,Z,Z⟩
 obtain ⟨e ,lb ,A ,c ,B ,d,⟨S,T,U,V,W,X,aj⟩,rfl,rfl⟩:=o;refine Uv 2 Z fun R g=>UF _ U7<|Vy U9 (QT _) (by show 8*(e.length+1)<=281474976710656;omega) (by simp only [maxLen];omega) fl_ fun ak=>C4 1 [0,1,5] g Z<|Uu 1 [0,1,5,6] Z<|Uu 3 [1,5,6,20,21,22] Z<|G.loop (fun fr C' k l=>∃ (i:Nat)(out:List Nat)(f:Nat)(w:Value),(i<=e.length/\out.length=i/\Dig9 out/\f<=1/\bB out+B9 ^ i*f=bB (e.take i)+bB (lb.take i))/\fr=[(1,[],.slice B lb.length d),(5,[],w),(6,[],.int .u64 f),(20,[],.slice A e.length c),(21,[],.int .i64 e.length),(22,[],.int .i64 i)]/\k=[.arr w 160 1 i (out.map cm).flatten]/\l=e.length-i) (hn_ [1,5,6,20,21,22] Z) ⟨0,[],0,_,⟨QT _,Z,(fun x Y=>(by cases Y)),by omega,Z⟩,Z,Z,Z⟩ (fun fr am an m _ o=>?_);obtain ⟨i,out,f,w,⟨hi,r,I,J,K⟩,rfl,rfl,rfl⟩:=o;refine Uu 1 [1,5,6,20,21,22,23] Z<|Ux (fun t=>?_) fun t=>?_
 ·have v:i<e.length:=by simpa using t
  have aa:=kP W i;have ab:=kP X i;refine Uv 1 Z fun R g=>UK S.m_ U10 om_ (jn (i:=i) v) fl_ fun ao ac=>Uw ac U8<|C4 2 [1,5,6,7,8,20,21,22] g Z<|Uv 2 Z fun R g=>D.int (((f+g9 e i:Nat):Int)) U4 (by rw [IntKind.wrap_u64];omega) U2<|C4 1 [1,5,6,7,20,21,22] g Z<|Uu 4 [1,5,6,7,20,21,22,33] Z<|G.cut (fun fr C' k l=>(True)/\fr=[(1,[],.slice B lb.length d),(5,[],w),(6,[],.int .u64 ((f+g9 e i+g9 lb i:Nat):Int)),(20,[],.slice A e.length c),(21,[],.int .i64 e.length),(22,[],.int .i64 i)]/\k=[.arr w 160 1 i (out.map cm).flatten]) ?_ (fun fr _ ap l _ o=>?_)
  ·refine Ux (fun y=>?_) fun y=>?_
   ·have ad:i<lb.length:=by simpa using y
    refine Uv 3 Z fun R g=>UK T.m_ U10 om_ (jn (i:=i) ad) fl_ fun aq ae=>Uw ae U8<|D.int (((f+g9 e i+g9 lb i:Nat):Int)) U4 (by rw [IntKind.wrap_u64];omega) U2<|C4 1 [1,5,6,20,21,22] g Z<|UL 0 (Mem.le.refl _) (hn_ [1,5,6,20,21,22] Z) ⟨trivial,Z,Z⟩
   have hz:g9 lb i=0:=L4 (by have h:¬ i<lb.length:=(by simpa using y);omega);refine UL 0 (Mem.le.refl _) (hn_ [1,5,6,20,21,22] Z) ⟨trivial,by rw [hz];rfl,Z⟩
  obtain ⟨ar,rfl,rfl⟩:=o;refine Uv 2 Z fun R g=>Vt (f+g9 e i+g9 lb i) (B9) U6 om_ U2<|UR [cm ((f+g9 e i+g9 lb i) % B9)] U12 fun au _ _ af=>D.append (j:=0) U11 af Z ax (by show (i+1)*8<=_;omega) fl_ fun L=>C4 1 [1,5,6,20,21,22] g Z<|Uv 1 Z fun R g=>VD (f+g9 e i+g9 lb i) (B9) U6 om_ (.inr ⟨Z,by omega⟩) U2<|C4 1 [1,5,6,20,21,22] g Z<|Uz fun R g=>UF _ U7<|C4 1 [1,5,6,20,21,22] g Z ?_;have M:f+g9 e i+g9 lb i=g9 e i+g9 lb i+f:=by omega
  refine UN (L':=[.arr L 160 1 (i+1) ((out++[(g9 e i+g9 lb i+f) % B9]).map cm).flatten]) (by rw [M];simp [cm]) ?_;rw [M];refine UH (m':=e.length-(i+1)) om_ mup (hn_ [1,5,6,20,21,22] Z) ⟨i+1,out++[(g9 e i+g9 lb i+f) % B9],(g9 e i+g9 lb i+f) / B9,L,⟨by omega,by simp [r],I.snoc (Ry _ dc_),HY aa ab J,Ie r K⟩,Z,Z,Z⟩
 have v:i=e.length:=by
  have:¬ i<e.length:=by simpa using t
  omega
 refine UW [(4,3)] Z fun R g=>UB 2 Z<|UR [cm f] U12 fun av _ _ ag=>D.append (j:=0) U11 ag Z ax (by show (i+1)*8<=_;omega) fl_ fun aw=>D.call (gv _ _ (out++[f]) (n:=i+1) (by simp [r])) Z (.inr dc_) U6 (by rw [Ru,Rz];exact QW _) fl_ (fun ay _ az _ ah=>?_);obtain ⟨rfl,hu⟩:=ah;refine C4 1 [4] g Z<|UC U2<|⟨Z,EG (out++[f]),iw (I.snoc (RJ J dc_)), ?_,hu⟩;rw [iv,iR,r,K,v,Q2,Re U,V]
theorem JX (C:Mem)(F H:Value)(a b:List Nat)(p:Sl C 1 F (a.map cm))(q:Sl C 1 H (b.map cm))(K:Dig9 a)(I:Dig9 b)(ab:a.length<=10000000)(L:b.length<=a.length)(ac:bB b<=bB a) :
  Pur cx.P 218 [F,H] C fun u C'=>NineC C' u (bB a-bB b):=by
 obtain ⟨r,c0,rfl,_⟩:=id p;obtain ⟨s,t,rfl,_⟩:=id q;simp only [al] at p q ⊢;have M:=B9v;refine UD func218 45 U3 fun w0=>Uu 1 [0,1] Z<|Uv 2 Z fun R d=>Vy U9 (QT _) (by show 8*a.length<=281474976710656;omega) (by simp only [maxLen];omega) fl_ fun ad=>C4 1 [0,1,5] d Z<|Uu 1 [0,1,5,6] Z<|Uu 3 [1,5,6,13,14,15] Z<|G.loop (fun fr C' e f=>∃ (i:Nat)(out:List Nat)(c:Nat)(w:Value),(i<=a.length/\out.length=i/\Dig9 out/\c<=1/\bB out+bB (b.take i)=bB (a.take i)+B9 ^ i*c)/\fr=[(1,[],.slice s b.length t),(5,[],w),(6,[],.int .u64 c),(13,[],.slice r a.length c0),(14,[],.int .i64 a.length),(15,[],.int .i64 i)]/\e=[.arr w 160 1 i (out.map cm).flatten]/\f=a.length-i) (hn_ [1,5,6,13,14,15] Z) ⟨0,[],0,_,⟨QT _,Z,(fun x N=>(by cases N)),by omega,Z⟩,Z,Z,Z⟩ (fun fr ae af m _ g=>?_);obtain ⟨i,out,c,w,⟨hi,k,v,y,l⟩,rfl,rfl,rfl⟩:=g;refine Uu 1 [1,5,6,13,14,15,16] Z<|Ux (fun z=>?_) fun z=>?_
 ·have o:i<a.length:=by simpa using z
  have O:=kP K i;have Q:=kP I i;refine Uv 1 Z fun R d=>UK p.m_ U10 om_ (jn (i:=i) o) fl_ fun ag S=>Uw S U8<|C4 2 [1,5,6,7,8,13,14,15] d Z<|Uu 2 [1,5,7,8,9,13,14,15] Z<|Uu 4 [1,5,7,8,9,13,14,15,24] Z<|G.cut (fun fr C' e f=>(True)/\fr=[(1,[],.slice s b.length t),(5,[],w),(8,[],.int .u64 (g9 a i)),(9,[],.int .u64 ((c+g9 b i:Nat):Int)),(13,[],.slice r a.length c0),(14,[],.int .i64 a.length),(15,[],.int .i64 i)]/\e=[.arr w 160 1 i (out.map cm).flatten]) ?_ (fun fr _ ah f _ g=>?_)
  ·refine Ux (fun A=>?_) fun A=>?_
   ·have T:i<b.length:=by simpa using A
    refine Uv 3 Z fun R d=>UK q.m_ U10 om_ (jn (i:=i) T) fl_ fun ai U=>Uw U U8<|D.int (((c+g9 b i:Nat):Int)) U4 (by rw [IntKind.wrap_u64];omega) U2<|C4 1 [1,5,8,9,13,14,15] d Z<|UL 0 (Mem.le.refl _) (hn_ [1,5,8,9,13,14,15] Z) ⟨trivial,Z,Z⟩
   have V:g9 b i=0:=L4 (by have h:¬ i<b.length:=(by simpa using A);omega);refine UL 0 (Mem.le.refl _) (hn_ [1,5,8,9,13,14,15] Z) ⟨trivial,by rw [V];rfl,Z⟩
  obtain ⟨aj,rfl,rfl⟩:=g;refine Uu 1 [1,5,6,8,9,13,14,15] Z<|Uu 3 [1,5,6,8,9,13,14,15,33] Z<|G.cut (fun fr C' e f=>(True)/\fr=[(1,[],.slice s b.length t),(5,[],w),(6,[],.int .u64 ((vA (g9 a i) (g9 b i) c:Nat):Int)),(8,[],.int .u64 ((g9 a i+B9*vA (g9 a i) (g9 b i) c:Nat):Int)),(9,[],.int .u64 ((c+g9 b i:Nat):Int)),(13,[],.slice r a.length c0),(14,[],.int .i64 a.length),(15,[],.int .i64 i)]/\e=[.arr w 160 1 i (out.map cm).flatten]) ?_ (fun fr _ ak f _ g=>?_)
  ·refine Ux (fun B=>?_) fun B=>?_
   ·have E:vA (g9 a i) (g9 b i) c=1:=by
     have:(g9 a i:Int)<((c+g9 b i:Nat):Int):=by simpa using B
     unfold vA;rw [aW om_]
    refine Uv 1 Z fun R d=>D.int (((g9 a i+B9*1:Nat):Int)) U4 (by rw [IntKind.wrap_u64];omega) U2<|C4 2 [1,5,6,8,9,13,14,15] d Z<|UL 0 (Mem.le.refl _) (hn_ [1,5,6,8,9,13,14,15] Z) ⟨trivial,by rw [E];rfl,Z⟩
   have E:vA (g9 a i) (g9 b i) c=0:=by
    have:¬ (g9 a i:Int)<((c+g9 b i:Nat):Int):=by simpa using B
    unfold vA;rw [az om_]
   refine UL 0 (Mem.le.refl _) (hn_ [1,5,6,8,9,13,14,15] Z) ⟨trivial,by rw [E];rfl,Z⟩
  obtain ⟨am,rfl,rfl⟩:=g;refine Uv 3 Z fun R d=>?_;have an:vA (g9 a i) (g9 b i) c<=1:=H1 _ _ _;have W:c+g9 b i<=g9 a i+B9*vA (g9 a i) (g9 b i) c:=by
   unfold vA;split <;> omega
  refine D.int (((Hz (g9 a i) (g9 b i) c:Nat):Int)) U4 (by rw [IntKind.wrap_u64];unfold Hz;rw [M] at W ⊢;omega) U2<|UR [cm (Hz (g9 a i) (g9 b i) c)] U12 fun ao _ _ X=>D.append (j:=0) U11 X Z ax (by show (i+1)*8<=_;omega) fl_ fun J=>C4 1 [1,5,6,13,14,15] d Z<|Uz fun R d=>UF _ U7<|C4 1 [1,5,6,13,14,15] d Z<|UN (L':=[.arr J 160 1 (i+1) ((out++[Hz (g9 a i) (g9 b i) c]).map cm).flatten]) (by simp [cm])<|UH (m':=a.length-(i+1)) om_ mup (hn_ [1,5,6,13,14,15] Z) ⟨i+1,out++[Hz (g9 a i) (g9 b i) c],vA (g9 a i) (g9 b i) c,J,⟨by omega,by simp [k],v.snoc (NZ O Q y),H1 _ _ _,E9 I y k l⟩,Z,Z,Z⟩
 have o:i=a.length:=by
  have:¬ i<a.length:=by simpa using z
  omega
 refine UW [(1,3)] Z fun R d=>Uy U6<|D.call (gv _ _ out (n:=i) k) Z (.inr dc_) U6 (QW _) fl_ (fun ap _ aq _ Y=>?_);obtain ⟨rfl,hu⟩:=Y;refine C4 1 [4] d Z<|UC U2<|⟨Z,EG out,iw v, ?_,hu⟩;rw [o,Q2,Re L] at l;have h0:=iS v;rw [k,o] at h0;have aa:c=0:=by
  rcases Nat.le_one_iff_eq_zero_or_eq_one.1 y with h | h
  ·exact h
  rw [h,SK] at l;omega
 rw [aa,Nat.mul_zero] at l;rw [iv];omega
abbrev qU (g c n:Nat):Value:=.slice (some ⟨g,0,none⟩) n c
theorem EH (n:Nat):kl ([.int .u64 0]:List Value) n=((List.replicate n 0).map cm).flatten:=by
 rw [ek,TY];rfl
theorem qi {j z:Nat}(h:i≠j):g9 (l.set i z) j=g9 l j:=by
 unfold g9;rw [au,au,Uh h]
theorem BS (n j:Nat):g9 (List.replicate n 0) j=0:=by
 unfold g9;rw [au,SG];split <;> rfl
theorem IR (C:Mem)(S T:Value)(a b:List Nat)(v:Sl C 1 S (a.map cm))(w:Sl C 1 T (b.map cm))(ag:Dig9 a)(ai:Dig9 b)(av:a.length<=1000000)(aw:b.length<=1000000) :
  Pur cx.P 219 [S,T] C fun u C'=>NineC C' u (bB a*bB b):=by
 obtain ⟨y,c0,rfl,_⟩:=id v;obtain ⟨s,t,rfl,_⟩:=id w;simp only [al] at v w ⊢;have hB:=B9v;obtain ⟨N,hN⟩:∃ N,a.length+b.length+1=N:=⟨_,rfl⟩;refine UD func219 79 U3 fun w0=>Uu 1 [0,1] Z<|Uv 4 Z fun R d=>Vf (((a.length+b.length:Nat):Int)) U4 om_ om_ om_ U2<|Vf (((N:Nat):Int)) U4 om_ om_ om_ U2<|Vy U9 (QO _) (by show 8*N<=281474976710656;omega) (by simp only [maxLen];omega) fl_ fun f=>C4 1 [0,1,5] d Z<|Uu 3 [1,5,19,20,21] Z<|UN (L':=[.arr (qU f N N) 160 1 N ((List.replicate N 0).map cm).flatten]) (by rw [<- EH];rfl)<|G.loop (fun fr C' g n=>∃ (i:Nat)(o:List Nat),(i<=a.length/\o.length=N/\Dig9 o/\bB o=bB (a.take i)*bB b/\∀ j,i+b.length<=j->g9 o j=0)/\fr=[(1,[],.slice s b.length t),(5,[],qU f N N),(19,[],.slice y a.length c0),(20,[],.int .i64 a.length),(21,[],.int .i64 i)]/\g=[.arr (qU f N N) 160 1 N (o.map cm).flatten]/\n=a.length-i) (hn_ [1,5,19,20,21] Z) ⟨0,List.replicate N 0,⟨QT _,Sj,(fun x l=>by rw [S1 l];decide),by rw [rI (fun x l=>S1 l)];simp [bB],fun j _=>BS _ j⟩,Z,Z,Z⟩ (fun fr ax ay m _ p=>?_);obtain ⟨i,o,⟨hi,U,V,W,hz⟩,rfl,rfl,rfl⟩:=p;refine Uu 1 [1,5,19,20,21,22] Z<|Ux (fun A=>?_) fun A=>?_
 ·have B:i<a.length:=by simpa using A
  have l:=kP ag i;refine Uv 1 Z fun R d=>UK v.m_ U10 om_ (jn (i:=i) B) fl_ fun az aj=>Uw aj U8<|C4 2 [1,5,6,7,19,20,21] d Z<|Uu 1 [1,5,6,7,8,19,20,21] Z<|Uu 3 [1,5,6,7,8,19,20,21,26,27,28] Z<|G.loop (fun fr C' g n=>∃ (k:Nat)(q:List Nat)(c:Nat),(k<=b.length/\q.length=N/\Dig9 q/\c<B9/\bB q+B9 ^ (i+k)*c=bB o+B9 ^ i*(g9 a i*bB (b.take k))/\∀ j,i+b.length<=j->g9 q j=0)/\fr=[(1,[],.slice s b.length t),(5,[],qU f N N),(6,[],.int .i64 i),(7,[],.int .u64 (g9 a i)),(8,[],.int .u64 c),(19,[],.slice y a.length c0),(20,[],.int .i64 a.length),(21,[],.int .i64 i),(26,[],.slice s b.length t),(27,[],.int .i64 b.length),(28,[],.int .i64 k)]/\g=[.arr (qU f N N) 160 1 N (q.map cm).flatten]/\n=b.length-k) (hn_ [1,5,6,7,8,19,20,21,26,27,28] Z) ⟨0,o,0,⟨QT _,U,V,by decide,by simp [bB],hz⟩,Z,Z,Z⟩ (fun fr aA aB m _ p=>?_);obtain ⟨k,q,c,⟨hk,E,F,H,I,J⟩,rfl,rfl,rfl⟩:=p;refine Uu 1 [1,5,6,7,8,19,20,21,26,27,28,29] Z<|Ux (fun K=>?_) fun K=>?_
  ·have L:k<b.length:=by simpa using K
   have hy:=kP ai k;have X:=kP F (i+k);have Y:q[i+k]?=some (g9 q (i+k)):=xd om_;have ak:=sf H l hy X;rw [show B9*B9=1000000000000000000 from rfl] at ak;refine Uv 1 Z fun R d=>UK w.m_ U10 om_ (jn (i:=k) L) fl_ fun aC am=>Uw am U8<|C4 2 [1,5,6,7,8,9,10,19,20,21,26,27,28] d Z<|Uv 4 Z fun R d=>Vf (((i+k:Nat):Int)) U4 om_ om_ om_ U2<|Va ((i+k)*1) U10 ah U2<|Vn af U6 (fun _=>(by rw [eE eG Y];rfl)) U2<|UB 2 Z<|D.int (((g9 a i*g9 b k:Nat):Int)) U4 (by rw [<- RN,IntKind.wrap_u64];omega) U2<|D.int (((g9 q (i+k)+g9 a i*g9 b k:Nat):Int)) U4 (by rw [IntKind.wrap_u64];omega) U2<|D.int (((c+g9 a i*g9 b k+g9 q (i+k):Nat):Int)) U4 (by rw [IntKind.wrap_u64];omega) U2<|C4 1 [1,5,6,7,8,9,19,20,21,26,27,28] d Z<|Uv 3 Z fun R d=>Vf (((i+k:Nat):Int)) U4 om_ om_ om_ U2<|Uy U6<|Vt (c+g9 a i*g9 b k+g9 q (i+k)) (B9) U6 om_ U2<|Va ((i+k)*1) U10 ah U2<|Vc (j:=0) U11 (by show (i+k)*1+1<=_;rw [bS eG,E];omega)<|UA [1,5,6,7,8,19,20,21,26,27,28] d Z<|Uv 1 Z fun R d=>VD (c+g9 a i*g9 b k+g9 q (i+k)) (B9) U6 om_ (.inr ⟨Z,by omega⟩) U2<|C4 1 [1,5,6,7,8,19,20,21,26,27,28] d Z<|Uz fun R d=>UF _ U7<|C4 1 [1,5,6,7,8,19,20,21,26,27,28] d Z<|UN (L':=[.arr (qU f N N) 160 1 N ((q.set (i+k) ((c+g9 a i*g9 b k+g9 q (i+k)) % B9)).map cm).flatten]) (by rw [<- bN eG _ (by omega:i+k<q.length)];rfl)<|UH (m':=b.length-(k+1)) om_ mup (hn_ [1,5,6,7,8,19,20,21,26,27,28] Z) ⟨k+1,q.set (i+k) ((c+g9 a i*g9 b k+g9 q (i+k)) % B9),(c+g9 a i*g9 b k+g9 q (i+k)) / B9,⟨by omega,by simp [E],F.set (Ry _ dc_),HX H l hy X,Gs Y Z I,fun j r=>by rw [qi om_];exact J j r⟩,Z,Z,Z⟩
  have L:k=b.length:=by
   have:¬ k<b.length:=by simpa using K
   omega
  refine Uv 3 Z fun R d=>Vf (((i+b.length:Nat):Int)) U4 om_ om_ om_ U2<|C4 1 [1,5,8,11,19,20,21] d Z<|G.loop (fun fr C' g n=>∃ (m:Nat)(e:List Nat)(c2:Nat),(i+b.length<=m/\m<=i+b.length+1/\e.length=N/\Dig9 e/\c2<B9/\(m=i+b.length+1->c2=0)/\(m=i+b.length->g9 e m=0)/\bB e+B9 ^ m*c2=bB o+B9 ^ i*(g9 a i*bB b)/\∀ j,i+b.length+1<=j->g9 e j=0)/\fr=[(1,[],.slice s b.length t),(5,[],qU f N N),(8,[],.int .u64 c2),(11,[],.int .i64 m),(19,[],.slice y a.length c0),(20,[],.int .i64 a.length),(21,[],.int .i64 i)]/\g=[.arr (qU f N N) 160 1 N (e.map cm).flatten]/\n=2-(m-(i+b.length))) (hn_ [1,5,8,11,19,20,21] Z) ⟨i+b.length,q,c,⟨QO _,by omega,E,F,H,fun h=>by omega,fun _=>J _ (QO _),by rw [L,Q2] at I;exact I,fun j r=>J j om_⟩,Z,Z,Z⟩ (fun fr aD aE m _ p=>?_);obtain ⟨m,e,c2,⟨aF,aG,M,aa,O,an,ao,ab,ac⟩,rfl,rfl,rfl⟩:=p;refine Uu 2 [1,5,8,11,19,20,21,60] Z<|Ux (fun h60=>?_) fun h60=>?_
  ·have ad:0<c2:=by
    have:(0:Int)<(c2:Int):=by simpa using h60
    omega
   have ap:m=i+b.length:=by
    rcases Rr m (i+b.length+1) with h | h
    ·omega
    have:=an om_;omega
   have Q:=ao ap;have ae:e[m]?=some (g9 e m):=xd om_;refine Uv 3 Z fun R d=>Va (m*1) U10 ah U2<|Vn af U6 (fun _=>(by rw [eE eG ae];rfl)) U2<|D.int (((c2+g9 e m:Nat):Int)) U4 (by rw [IntKind.wrap_u64];omega) U2<|C4 1 [1,5,8,11,19,20,21] d Z<|Uv 3 Z fun R d=>Vt (c2+g9 e m) (B9) U6 om_ U2<|Va (m*1) U10 ah U2<|Vc (j:=0) U11 (by show m*1+1<=_;rw [bS eG,M];omega)<|UA [1,5,8,11,19,20,21] d Z<|Uv 1 Z fun R d=>VD (c2+g9 e m) (B9) U6 om_ (.inr ⟨Z,by omega⟩) U2<|C4 1 [1,5,8,11,19,20,21] d Z<|Uv 1 Z fun R d=>UF _ U7<|C4 1 [1,5,8,11,19,20,21] d Z ?_;have aq:(c2+g9 e m) % B9=c2:=by rw [Q,SU];exact Ti O
   have ar:(c2+g9 e m) / B9=0:=by rw [Q,SU];exact Tj O
   refine UN (L':=[.arr (qU f N N) 160 1 N ((e.set m c2).map cm).flatten]) (by rw [aq,<- bN eG _ (by omega:m<e.length)];rfl) ?_;rw [ar];refine UH (m':=2-(m+1-(i+b.length))) om_ mup (hn_ [1,5,8,11,19,20,21] Z) ⟨m+1,e.set m c2,0,⟨by omega,by omega,by simp [M],aa.set O,by decide,fun _=>rfl,fun h=>by omega,by
    have h1:=tI (z:=c2) ae;rw [Q] at h1;omega,fun j r=>by rw [qi om_];exact ac j r⟩,rfl,rfl,rfl⟩
  have ad:c2=0:=by
   have:¬ (0:Int)<(c2:Int):=by simpa using h60
   omega
  refine Uz fun R d=>UF _ U7<|C4 1 [1,5,19,20,21] d Z<|UH (m':=a.length-(i+1)) om_ mup (hn_ [1,5,19,20,21] Z) ⟨i+1,e,⟨by omega,M,aa,by
   rw [ad,Nat.mul_zero,SU] at ab;rw [mJ,SJ,<- W,Te];exact ab,fun j r=>ac j om_⟩,Z,Z,Z⟩
 have B:i=a.length:=by
  have:¬ i<a.length:=by simpa using A
  omega
 refine UW [(1,3)] Z fun R d=>Uy U6<|D.call (gv _ _ o U) Z (.inr dc_) U6 (QW _) fl_ (fun aH _ aI _ au=>?_);obtain ⟨rfl,hu⟩:=au;refine C4 1 [4] d Z<|UC U2<|⟨Z,EG o,iw V, ?_,hu⟩;rw [iv,W,B,Q2]
theorem sY (h:xZ l)(a:bB l<B9 ^ m):l.length<=m:=by
 rcases Rr m l.length with h1 | h1
 ·have h2:=ve h om_;have h3:B9 ^ m<=B9 ^ (l.length-1):=Rn dc_ om_;omega
 exact h1
theorem NineC.get (h:NineC C v n)(a:n<B9 ^ m):∃ l,xZ l/\bB l=n/\l.length<=m/\Sl C 1 v (l.map cm):=by
 obtain ⟨l,h1,h2,h3⟩:=h;exact ⟨l,h1,h2,sY h1 (by rw [h2];exact a),h3⟩
theorem NineC.zero (C:Mem):NineC C (.slice none 0 0) 0:=⟨[],⟨(fun x a=>(by cases a)),by simp⟩,rfl,Sl.nil C 1⟩
theorem NineC.form (h:NineC C v n):∃ A m c,v=.slice A m c:=by
 obtain ⟨l,_,_,A,c,h,_⟩:=h;exact ⟨A,_,c,h⟩
theorem dB (h:m<B9 ^ n)(a:n<=k):m<B9 ^ k:=Sc h (Rn dc_ a)
theorem pG (C:Mem)(c:NineC C u m)(d:NineC C v n):Gives cx.P 217 [u,v] C (.int .i64 (jG m n)):=by
 obtain ⟨a,h1,h2,h3⟩:=c;obtain ⟨b,h4,h5,e⟩:=d;rw [<- h2,<- h5];exact Ge C u v a b h3 e h1 h4
theorem LQ (C:Mem)(c:NineC C u m)(d:NineC C v n)(e:m<B9 ^ k)(f:n<B9 ^ k)(i:k<=1000000):Pur cx.P 215 [u,v] C fun w D=>NineC D w (m+n):=by
 obtain ⟨a,h1,h2,h3,h4⟩:=c.get e;obtain ⟨b,h5,g,j,h⟩:=d.get f;rw [<- h2,<- g];exact M9 C u v a b h4 h h1.1 h5.1 om_ om_
theorem ur (C:Mem)(c:NineC C u m)(d:NineC C v n)(e:m<B9 ^ k)(i:n<=m)(j:k<=1000000):Pur cx.P 218 [u,v] C fun w D=>NineC D w (m-n):=by
 obtain ⟨a,h1,h2,h3,h4⟩:=c.get e;obtain ⟨b,h5,f,g⟩:=d;rw [<- h2,<- f];refine JX C u v a b h4 g h1.1 h5.1 om_ ?_ om_;rcases Rr a.length b.length with h | h
 ·have:=uv h1.1 h5 h;omega
 exact h
theorem E1 (C:Mem)(c:NineC C u m)(d:NineC C v n)(e:m<B9 ^ k)(f:n<B9 ^ k)(i:k<=1000000):Pur cx.P 219 [u,v] C fun w D=>NineC D w (m*n):=by
 obtain ⟨a,h1,h2,h3,h4⟩:=c.get e;obtain ⟨b,h5,g,j,h⟩:=d.get f;rw [<- h2,<- g];exact IR C u v a b h4 h h1.1 h5.1 om_ om_
theorem vL (C:Mem)(a:Dig9 l)(b:Sl C 1 u (l.map cm)):Pur cx.P 252 [u] C fun w D=>NineC D w (bB l) :=
 (Am C u l b).mono fun _c _d _e _ ⟨h1,h2⟩=>⟨h1,EG l,iw a,iv l,h2⟩
theorem yi (C:Mem){d:Nat}(a:NineC C u m)(f:m<B9 ^ k)(g:d<B9)(p:k<=999999):Pur cx.P 279 [u,.int .u64 d] C fun w D=>NineC D w (m*d):=by
 obtain ⟨A,n,c,rfl⟩:=a.form;refine UD func279 10 U3 fun w0=>Uu 1 [0,1] Z<|Uv 2 Z fun R h=>UR [cm d] U12 fun q _ _ i=>U0 (vL _ (l:=[d]) (fun x j=>by rw [Rc.1 j];exact g) i) U7 fl_ fun r _ _ o=>U0 (E1 (k:=k+1) _ a.m_ o (dB f om_) (by show d+B9*0<_;rw [R8];have:0<B9 ^ k:=Tm dc_;have h2:=RQ B9 this;omega) om_) U7 fl_ fun s _ _ b=>C4 1 [4] h Z<|UC U2<|⟨Z, ?_⟩;have e:bB [d]=d:=by show d+B9*0=d;omega
 rw [e] at b;exact b
open Go Go.Jog Go.RowKit Go.Shelf
attribute [local go_sem] Oper.semAt_some
set_option maxRecDepth 100000 in
theorem K7 (l Bs b off len cap:Nat)(zs:Nat->Int)(hlen:len<1000000)(J:Nat->World->Prop)
  (hJ:∀ k W,J k W->W.cell? ⟨Bs,0,none⟩=some (.slice (some ⟨b,off,none⟩) len cap)/\∀ j,j<len->W.cell? ⟨b,off+j,none⟩=some (.int .u64 (zs j)))
  (hY:∀ k W,J k W->k<len->YieldAt Fence.wide 1 Tryz.prog l #[.int .i64 ((len-1-k:Nat):Int),.int .u64 (zs (len-1-k))] W fun e W'=>e=.returned (.bool true)/\J (k+1) W')
  (W:World) (h0:J 0 W) :
  CallsIn Fence.wide 2 Tryz.prog 285 #[.func (.yield l) #[] #[],.pointer (some ⟨Bs,0,none⟩)] W fun e W'=>(∃ v,e=.returned v)/\J len W':=by
 refine callsIn_of_wp func285 Z trivial ?_ Z;simp only [Tryz.ntmps285,SM,Q8,Q7,Nat.reduceAdd,Nat.reduceSub,Ui,Uj,List.push_toArray,List.append_toArray,SI,SD];have hBs:=(hJ 0 W h0).1
 gi_wp2
 gi_loopw [3] (fun i wr=>∃ k:Nat,k<=len/\i=.int .i64 ((len:Int)-1-k)/\J k wr) (fun i _=>(intOf i+1).toNat)
 case atStart=>exact ⟨0,QT _,by simp,h0⟩
 case round =>
  obtain ⟨k,hk,rfl,hJs⟩:=hrel;obtain ⟨hB2,hcx⟩:=hJ k wr hJs;by_cases hlt:k<len
  ·obtain ⟨fn,tmps,assign,body,hy,hR⟩:=hY k wr hJs hlt;have hcx':=hcx (len-1-k) om_;have e1:((len-1-k:Nat):Int)=(len:Int)-1-k:=by omega
   rw [e1] at hy
   gi_wp2
   refine hR.mono ?_;rintro e W3 ⟨rfl,hJ3⟩
   gi_wp2
   go_roundw
   case rel=>exact ⟨k+1,by omega,by congr 1;omega,hJ3⟩
   case measure=>simp [intOf];omega
  obtain rfl:k=len:=by omega
  gi_wp2
  go_end0
  exact ⟨⟨_,Z⟩,hJs⟩
set_option maxRecDepth 100000 in
theorem xH (l Bs:Nat)(A:Option Addr)(cap:Nat)(J:Nat->World->Prop)(W:World)(hBs:W.cell? ⟨Bs,0,none⟩=some (.slice A 0 cap))(h0:J 0 W) :
  CallsIn Fence.wide 2 Tryz.prog 285 #[.func (.yield l) #[] #[],.pointer (some ⟨Bs,0,none⟩)] W fun e W'=>(∃ v,e=.returned v)/\J 0 W':=by
 refine callsIn_of_wp func285 Z trivial ?_ Z;simp only [Tryz.ntmps285,SM,Q8,Q7,Nat.reduceAdd,Nat.reduceSub,Ui,Uj,List.push_toArray,List.append_toArray,SI,SD]
 gi_wp2
 gi_loopw [3] (fun i wr=>i=.int .i64 (-1)/\J 0 wr) (fun _ _=>0)
 case atStart=>exact ⟨rfl,h0⟩
 case round =>
  obtain ⟨rfl,hJs⟩:=hrel
  gi_wp2
  go_end0
  exact ⟨⟨_,Z⟩,hJs⟩
def H8 (xs:List Nat):List (Value × Value):=(List.range xs.length).map fun k=>(.int .i64 ((xs.length-1-k:Nat):Int),.int .u64 ((xs.getD (xs.length-1-k) 0:Nat):Int))
theorem fR (a:List Nat):(H8 a).length=a.length:=by simp [H8]
theorem vg {a:List Nat}(h:k<a.length):(H8 a)[k]?=some (.int .i64 ((a.length-1-k:Nat):Int),.int .u64 ((a.getD (a.length-1-k) 0:Nat):Int)):=by
 simp [H8,h]
theorem tf (C:Mem)(b t:Nat)(v:Value)(a:List Nat)(p:C b=some (.cells ⟨[v]⟩ t (0,0)))(q:Sl C 1 v (a.map fun n:Nat=>[Value.int .u64 (n:Int)]))(r:a.length<1000000) :
  P9 Tryz.prog 285 #[.pointer (some ⟨b,0,none⟩)] C (H8 a):=by
 intro l J W hC B s h0;obtain ⟨A,d,rfl,D,_,_,e⟩:=q;rw [al] at *;have f:∀ {W:World}{k:Nat},J k W->W.cell? ⟨b,0,none⟩=some (.slice A a.length d):=fun {W k} c=>by
  simp [World.cell?,hC k W c b _ p]
 rw [fR];rcases Sh a.length with h | h
 ·have h1:=f h0;rw [h] at h1 ⊢;exact xH l b A d J W h1 h0
 obtain ⟨u,rfl,g,_⟩:=e 0 _ (aj (by simpa using h));obtain ⟨i,w,E⟩:=u;simp only at g;subst g;refine K7 l b i w a.length d (fun j=>((a.getD j 0:Nat):Int)) r J (fun k W c=>⟨f c,fun j x=>?_⟩) (fun k W c y=>s k _ W c (vg y)) W h0;have h3:(a.map fun n:Nat=>[Value.int .u64 (n:Int)])[j]?=some [Value.int .u64 ((a.getD j 0:Nat):Int)]:=by
  simp [x]
 obtain ⟨a2,h4,_,h5⟩:=e j _ h3;cases h4
 have m:=h5 0 _ rfl;rw [Addr.add_lit] at m;obtain ⟨_,blk,F,fz,o,z⟩:=m;simp only at o;simp only [World.cell?,hC k W c i _ o];simpa using z
theorem CA (C:Mem)(A:Option Addr)(n c:Nat):Pur cx.P 254 [.slice A n c] C fun r C'=>∃ b,r=.func (.func 285) #[] #[.pointer (some ⟨b,0,none⟩)]/\C' b=some (.cells ⟨[.slice A n c]⟩ 305 (0,0)):=by
 exact UD func254 4 U3 fun w0=>Uz fun R a=>UQ U6 fun e=>C4 1 [1] a Z<|Uu 2 [2] Z<|G.freeze 0 Z fun f g d=>UC U2<|⟨Z,_,Z,d⟩
abbrev qW (b n c:Nat):Value:=.slice (some ⟨b,0,none⟩) n c
theorem DO (C:Mem)(s:Str)(c:UInt8):Gives cx.P 300 [ai s,.int .u8 c.toNat] C (.int .i64 (Lib.indexByte s c)):=by
 have h:=Gives.ofCalls (f:=300) (args:=[ai s,.int .u8 c.toNat]) (P:=cx.P) kr_ (fun w=>Any.stringslite_IndexByte Tryz.idxByte ⟨s.toArray⟩ (c.toNat:Int) w) C;simpa using h
theorem G5 (C:Mem)(s:Str)(c:UInt8):Gives cx.P 277 [ai s,ai [c]] C (.int .i64 (Lib.indexByte s c)):=by
 refine UD func277 143 U3 fun w0=>Uu 1 [0,1] Z<|Uu 3 [0,1,5] Z<|Uv 6 Z fun R a=>U1 U8<|C4 1 [0,1,5,16] a Z<|Ux (fun b=>?_) fun b=>?_
 ·refine Uu 1 [4] Z<|UC U2<|⟨?_,Z⟩;have h:([c]:Str)=s:=by simpa using b
  subst h;simp [Lib.indexByte]
 refine Uu 3 [0,1,5,24] Z<|Ux (fun d=>?_) fun d=>?_
 ·exact Uv 2 Z fun R a=>Vs U8 (fun _=>⟨by omega,(rfl:([c]:Str)[(0:Int).toNat]?=some c)⟩) U2<|UI (DO _ s c) U7<|C4 1 [4] a Z<|UC U2<|⟨Z,Z⟩
 exact absurd d am
theorem N4 (C:Mem)(s:Str)(c:UInt8)(g:s.length<1000000):Gives cx.P 246 [ai s,ai [c]] C (.tuple #[ai (jS c s).1,ai ((jS c s).2.getD []),.bool (jS c s).2.isSome]):=by
 refine UD func246 23 U3 fun w0=>Uu 3 [0,1] Z<|Uv 2 Z fun R b=>UI (G5 _ s c) U7<|C4 1 [0,1,7] b Z<|Uu 2 [0,1,7,12] Z<|Ux (fun d=>?_) fun d=>?_
 ·have h0:0<=Lib.indexByte s c:=by simpa using d
  obtain ⟨a,post,h1,h2,h3⟩:=KL h0;have h:s.length=a.length+1+post.length:=by rw [h2];simp;omega
  rw [h1,h3];refine US [0,1,2,3,4,5,6,7,8,9,10,11] [] Z kr_ fun R i b=>UB 2 Z<|Vw 0 a.length U9 (fun _=>⟨.inl ⟨Z,Z⟩,.inr ⟨_,Z⟩,.inl ⟨Z,Z⟩,by omega,by omega,QO _⟩) U2<|UB 4 Z<|Vf (((a.length+1:Nat):Int)) U4 am om_ om_ U2<|Vw (a.length+1) s.length U9 (fun _=>⟨.inr ⟨_,Z⟩,.inl ⟨Z,Z⟩,.inl ⟨Z,Z⟩,by omega,QO _,QO _⟩) U2<|C4 3 [4,5,6] b Z<|UJ (G.dropAll (Vv U4 ?_));refine ⟨?_,Z⟩;have e:(s.take a.length).drop 0=a:=by rw [h2];simp
  have f:(s.take s.length).drop (a.length+1)=post:=by rw [Q2,h2];simp
  rw [e,f];rfl
 have h0:¬ 0<=Lib.indexByte s c:=by simpa using d
 rw [HK h0];refine Uu 4 [4,5,6] Z<|UJ (G.dropAll (Vv U4 ?_));exact ⟨Z,Z⟩
theorem Mi (C:Mem)(s:Str)(c:UInt8)(a:s.length<1000000):Gives cx.P 206 [ai s,ai [c]] C (.tuple #[ai (jS c s).1,ai ((jS c s).2.getD []),.bool (jS c s).2.isSome]):=by
 refine UD func206 13 U3 fun w0=>Uu 3 [0,1] Z<|Uv 2 Z fun R b=>UI (N4 _ s c a) U7<|C4 6 [4,5,6] b Z<|UJ (G.dropAll (Vv U4 ?_));exact ⟨Z,Z⟩
theorem yK (C:Mem)(s:Str)(c:UInt8):Gives cx.P 280 [ai s,ai [c]] C (.bool (cM c s).2):=by
 refine UD func280 18 U3 fun w0=>Uu 1 [0,1] Z<|Uv 9 Z fun R d=>Vw 0 1 U9 (fun e=>⟨.inl ⟨Z,Z⟩,.inr ⟨_,Z⟩,.inl ⟨Z,Z⟩,by omega,(by have h:decide ((1:Int)<=(s.length:Int))=true:=e.1;simp at h;omega),QO _⟩) U2<|UB 2 Z<|UU U8<|C4 1 [4] d Z<|UC U2<|⟨?_,Z⟩;cases s with
 | nil=>rfl
 | cons b s =>
  have h1:decide ((1:Int)<=((b::s).length:Nat))=true:=by simp;omega
  unfold cM;by_cases a:b=c
  ·subst a;simp;omega
  simp [a]
theorem KK (C:Mem)(s:Str)(c:UInt8):Gives cx.P 278 [ai s,ai [c]] C (.tuple #[ai (cM c s).1,.bool (cM c s).2]):=by
 refine UD func278 15 U3 fun w0=>Uu 2 [0,1] Z<|Uv 2 Z fun R d=>UI (yK _ s c) U7<|C4 1 [0,1,9] d Z<|Ux (fun a=>?_) fun a=>?_
 ·have h:¬ s.head?=some c:=fun h=>by unfold cM at a;rw [aW h] at a;cases a
  refine Uu 3 [4,5] Z<|UJ (G.dropAll (UX U3 ?_));unfold cM;rw [az h];exact ⟨Z,Z⟩
 have h:s.head?=some c:=Rq fun h=>by unfold cM at a;rw [az h] at a;cases a
 have e:1<=s.length:=by cases s with
  | nil=>cases h
  | cons b s=>simp
 refine Uv 3 Z fun R d=>Vw 1 s.length U9 (fun _=>⟨.inr ⟨_,Z⟩,.inl ⟨Z,Z⟩,.inl ⟨Z,Z⟩,by omega,QO _,QO _⟩) U2<|C4 2 [4,5] d Z<|UJ (G.dropAll (UX U3 ?_));unfold cM;rw [aW h];refine ⟨?_,Z⟩;rw [Q2,List.drop_one];rfl
theorem HJ (C:Mem)(s:Str)(c:UInt8):Gives cx.P 247 [ai s,ai [c]] C (.tuple #[ai (cM c s).1,.bool (cM c s).2]):=by
 refine UD func247 11 U3 fun w0=>Uu 2 [0,1] Z<|Uv 2 Z fun R a=>UI (KK _ s c) U7<|C4 4 [4,5] a Z<|UJ (G.dropAll (UX U3 ?_));exact ⟨Z,Z⟩
structure Tabs (C:Mem):Prop where
 pow : VarC cx.P C "internal/strconv.uint64pow10" (Lib.pow10Tab.map fun z => Value.int .u64 z).toArray
 db : VarC cx.P C "math/bits.deBruijn64tab" (Lib.deBruijn64tab.map fun z : Nat => Value.int .u8 (z : Int)).toArray
theorem Tabs.mono {C D:Mem}(h:Tabs C)(a:C.le D):Tabs D:=⟨h.pow.mono a,h.db.mono a⟩
theorem Tabs.m_ {D:Mem}(h:Tabs C)(a:C.le D:=by exact mup):Tabs D:=Tabs.mono h a
theorem LZ (C:Mem)(a:Tabs C)(n:Int)(b:-9223372036854775808<=n)(c:n<=9223372036854775807):Gives cx.P 123 [.int .i64 n] C (ai (Lib.itoa n)) :=
 NF Tryz.itoa n b c C a.pow kr_
structure FV where
 b:Bool
 A:Option Addr
 n:Nat
 c:Nat
 A2:Option Addr
 n2:Nat
 c2:Nat
theorem split_fn (C:Mem)(s:Str):Gives cx.P 258 [ai s] C (.tuple #[.bool (cM 45 s).2,ai (cM 45 s).1]):=by
 refine UD func258 17 U3 fun w0=>Uu 2 [0] Z<|Uu 2 [4] Z<|Uv 5 Z fun R d=>Vs (b:=s.headD 0) U8 (fun e=>⟨by omega,(by
  cases s with
  | nil=>exact Bool.noConfusion (show false=true from e.1)
  | cons b s=>rfl)⟩) U2 ?_
 refine Uy U6<|UU U8<|UA [4,13] d Z<|Ux (fun a=>?_) fun a=>?_
 ·have c:s.head?=some 45:=by
   cases s with
   | nil=>cases a
   | cons b s =>
    have h1:b=45:=by
     refine Ue.1 ?_;show b.toNat=45;simp at a;omega
    rw [h1];rfl
  have f:1<=s.length:=by cases s with
   | nil=>cases c
   | cons b s=>simp
  refine US [0,1,2,3] [] Z kr_ fun R g d=>Uy U6<|Vw 1 s.length U9 (fun _=>⟨.inr ⟨_,Z⟩,.inl ⟨Z,Z⟩,.inl ⟨Z,Z⟩,by omega,QO _,QO _⟩) U2<|C4 2 [2,3] d Z<|UJ (G.dropAll (UX U3 ?_));unfold cM;rw [aW c];refine ⟨?_,Z⟩;rw [Q2,List.drop_one];rfl
 have c:¬ s.head?=some 45:=by
  cases s with
  | nil=>simp
  | cons b s =>
   intro h;have h1:b=45:=by simpa using h
   subst h1;simp at a
 refine Uu 3 [2,3] Z<|UJ (G.dropAll (UX U3 ?_));unfold cM;rw [az c];exact ⟨Z,Z⟩
def xD (s:Str):Bool:=(cM 45 s).1.all eR && !((cM 45 s).1 == []) && !((cM 45 s).1.head? == some 48 && ((cM 45 s).2 || decide (1<(cM 45 s).1.length)))
def cK (s:Str):Bool:=xD s && decide ((cM 45 s).1.length<=200)
theorem Cb (C:Mem)(v:Value)(l:List Nat)(d:Sl C 1 v (l.map aM)):Pur cx.P 288 [v] C fun u C'=>Sl C' 1 u ((xp l).map aM):=by
 obtain ⟨o,c0,rfl,p,_⟩:=id d;simp only [al] at d p ⊢;refine UD func288 21 U3 fun w0=>Uu 1 [0] Z<|G.loop (fun fr C' q r=>∃ (k:Nat)(A:Option Addr)(c:Nat),(k<=l.length/\Sl C' 1 (.slice A k c) ((l.take k).map aM)/\D8 l l.length=D8 l k)/\fr=[(0,[],.slice A k c)]/\q=[]/\r=k+1) (hn_ [0] Z) ⟨l.length,o,c0,⟨QO _,by rw [Q2];exact d,Z⟩,Z,Z,Z⟩ (fun fr F H m _ s=>?_);obtain ⟨k,A,c,⟨I,hs,g⟩,rfl,rfl,rfl⟩:=s;obtain ⟨_,J,t,w,_⟩:=id hs;have K:maxLen<=9223372036854775807:=by simp [maxLen]
 have L:k<=c:=by
  rw [al,Q5] at w;injection t with h1 h2 h3;omega
 have x:0<k->((l.take k).map aM)[((k:Int)-1).toNat]?=some (aM (gP l (k-1))):=fun h=>by
  rw [show ((k:Int)-1).toNat=k-1 by omega,QU,Rx,aW om_,aj (by omega:k-1<l.length)];unfold gP;rw [au,aj (by omega:k-1<l.length)];rfl
 refine Uv 7 Z fun R f=>UF _ U7<|D.index U10 (fun i=>⟨hs,(by have h:decide ((0:Int)<(k:Int))=true:=i.1;simp at h;omega),x (by have h:decide ((0:Int)<(k:Int))=true:=i.1;simp at h;omega)⟩) fl_ Z fun M y=>UY U6 y U3<|Uy U6<|UU U8<|UA [0,14] f Z<|Ux (fun b=>?_) fun b=>?_
 ·have a:0<k/\gP l (k-1)=0:=by
   have:(0:Int)<(k:Int)/\((gP l (k-1):Nat):Int)=0:=by simpa using b
   omega
  refine Uv 3 Z fun R f=>Vf (((k-1:Nat):Int)) U4 om_ om_ om_ U2<|Vq 0 (k-1) c U12 (fun _=>⟨.inl ⟨Z,Z⟩,.inr ⟨_,Z⟩,.inl ⟨Z,Z⟩,by omega,by omega,QO _⟩) U2<|C4 1 [0] f Z ?_;have n:=Sl.sub hs (l:=0) (h:=k-1) (m:=c) (QT _) ap om_ (QO _);have z:(((l.take k).map aM).take (k-1)).drop 0=(l.take (k-1)).map aM:=by
   rw [R0,<- SC,TG,Sa om_]
  rw [z] at n;have B:D8 l l.length=D8 l (k-1):=by
   rw [g];obtain ⟨j,rfl⟩:∃ j,k=j+1:=⟨k-1,by omega⟩;simp only [SQ] at a ⊢;rw [D8,aW];unfold gP at a;rw [au,aj om_] at a;rw [aj om_];exact congrArg some a.2
  refine UH (m':=k-1+1) om_ mup (hn_ [0] Z) ⟨k-1,_,c,⟨by omega,n.mono mup,B⟩,Z,Z,Z⟩
 have a:¬ (0<k/\gP l (k-1)=0):=fun E=>by
  have h1:(decide ((0:Int)<(k:Int)) && (((gP l (k-1):Nat):Int) == 0))=true:=by
   rw [E.2];simp;omega
  rw [h1] at b;cases b
 refine Uu 2 [2] Z<|UC U2<|⟨Z, ?_⟩;have e:D8 l k=k:=by
  cases k with
  | zero=>rfl
  | succ j =>
   simp only [SQ] at a;rw [D8,az];intro h;refine a ⟨by omega, ?_⟩;unfold gP;rw [au,h];rfl
 unfold xp;rw [g,e];exact hs
theorem uP (C:Mem)(v:Value)(l:List Nat)(a:l.length=n):Jog.Fn cx.P 288 [v] C [.arr v 3 1 n (l.map aM).flatten] fun u C' b=>b=[]/\Sl C' 1 u ((xp l).map aM) :=
 Jog.Fn.give (l.map aM) kr_ (by intro r hr;obtain ⟨y,_,rfl⟩:=QX.1 hr;rfl) (by rw [al,a]) (fun C' _ hs=>Cb C' v l hs)
def PieC (C:Mem)(v:Value)(n:Nat):Prop:=∃ l,CO l/\bM l=n/\Sl C 1 v (l.map aM)
theorem JH (C:Mem)(s t:Value)(a b:List Nat)(d:Sl C 1 s (a.map aM))(f:Sl C 1 t (b.map aM))(n:CO a)(o:CO b):Gives cx.P 289 [s,t] C (.bool (decide (bM a<bM b))):=by
 have Q:maxLen<=9223372036854775807:=by simp [maxLen]
 obtain ⟨A,c0,rfl,B,S,_⟩:=id d;obtain ⟨D,E,rfl,F,T,_⟩:=id f;simp only [al] at d f B F ⊢;refine UD func289 41 U3 fun w0=>Uu 1 [0,1] Z<|Uu 5 [0,1,10] Z<|Ux (fun g=>?_) fun g=>?_
 ·have U:a.length≠b.length:=fun e=>by
   rw [e] at g;simp at g
  refine Uu 6 [4] Z<|UC U2<|⟨?_,Z⟩;congr 1;rw [RC];rcases Rr a.length b.length with h | h
  ·have:=GQ n.1 o h;constructor
   ·intro _;exact this
   intro _;omega
  have:=GQ o.1 n om_;constructor <;> intro _ <;> omega
 have p:a.length=b.length:=by
  have:(a.length:Int)=b.length:=by simpa using g
  omega
 refine Uv 2 Z fun R c=>UF _ U7<|C4 1 [0,1,5] c Z<|G.loop (fun fr C' H I=>∃ (k:Nat),(k<=a.length/\a.drop k=b.drop k)/\fr=[(0,[],.slice A a.length c0),(1,[],.slice D b.length E),(5,[],.int .i64 ((k:Int)-1))]/\H=[]/\I=k+1) (hn_ [0,1,5] Z) ⟨a.length,⟨QO _,by rw [RM,p,RM]⟩,Z,Z,Z⟩ (fun fr V W m _ J=>?_);obtain ⟨k,⟨X,i⟩,rfl,rfl,rfl⟩:=J;refine Uu 2 [0,1,5,20] Z<|Ux (fun q=>?_) fun q=>?_
 ·have u:0<k:=by
   have:(0:Int)<=(k:Int)-1:=by simpa using q
   omega
  obtain ⟨j,rfl⟩:∃ j,k=j+1:=⟨k-1,by omega⟩;obtain ⟨x,l⟩:∃ x,a[j]?=some x:=⟨a[j],aj om_⟩;obtain ⟨y,hy⟩:∃ y,b[j]?=some y:=⟨b[j],aj om_⟩;have v:(a.map aM)[(((j+1:Nat):Int)-1).toNat]?=some (aM x):=by
   rw [show (((j+1:Nat):Int)-1).toNat=j by omega,QU,l];rfl
  have w:(b.map aM)[(((j+1:Nat):Int)-1).toNat]?=some (aM y):=by
   rw [show (((j+1:Nat):Int)-1).toNat=j by omega,QU,hy];rfl
  refine US [0,1,2,3,4,5,6,7,8] [] Z kr_ fun R K c=>UB 2 Z<|UK d.m_ U10 om_ v fl_ fun Y L=>Uw L U8<|UB 2 Z<|UK f.m_ U10 om_ w fl_ fun aa M=>Uw M U8<|C4 1 [0,1,5,31] c Z<|Ux (fun r=>?_) fun r=>?_
  ·have z:x≠y:=fun e=>by
    subst e;simp at r
   refine US [0,1,2,3,4,5,6,7,8,9] [] Z kr_ fun R K c=>UB 2 Z<|UK d.m_ U10 om_ v fl_ fun ab N=>Uw N U8<|UB 2 Z<|UK f.m_ U10 om_ w fl_ fun ac O=>Uw O U8<|C4 2 [4] c Z<|UC U2<|⟨?_,Z⟩;congr 1;rw [RC];rcases Rr x y with h | h
   ·have:=Ml n.1 p l hy h i;constructor
    ·intro _;exact this
    intro _;omega
   have:=Ml o.1 p.symm hy l om_ i.symm;constructor <;> intro _ <;> omega
  have z:x=y:=by
   have:(x:Int)=y:=by simpa using r
   omega
  refine Uv 1 Z fun R c=>UF _ U7<|C4 1 [0,1,5] c Z ?_;rw [show ((j+1:Nat):Int)-1-1=(j:Int)-1 by omega];refine UH (m':=j+1) om_ mup (hn_ [0,1,5] Z) ⟨j,⟨by omega,by
   rw [Rh (by omega:j<a.length),Rh (by omega:j<b.length),i,(aD.1 l).2,(aD.1 hy).2,z]⟩,rfl,rfl,rfl⟩
 have u:k=0:=by
  have:¬ (0:Int)<=(k:Int)-1:=by simpa using q
  omega
 subst u;refine Uu 1 [4] Z<|UC U2<|⟨?_,Z⟩;have:a=b:=by simpa using i
 subst this;simp
theorem HH {s:Str}{a:Nat}{c:UInt8}(d:a<=i)(b:s[i]?=some c):bX (gK s a (i+1))=10*bX (gK s a i)+(c.toNat-48):=by
 have f:=(aD.1 b).1;have e:gK s a (i+1)=gK s a i++[c]:=by
  unfold gK;rw [Rm,b,R6,TJ,Q5,Sa om_,show a-i=0 by omega];rfl
 rw [e];unfold bX;rw [List.foldl_append];rfl
theorem KH (s:Str)(a:Nat):gK s a a=[]:=by
 unfold gK;rw [List.drop_eq_nil_iff,Q5];omega
theorem MC (C:Mem)(s:Str)(g:∀ c∈s,eR c=true)(K:s.length<=100000):Pur cx.P 262 [ai s] C fun u D=>PieC D u (bX s):=by
 refine UD func262 35 U3 fun w0=>Uu 1 [0] Z<|Uu 1 [0,3] Z<|Uu 3 [0,3,4] Z<|G.nilArr 3 1<|G.loop (fun fr C' d k=>∃ (e j:Nat)(b:Int)(out:List Nat)(w:Value),((b=e/\e+4*j=s.length∨b<=0/\e=0)/\-4<=b/\b<=100000/\e<=s.length/\out.length=j/\j<=100000/\DigP out/\bM out=bX (s.drop e))/\fr=[(0,[],ai s),(3,[],w),(4,[],.int .i64 b)]/\d=[.arr w 3 1 j (out.map aM).flatten]/\k=e+1) (hn_ [0,3,4] Z) ⟨s.length,0,(s.length:Int),[],_,⟨.inl ⟨Z,Z⟩,by omega,by omega,QO _,Z,by omega,(fun x B=>(by cases B)),by rw [RM];rfl⟩,Z,Z,Z⟩ (fun fr L M m _ l=>?_);obtain ⟨e,j,b,out,w,⟨q,N,O,Q,n,S,r,t⟩,rfl,rfl,rfl⟩:=l;refine Uu 2 [0,3,4,10] Z<|Ux (fun f=>?_) fun f=>?_
 ·obtain ⟨rfl,E⟩:b=e/\e+4*j=s.length:=by
   have h0:0<b:=by simpa using f
   rcases q with h | h
   ·exact h
   omega
  have v:0<e:=by
   have h0:(0:Int)<(e:Int):=by simpa using f
   omega
  refine Uu 1 [0,3,4,5] Z<|Uv 1 Z fun R a=>UF _ U7<|D.max (((e-4:Nat):Int)) U6 om_ U2<|C4 1 [0,3,4,5,6] a Z ?_;rw [show (Value.int .i64 0)=.int .i64 ((bX (gK s (e-4) (e-4)):Nat):Int) by rw [KH];rfl];refine G.loop (fun fr C' d k=>∃ (i:Nat),(e-4<=i/\i<=e)/\fr=[(0,[],ai s),(3,[],w),(4,[],.int .i64 (e:Int)),(5,[],.int .i64 (bX (gK s (e-4) i):Nat)),(6,[],.int .i64 i)]/\d=[.arr w 3 1 j (out.map aM).flatten]/\k=e-i) (hn_ [0,3,4,5,6] Z) ⟨e-4,⟨QO _,by omega⟩,Z,Z,Z⟩ (fun fr T U m _ l=>?_);obtain ⟨i,⟨F,V⟩,rfl,rfl,rfl⟩:=l;refine Uu 3 [0,3,4,5,6,18] Z<|Ux (fun o=>?_) fun o=>?_
  ·have y:i<e:=by simpa using o
   obtain ⟨c,p⟩:∃ c,s[i]?=some c:=⟨s[i]'om_,aj _⟩;have z:=g c (QQ p);have W:48<=c.toNat/\c.toNat<=57:=by unfold eR at z;simpa using z
   have X:bX (gK s (e-4) i)<10000:=HI g om_;refine Uv 1 Z fun R a=>Vf (((10*bX (gK s (e-4) i):Nat):Int)) U4 om_ om_ om_ U2<|UB 2 Z<|Vs U8 (fun _=>⟨by omega,p⟩) U2<|Vi (c:=((c.toNat:Nat):Int)) U8 (by rw [IntKind.wrap_i64];omega) fl_<|Vf (((10*bX (gK s (e-4) i)+c.toNat:Nat):Int)) U4 om_ om_ om_ U2<|Vf (((10*bX (gK s (e-4) i)+(c.toNat-48):Nat):Int)) U4 om_ om_ om_ U2<|C4 1 [0,3,4,5,6] a Z<|Uv 1 Z fun R a=>UF _ U7<|C4 1 [0,3,4,5,6] a Z ?_;rw [<- HH F p];refine UH (m':=e-(i+1)) om_ mup (hn_ [0,3,4,5,6] Z) ⟨i+1,⟨by omega,by omega⟩,Z,Z,Z⟩
  have y:i=e:=by
   have:¬ i<e:=by simpa using o
   omega
  subst y;refine Uv 2 Z fun R a=>UR [aM (bX (gK s (i-4) i))] U12 fun Y _ _ H=>D.append (j:=0) U11 H Z ax (by show (j+1)*8<=_;omega) fl_ fun A=>C4 1 [0,3,4] a Z<|Uv 1 Z fun R a=>UF _ U7<|C4 1 [0,3,4] a Z<|UN (L':=[.arr A 3 1 (j+1) ((out++[bX (gK s (i-4) i)]).map aM).flatten]) (by simp [aM])<|UH (m':=i-4+1) om_ mup (hn_ [0,3,4] Z) ⟨i-4,j+1,(i:Int)-4,out++[bX (gK s (i-4) i)],A,⟨by
   rcases Rr i 4 with h | h
   ·exact .inr ⟨by omega,by omega⟩
   exact .inl ⟨by omega,by omega⟩,by omega,by omega,by omega,by simp [n],by omega,r.snoc (HI g om_),E2 E n om_ t⟩,Z,Z,Z⟩
 have v:e=0:=by
  have h0:¬ 0<b:=by simpa using f
  rcases q with h | h
  ·omega
  exact h.2
 refine UW [(1,3)] Z fun R a=>Uy U6<|D.call (uP _ _ out n) Z (.inr dc_) U6 (QW _) fl_ (fun aa _ ab _ I=>?_);obtain ⟨rfl,J⟩:=I;refine C4 1 [2] a Z<|UC U2<|⟨Z,xp out,mj r, ?_,J⟩;rw [iu,t,v,R0]
end Go.Proofs.YthnpijdjlddpmaaGreatDoor
