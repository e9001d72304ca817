/- Laws that the proofs of this seat share, part 5. -/
import Derived.Test.YtfjcldheldflbaaGreatDoorG4
import Derived.Test.YtfjcldheldflbaaGreatDoorShelf
import Derived.Shelf.SlSortCmp.NoneTotal
import Derived.Shelf.Sort.Plain
import Derived.Shelf.Slices.In.SortNone
import Derived.Shelf.Strings.Split
import Derived.Sort.Walk0
import Derived.Shelf.SlSortCmp.Insertion
import Derived.Test.YtfjcldheldflbaaGreatDoorProg
import Derived.RangeFuncBox
import Derived.RangeFuncLeaves
import Derived.Shelf.Abstract
import Derived.WalkKit
import Derived.OwnWalkIn
import Derived.TacticsInMore
import Derived.LoopNIn
import Derived.LoopIn
set_option maxHeartbeats 4000000
namespace Go.Jog
open Go Go.Proofs Go.Shelf
section
variable {α:Type} [Inhabited α]
theorem rY (a:α->List Value)(k:Nat)(c:∀ x,(a x).length=k)(d:Array α):(Sort.flatK a k d).toList=(d.toList.map a).flatten:=by
 have hr:∀ r∈d.toList.map a,r.length=k:=fun r hr=>by
  obtain ⟨x,_,rfl⟩:=PF.1 hr;exact c x
 have g:=aO hr;apply List.ext_getElem?;intro q;by_cases b:q<d.size*k
 ·have i:0<k:=by
   rcases Qz k with h | h
   ·rw [h] at b;simp at b
   exact h
  have e:q / k<d.size:=Sk (by rw [Qk];exact b);have h1:(d.toList.map a)[q / k]?=some (a d[q / k]!):=by
   rw [PD,Array.getElem?_toList,Array.getElem?_eq_getElem e];simp [e]
  have f:q % k<(a d[q / k]!).length:=by rw [c];exact P2 _ i
  have h2:=getElem?_flatten_rows hr h1 (al f);have j:q / k*k+q % k=q:=by rw [Qk];exact Sa q k
  rw [j] at h2;rw [h2];have h3:=Sort.get_flatK a k d q b;rw [Array.getElem?_toList,Array.getElem?_eq_getElem (by simpa using b)];rw [getElem!_pos (Sort.flatK a k d) q (by simpa using b)] at h3;rw [h3,getElem!_pos (a d[q / k]!) (q % k) f]
 rw [PJ aq,PJ (by rw [g];simp;omega)]
theorem I4 {a:Type}[Inhabited a](c:a->Value)(w:World)(m b:Nat)(F:Array a)(h:Array Obj){d:Array Value}{e:TypeId}{f:Nat × Nat}(g:w.heap[b]?=some (.cells d e f)) :
  (Sort.grow (Sort.putRow c (Sort.ahead w m) b 0 F) h).heap[b]?=some (.cells (Sort.putCells c 0 F d) e f):=by
 have i:=cN g;rw [Sort.heap_grow_old _ _ (by simpa [Sort.ahead] using i)];simp [Sort.putRow,Sort.mapBlock,Sort.ahead,RZ,g,Sort.onCells]
theorem ka {a:Type}[Inhabited a](c:a->Value)(w:World)(m b:Nat)(F:Array a)(d:Array Obj){q:Nat}(e:q<w.heap.size)(f:q≠b) :
  (Sort.grow (Sort.putRow c (Sort.ahead w m) b 0 F) d).heap[q]?=w.heap[q]?:=by
 rw [Sort.heap_grow_old _ _ (by simpa [Sort.ahead] using e)];simp [Sort.putRow,Sort.mapBlock,Sort.ahead,RZ,Ne.symm f]
theorem tF {b:Type}[Inhabited b](d:b->Value)(F:Array b)(c:Array Value)(h:F.size<=c.size):(Sort.putCells d 0 F c).toList.take F.size=F.toList.map d:=by
 apply List.ext_getElem?;intro q;rw [Qm];split
 ·rename_i a;simp only [Sort.putCells,Array.getElem?_toList,Array.getElem?_mapIdx,PD,PG,QV,true_and,a,Rp,Sj];rw [Array.getElem?_eq_getElem (by omega:q<c.size),Array.getElem?_eq_getElem a];simp [a]
 rename_i a;rw [PJ aq]
theorem St.sorted {c:Type}[Inhabited c](b:c->Value){C:Mem}{w:World}{e s n g a m:Nat}{d:List Value}(j:Sep C [.arr (.slice (some ⟨g,0,none⟩) n a) e s n d] w)(F:Array c)(f:F.size=n*s)(i:Array Obj) :
  St w C [.arr (.slice (some ⟨g,0,none⟩) n a) e s n d] C [.arr (.slice (some ⟨g,0,none⟩) n a) e s n (F.toList.map b)] (Sort.grow (Sort.putRow b (Sort.ahead w m) g 0 F) i):=by
 have l:w.ownsRow 0 e s (.slice (some ⟨g,0,none⟩) n a) n d:=j.e _ (PB ..);obtain ⟨_,h1,h2,o,p,k,_⟩:=cR l;have r:n*s<=a*s:=Qp _ h1;refine St.turn (St.start j) ⟨by simpa using f,.inr ⟨g,a,_,Z,PG _,I4 b w m g F i p,h1,h2,by simpa [Sort.putCells] using k, ?_⟩⟩ ⟨Z,Z,Z,by simp [Sort.ahead],fun q t u=>ka b w m g F i t (fun h=>u (by simp [Value.ownBlock,h]))⟩ ?_ (.inl Z)
 ·rw [<- f];exact tF b F o (by rw [f,k];exact r)
 show w.drawn<=w.drawn+m;omega
theorem CN {w a:World}{C c:Mem}(h:St w C [] c [] a):∃ q os,a=Sort.grow (w.drewN q) os:=by
 refine ⟨a.drawn-w.drawn,(a.heap.toList.drop w.heap.size).toArray, ?_⟩;have h1:a.heap=w.heap++(a.heap.toList.drop w.heap.size).toArray:=by
  apply Array.ext_getElem?;intro k;rw [Array.getElem?_append];split
  ·rename_i b;exact h.ev.block k b (fun ⟨x,d,_⟩=>by cases d)
  rename_i b;simp only [QT,List.getElem?_drop,Array.getElem?_toList];congr 1;omega
 have h2:w.drawn+(a.drawn-w.drawn)=a.drawn:=by have:=h.ev.drawn;omega
 obtain ⟨i,j,l,m,op⟩:=a;have e:=h.ev.os;have f:=h.ev.tape;have g:=h.ev.output;simp only at h1 h2 e f g;simp only [Sort.grow,World.drewN];congr 1
 ·exact h2.symm
end
section
variable {P:Program} {ρ:Ren}
theorem LX {a:Type}[Inhabited a]{l:List a}{d:Array a}(h:Sort.PermIn 0 l.toArray.size l.toArray d):d.toList.Perm l:=by
 obtain ⟨h1,_,h3⟩:=h;have b:d.extract 0 l.toArray.size=d:=by apply Rb;rw [<- h1];simp
 have c:l.toArray.extract 0 l.toArray.size=l.toArray:=by apply Rb;simp
 rw [b,c] at h3;simpa using h3
theorem Ec {a:Type}[Inhabited a]{b:a->a->Bool}{d:Array a}(h:Sort.SortedIn b 0 d.size d):d.toList.Pairwise fun x y=>b y x=false:=by
 rw [List.pairwise_iff_getElem];intro i j e c f;have:=h i j (PG _) f (by simpa using c);rw [getElem!_pos d j (by simpa using c),getElem!_pos d i (by simpa using e)] at this;simpa using this
theorem xJ {r:Type}[Inhabited r](K:SlLaysF0.n6 P ρ){T:Tab}(L:nK P T=true){d:TI}(M:T.get (ρ.t 24)=some d)(X:d.agg=true)(a:r->List Value)(A:∀ x,(a x).length=d.size)(i:∀ x,(a x).all me=true)
  (s:r->r->Int) (Y:Sort.SWO (ltOf s)) (g:FuncId) (p:List Value) (C:Mem) (aa:∀ x y B,C.le B->Gives P g ([.agg ⟨a x⟩,.agg ⟨a y⟩]++p) B (.int .i64 (s x y))) (v:Value) (e:TypeId) (l:List r) (ab:l.length<4611686018427387904)
  (ac:Enters P (ρ.f 6)=true) (ad:Enters P g=true) :
  Fn P (ρ.f 6) [v,.func (.func g) #[] ⟨p⟩] C [.arr v e d.size l.length (l.map a).flatten] fun u _al N=>∃ D:List r,u=.tuple #[]/\N=[.arr v e d.size l.length (D.map a).flatten]/\D.Perm l/\D.Pairwise (fun x y=>ltOf s y x=false):=by
 refine ⟨ac,fun w z=>?_⟩;have ae:w.ownsRow 0 e d.size v l.length (l.map a).flatten:=z.e _ (PB ..);rcases ae.2 with ⟨rfl,hz⟩ | ⟨b,O,E,rfl,_,F,h2,h3,h4,h5⟩
 ·have hl:l=[]:=Ql hz;subst hl;refine (AnyF.slices_SortFunc_none K none 0 (.func (.func g) #[] ⟨p⟩) w).mono fun Q w' ⟨i,h2⟩=>?_;subst h2;exact ⟨_,C,_,i,St.start z,[],Z,Z,PC _,List.Pairwise.nil⟩
 have af:b<w.heap.size:=cN F;have ag:(Sort.flatK a d.size l.toArray).toList=(l.map a).flatten:=by rw [rY a _ A]
 have am:l.length*d.size<=O*d.size:=Qp _ h2;have hH:Sort.HoldsK a d.size w b 0 l.toArray:=by
  intro j G;simp only [Sort.size_flatK,Rv] at G;have R:j<E.size:=by omega
  have hc:(Sort.flatK a d.size l.toArray)[j]?=some E[j]:=by
   rw [<- Array.getElem?_toList,ag,<- h5,Qm,aL G,Array.getElem?_toList,Array.getElem?_eq_getElem R]
  have hg:=getElem!_pos (Sort.flatK a d.size l.toArray) j (by simpa using G);have ah:=(Rt.1 hc).2;refine ⟨?_, ?_⟩
  ·rw [QV,cell_of_row w b j E e (0,0) F,hg,ah];exact Array.getElem?_eq_getElem R
  simp [World.frozen?,F]
 have ai:CmpLays P g ⟨p⟩ a d.size s b 0 l.toArray.size w:=by
  intro m os dk an x y;have hW:Sep C [] (sortWorldK a d.size w b 0 m dk os):=⟨fun q o H=>by
    have S:=z.c q o H;unfold sortWorldK Sort.putRowK;rw [ka id w m b _ os (cN S) (fun h=>by
     subst h;have:=z.n q ⟨_,PB ..,rfl⟩;rw [this] at H;cases H)]
    exact S,fun x I=>(by cases I),List.Pairwise.nil,fun k ⟨x,I,_⟩=>(by cases I)⟩
  have ea:(#[Value.agg (a x).toArray,Value.agg (a y).toArray]++(⟨p⟩:Array Value))=([Value.agg ⟨a x⟩,Value.agg ⟨a y⟩]++p).toArray:=by apply Rb;simp
  rw [ea];refine ((aa x y C (Mem.le.refl _)).2 _ hW).mono fun Q w' ⟨u,B,N,i,h2,h3,h4⟩=>?_;subst h3;subst h4;exact ⟨i,CN h2⟩
 have aj:=AnyQ.slices_SortFunc K d.size (fun w=>by have:=AV L M w;rwa [X] at this) (fun w=>dC L M w) a A (fun x u hu=>iT (PT.1 (i x) u hu)) s Y g ⟨p⟩ b 0 O l.toArray w (fun args w=>fU ad args w) ai hH af (by simpa using ab);refine aj.mono fun Q w' ⟨i,J,m,os,U,hs,ak⟩=>?_;subst ak;have V:J.size=l.length:=by simpa using U.1
 have W:=St.sorted (m:=m) id z (Sort.flatK a d.size J) (by simp [V]) os;simp only [List.map_id,rY a _ A] at W;exact ⟨_,C,_,i,W,J.toList,Z,Z,LX U,Ec (by rw [V];simpa using hs)⟩
theorem wt (c:UInt8):∀ s:List UInt8,(c ∉ s/\Lib.index s [c]=-1)∨∃ a post,s=a++c::post/\c ∉ a/\Lib.index s [c]=a.length
 | []=>.inl ⟨by simp,by simp [Lib.index]⟩
 | b::s=>by
  by_cases d:b=c
  ·subst d;exact .inr ⟨[],s,Z,by simp,by simp [Lib.index]⟩
  have f:([c]:List UInt8).isPrefixOf (b::s)=false:=by simp [List.isPrefixOf,Ne.symm d]
  have e:Lib.index (b::s) [c]=if Lib.index s [c] == -1 then -1 else Lib.index s [c]+1:=by rw [Lib.index,f];simp
  rcases wt c s with ⟨h1,h2⟩ | ⟨a,post,h1,h2,h3⟩
  ·exact .inl ⟨by simp [Ne.symm d,h1],by rw [e,h2];rfl⟩
  refine .inr ⟨b::a,post,by simp [h1],by simp [Ne.symm d,h2], ?_⟩;rw [e,h3];have:¬ ((a.length:Int) == -1)=true:=by simp
  rw [aF this];simp
theorem rt (c:UInt8):∀ (k:Nat)(s:List UInt8),s.count c=k->Lib.splitK [c] 0 k s=cJ c s
 | 0,s,h=>by
  rw [nk c s (List.count_eq_zero.1 h)];rfl
 | k+1,s,h=>by
  rcases wt c s with ⟨h1,_⟩ | ⟨a,post,h1,h2,h3⟩
  ·rw [List.count_eq_zero.2 h1] at h;omega
  have b:post.count c=k:=by
   rw [h1,List.count_append,List.count_eq_zero.2 h2,List.count_cons_self] at h;omega
  unfold Lib.splitK;rw [h3];have d:¬ ((a.length:Int) == -1)=true:=by simp
  rw [aF d];subst h1;have e:((a.length:Int).toNat+0)=a.length:=by simp
  have f:(a++c::post).drop ((a.length:Int).toNat+[c].length)=post:=by simp
  rw [e,f,rt c k post b,oH c a post h2];simp
theorem split_fn (k:Lays.n146 P ρ)(l:(P.info? (ρ.t 9)).map (fun i=>(i.zero,i.size,i.bytes))=some (some (.string ByteArray.empty),1,16))(C:Mem)(s:List UInt8)(c:UInt8){m:Int}(n:s.length<4294967281)(o:CCell C ⟨ρ.g 1,0,none⟩ (.int .i64 m))(q:Enters P (ρ.f 146)=true) :
  Pur P (ρ.f 146) [ah s,ah [c]] C fun v r=>Sl r 1 v ((cJ c s).map fun p=>[ah p]):=by
 refine ⟨q,fun w a=>?_⟩;have h:=Any.strings_Split k l ⟨s.toArray⟩ ⟨#[c]⟩ m w (by simpa [ByteArray.size] using n) (o.cell a) (by simp [ByteArray.size]);have x:Lib.countB ⟨s.toArray⟩ ⟨#[c]⟩=s.count c:=by
  show Lib.count s [c]=_;exact Lib.count_one c s
 have y:(Lib.splitB ⟨#[c]⟩ 0 (s.count c) ⟨s.toArray⟩).map (fun b=>b.data.toList)=cJ c s:=by
  rw [Lib.splitB_data];exact rt c _ s Z
 have z:(Lib.splitB ⟨#[c]⟩ 0 (s.count c) ⟨s.toArray⟩).map Value.string=(cJ c s).map ah:=by
  rw [<- y,Qv];apply List.map_congr_left;intro b _;obtain ⟨⟨b⟩⟩:=b;rfl
 rw [x,z] at h;refine h.mono fun D w' ⟨h1,A⟩=>?_;subst A;have h2:=(St.alloc (St.start a) (.cells ((cJ c s).map ah).toArray (ρ.t 9))).freeze;refine ⟨_,_,_,h1,h2.2,Z, ?_⟩;have d:=jV c s;have E:s.count c<=s.length:=List.count_le_length;have B:=Sl.ofBlock (C:=C.set w.heap.size (.cells ((cJ c s).map ah).toArray (ρ.t 9))) (c:=s.count c+1) (Mem.set_self C w.heap.size _) (rows:=(cJ c s).map fun p=>[ah p]) (s:=1) ap (fun j u e=>by rw [ef] at e;simpa using e) (by simp [d]) (by simp only [maxLen];omega);simpa [d] using B
end
end Go.Jog
namespace Go.Jog
def Ks:List Nat->List Nat->Int
 | [],[]=>0
 | [],_::_=>-1
 | _::_,[]=>1
 | x::a,y::b=>if x<y then -1 else if y<x then 1 else Ks a b
end Go.Jog
namespace Go.Jog
open Go
theorem Vk {P:Program}{f:FuncId}{i:List Value}{C:Mem}{j:Value->Mem->List Ent->Prop}{Q:Value->Mem->Prop}(h:Fn P f i C [] j)
  (k:∀ v a c,j v a c->(c=[]/\Q v a)∨∃ u t s rows,c=[.arr u t s rows.length rows.flatten]/\(∀ r∈rows,r.length=s)/\∀ D,a.le D->Sl D s u rows->Q v D):Pur P f i C Q:=by
 refine ⟨h.1,fun w l=>(h.2 w l).mono ?_⟩;rintro e w' ⟨v,a,c,rfl,d,m⟩;rcases k _ _ _ m with ⟨rfl,g⟩ | ⟨u,t,s,rows,rfl,hr,g⟩
 ·exact ⟨v,a,[],Z,d,Z,g⟩
 obtain ⟨D,h1,h2,h3⟩:=St.freezeArr d hr rfl;exact ⟨v,D,[],Z,⟨h3.sep,h3.ev,fun b o n=>h1 b o (d.c0 b o n),h3.cn,h3.ln⟩,Z,g D h1 h2⟩
end Go.Jog
namespace Go.Jog
open Go
theorem Uy {F:Fx}{d:Fr}{C:Mem}{L:List Ent}{p r b t:Nat}{k:List Value}{n:TypeId}{o:Nat × Nat}{f:TI}{x v:Value}(q:Ent.obj b (.cells ⟨k⟩ n o)∈L)(s:Z5 F.fn.results (#[.cell r t,.tmp p]) (ev d [] (.tmp p)) (some x) (ev d [] (.tmp r)) (some (.pointer (some ⟨b,0,none⟩))) (F.cx.T.get t) (some f) (cH f (k.take f.size)) (some v))(h:F.post (.tuple #[v,x]) C [])(l:F.ends:=by exact ⟨fun _ _ _ h=>h,rfl⟩):G F [] .ret d C L:=have ⟨u,c,hr,y,z⟩:=s;fun _ a w g m=>by
 refine l.kq ?_;have i:=bM g (fun p c=>by cases c) c;have j:=bM g (fun p c=>by cases c) hr;simp only [Act.eval] at i j;refine bodyPost_ret (v:=.tuple #[v,x]) ?_ (g.defers.trans l.2) ⟨_,C,[],Z,St.dropAll m,h⟩;have A:=fj (F:=F) y (m.sep.e _ q) z;simp only [Qt] at i j;simp [results,u,i,j,asAddr,A]
end Go.Jog
namespace Go.Jog
structure Bq (A:List Arc3)(to n:Nat)(d:List Int)(qs:List Nat):Prop where
 rel:MZ A to n d
 que:∀ q∈qs,q<n/\0<=dAt d q
 srt:qs.Pairwise fun x y=>dAt d x<=dAt d y
 top:∀ q∈qs,∀ v,dAt d v<=dAt d q+1
 tight:∀ a∈A,a.up ∉ qs->MY d a
structure Bi (A:List Arc3)(to n:Nat)(d:List Int)(h:Nat)(qs:List Nat)(T:Arc3->Prop):Prop where
 rel:MZ A to n d
 hh:h<n/\0<=dAt d h
 que:∀ q∈qs,q<n/\0<=dAt d q
 srt:qs.Pairwise fun x y=>dAt d x<=dAt d y
 topq:∀ q∈qs,dAt d h<=dAt d q
 top:∀ v,dAt d v<=dAt d h+1
 tight:∀ a∈A,a.up ∉ qs->a.up≠h->MY d a
 tightT:∀ a∈A,a.up=h->T a->MY d a
end Go.Jog
namespace Go.Jog
open Go
section
variable {cx:Cx} {n:Nat} {ds:List (Option Nat)} {R:Rg n ds} {its:List It} {fr:Fr} {C:Mem} {L:List Ent} {i k d:Nat} {o:Oper} {g:GL}
theorem VL (c:List Value){t e f:Nat}{x y:Operand}{r:IntKind}{m:Int}{j:List Value}{l b:TI}(s:Nat.ble k 1=true)(u:o.dst=some d)(v:o.op=.index t x y)
  (z:gOf ds fr o.guard=some g) (A:ev fr g x=some (.agg ⟨j⟩)) (B:ev fr g y=some (.int r m)) (E:cx.T.get t=some l) (q:l.k=.arr f e) (p:cx.T.get e=some b) (F:b.agg=true)
  (G:GT ds fr g->0<=m/\m<f/\(j.drop (m.toNat*b.size)).take b.size=c) (H:aT n ds ((d,g,.agg ⟨c⟩)::fr) d=true) (I:wfG ds fr g=true)
  (h:D cx R its ((d,g,.agg ⟨c⟩)::fr) C L):D cx R ((i,k,o)::its) fr C L:=by
 have J:cx.P.underlying t=some (.array f e):=by
  obtain ⟨O,Q,b1,S,U⟩:=l;simp only at q;subst q;exact mj cx.hT E
 refine D.run _ s u z (fun K a hs w=>?_) H I h;obtain ⟨h1,h2,h3⟩:=G K;have M:execOp a.eval o=(do Pure.pure (.value (<- Instr.index t (a.eval x) (a.eval y))):Sem Next):=by unfold execOp;rw [v]
 rw [M,hs _ _ A,hs _ _ B];have N:(part e ⟨j⟩ (m.toNat*b.size)).run cx.P w=.ok (.agg ⟨c⟩) w:=by
  unfold part;simp only [Sem.run_bind];rw [AV cx.hT p w];simp only [Result.andThen_ok,F,Rp,Sem.run_bind,dC cx.hT p w,Sem.run_pure,List.extract_toArray,List.extract_eq_take_drop,QU];rw [h3]
 simp [Instr.index,asIntOf,run_underlying J,h1,h2,dC cx.hT p w,N]
end
end Go.Jog
namespace Go.Proofs.YtfjcldheldflbaaGreatDoor
open Go.Proofs.Tryz
open Go Go.Jog
variable {C:Mem}{i k:Nat}{l:List Nat}{m n:Nat}{u v:Value}
def tab:Tab:=[(2,⟨.int .i64,1,8,[.int .i64],false⟩),
 (3,⟨.int .i64,1,8,[.int .i64],false⟩),
 (4,⟨.bool,1,1,[.bool],false⟩),
 (5,⟨.int .u8,1,1,[.int .u8],false⟩),
 (9,⟨.str,1,16,[.str],false⟩),
 (12,⟨.int .u64,1,8,[.int .u64],false⟩),
 (21,⟨.int .i32,1,4,[.int .i32],false⟩),
 (22,⟨.int .i8,1,1,[.int .i8],false⟩),
 (23,⟨.arr 2 22,2,2,[.int .i8,.int .i8],true⟩),
 (25,⟨.struct [(5,0),(23,1),(4,3)],4,4,[.int .u8,.int .i8,.int .i8,.bool],true⟩),
 (26,⟨.arr 6 22,6,6,[.int .i8,.int .i8,.int .i8,.int .i8,.int .i8,.int .i8],true⟩),
 (28,⟨.struct [(26,0),(4,6)],7,7,[.int .i8,.int .i8,.int .i8,.int .i8,.int .i8,.int .i8,.bool],true⟩),
 (29,⟨.slice 138,1,24,[.slice],false⟩),
 (31,⟨.struct [(25,0),(28,4),(29,11)],12,40,[.int .u8,.int .i8,.int .i8,.bool,.int .i8,.int .i8,.int .i8,.int .i8,.int .i8,.int .i8,.bool,.slice],true⟩),
 (32,⟨.str,1,16,[.str],false⟩),
 (34,⟨.struct [(32,0),(32,1)],2,32,[.str,.str],true⟩),
 (36,⟨.slice 34,1,24,[.slice],false⟩),
 (37,⟨.slice 65,1,24,[.slice],false⟩),
 (39,⟨.struct [(36,0),(37,1)],2,48,[.slice,.slice],true⟩),
 (40,⟨.slice 32,1,24,[.slice],false⟩),
 (41,⟨.slice 32,1,24,[.slice],false⟩),
 (42,⟨.slice 121,1,24,[.slice],false⟩),
 (43,⟨.slice 126,1,24,[.slice],false⟩),
 (45,⟨.struct [(39,0),(41,2),(42,3),(43,4)],5,120,[.slice,.slice,.slice,.slice,.slice],true⟩),
 (47,⟨.slice 140,1,24,[.slice],false⟩),
 (50,⟨.int .i64,1,8,[.int .i64],false⟩),
 (57,⟨.slice 3,1,24,[.slice],false⟩),
 (60,⟨.arr 3 32,3,48,[.str,.str,.str],true⟩),
 (61,⟨.arr 3 32,3,48,[.str,.str,.str],true⟩),
 (64,⟨.arr 3 3,3,24,[.int .i64,.int .i64,.int .i64],true⟩),
 (65,⟨.arr 3 3,3,24,[.int .i64,.int .i64,.int .i64],true⟩),
 (68,⟨.struct [(40,0)],1,24,[.slice],true⟩),
 (70,⟨.struct [(3,0),(32,1),(40,2),(68,3),(40,4)],5,96,[.int .i64,.str,.slice,.slice,.slice],true⟩),
 (74,⟨.struct [(3,0),(47,1),(40,2)],3,56,[.int .i64,.slice,.slice],true⟩),
 (82,⟨.slice 41,1,24,[.slice],false⟩),
 (90,⟨.arr 2 28,14,14,[.int .i8,.int .i8,.int .i8,.int .i8,.int .i8,.int .i8,.bool,.int .i8,.int .i8,.int .i8,.int .i8,.int .i8,.int .i8,.bool],true⟩),
 (104,⟨.struct [(82,0),(32,1),(68,2)],3,64,[.slice,.str,.slice],true⟩),
 (113,⟨.struct [(5,0),(5,1),(5,2)],3,3,[.int .u8,.int .u8,.int .u8],true⟩),
 (116,⟨.func,1,8,[.func],false⟩),
 (121,⟨.struct [(9,0),(32,1),(32,2)],3,48,[.str,.str,.str],true⟩),
 (124,⟨.struct [(32,0),(32,1),(32,2)],3,48,[.str,.str,.str],true⟩),
 (126,⟨.struct [(3,0),(9,1),(34,2),(32,4),(9,5),(9,6),(124,7)],10,152,[.int .i64,.str,.str,.str,.str,.str,.str,.str,.str,.str],true⟩),
 (127,⟨.slice 142,1,24,[.slice],false⟩),
 (135,⟨.arr 2 5,2,2,[.int .u8,.int .u8],true⟩),
 (136,⟨.arr 3 22,3,3,[.int .i8,.int .i8,.int .i8],true⟩),
 (138,⟨.struct [(5,0),(23,1),(135,3),(5,5),(136,6)],9,9,[.int .u8,.int .i8,.int .i8,.int .u8,.int .u8,.int .u8,.int .i8,.int .i8,.int .i8],true⟩),
 (140,⟨.struct [(40,0),(32,1)],2,40,[.slice,.str],true⟩),
 (142,⟨.struct [(3,0),(140,1)],3,48,[.int .i64,.slice,.str],true⟩),
 (144,⟨.arr 2 32,2,32,[.str,.str],true⟩),
 (152,⟨.arr 3 34,6,96,[.str,.str,.str,.str,.str,.str],true⟩),
 (160,⟨.slice 163,1,24,[.slice],false⟩),
 (163,⟨.arr 2 3,2,16,[.int .i64,.int .i64],true⟩),
 (174,⟨.func,1,8,[.func],false⟩),
 (181,⟨.slice 9,1,24,[.slice],false⟩),
 (188,⟨.str,1,16,[.str],false⟩),
 (196,⟨.struct [(3,0),(3,1)],2,16,[.int .i64,.int .i64],true⟩),
 (203,⟨.slice 5,1,24,[.slice],false⟩),
 (206,⟨.arr 3 9,3,48,[.str,.str,.str],true⟩),
 (211,⟨.int .u64,1,8,[.int .u64],false⟩),
 (214,⟨.map 34 4,1,8,[.map],false⟩),
 (221,⟨.ptr 231,1,8,[.ptr],false⟩),
 (228,⟨.struct [(32,0),(40,1)],2,40,[.str,.slice],true⟩),
 (229,⟨.slice 228,1,24,[.slice],false⟩),
 (231,⟨.struct [(3,0),(57,1),(229,2),(57,3),(228,4)],6,120,[.int .i64,.slice,.slice,.slice,.str,.slice],true⟩),
 (234,⟨.map 163 3,1,8,[.map],false⟩),
 (271,⟨.slice 285,1,24,[.slice],false⟩),
 (273,⟨.struct [(4,0),(271,1)],2,32,[.bool,.slice],true⟩),
 (278,⟨.struct [(34,0),(32,2)],3,48,[.str,.str,.str],true⟩),
 (279,⟨.arr 3 278,9,144,[.str,.str,.str,.str,.str,.str,.str,.str,.str],true⟩),
 (281,⟨.func,1,8,[.func],false⟩),
 (282,⟨.int .u32,1,4,[.int .u32],false⟩),
 (285,⟨.int .u64,1,8,[.int .u64],false⟩),
 (288,⟨.map 3 4,1,8,[.map],false⟩),
 (297,⟨.func,1,8,[.func],false⟩),
 (300,⟨.func,1,8,[.func],false⟩),
 (301,⟨.slice 40,1,24,[.slice],false⟩),
 (303,⟨.func,1,8,[.func],false⟩),
 (317,⟨.iface,1,16,[.iface],false⟩),
 (324,⟨.map 9 4,1,8,[.map],false⟩),
 (326,⟨.map 3 32,1,8,[.map],false⟩),
 (332,⟨.func,1,8,[.func],false⟩),
 (342,⟨.ptr 344,1,8,[.ptr],false⟩),
 (344,⟨.struct [(342,0),(203,1)],2,32,[.ptr,.slice],true⟩),
 (347,⟨.func,1,8,[.func],false⟩),
 (351,⟨.map 3 3,1,8,[.map],false⟩),
 (352,⟨.func,1,8,[.func],false⟩),
 (379,⟨.ptr 5,1,8,[.ptr],false⟩),
 (380,⟨.ptr 228,1,8,[.ptr],false⟩),
 (385,⟨.ptr 3,1,8,[.ptr],false⟩),
 (387,⟨.int .i64,1,8,[.int .i64],false⟩),
 (390,⟨.ptr 409,1,8,[.ptr],false⟩),
 (393,⟨.arr 24 5,24,24,[.int .u8,.int .u8,.int .u8,.int .u8,.int .u8,.int .u8,.int .u8,.int .u8,.int .u8,.int .u8,.int .u8,.int .u8,.int .u8,.int .u8,.int .u8,.int .u8,.int .u8,.int .u8,.int .u8,.int .u8,.int .u8,.int .u8,.int .u8,.int .u8],true⟩),
 (398,⟨.func,1,8,[.func],false⟩),
 (409,⟨.struct [(9,0),(9,1),(317,2)],3,48,[.str,.str,.iface],true⟩),
 (412,⟨.arr 20 285,20,160,[.int .u64,.int .u64,.int .u64,.int .u64,.int .u64,.int .u64,.int .u64,.int .u64,.int .u64,.int .u64,.int .u64,.int .u64,.int .u64,.int .u64,.int .u64,.int .u64,.int .u64,.int .u64,.int .u64,.int .u64],true⟩),
 (414,⟨.ptr 416,1,8,[.ptr],false⟩),
 (416,⟨.struct [(9,0)],1,16,[.str],true⟩),
 (417,⟨.arr 32 5,32,32,[.int .u8,.int .u8,.int .u8,.int .u8,.int .u8,.int .u8,.int .u8,.int .u8,.int .u8,.int .u8,.int .u8,.int .u8,.int .u8,.int .u8,.int .u8,.int .u8,.int .u8,.int .u8,.int .u8,.int .u8,.int .u8,.int .u8,.int .u8,.int .u8,.int .u8,.int .u8,.int .u8,.int .u8,.int .u8,.int .u8,.int .u8,.int .u8],true⟩),
 (421,⟨.arr 0 16,0,0,[],true⟩)]
noncomputable def cx:Cx:={ P:=Tryz.prog,T:=tab,mixed:=by kernel_rfl,hT:=by kernel_rfl }
abbrev Str:=List UInt8
/-! ### The model -/
structure Rel where
 kind:Int
 upper:Str
 lower:Str
 deriving DecidableEq,Inhabited
def pB (b:UInt8):Bool:=(decide (97<=(b.toNat:Int)) && decide ((b.toNat:Int)<=122)) || (decide (65<=(b.toNat:Int)) && decide ((b.toNat:Int)<=90))
def wM (b:UInt8):Bool:=(decide (48<=(b.toNat:Int)) && decide ((b.toNat:Int)<=57)) || ((b.toNat:Int) == 95)
def jC (k:Nat)(b:UInt8):Bool:=pB b || (!(k == 0) && wM b)
def gS:Nat->Str->Bool
 | _,[]=>true
 | k,b::s=>jC k b && gS (k+1) s
def cV (s:Str):Bool:=!(s == []) && decide (s.length<=32) && gS 0 s
theorem pl:∀ {s:Str}{k i:Nat}{b:UInt8},s[i]?=some b->jC (k+i) b=false->gS k s=false
 | [],k,i,b,h,_=>by simp at h
 | c::s,k,0,b,h,a=>by
  simp at h;subst h;simp only [Ru] at a;simp [gS,a]
 | c::s,k,i+1,b,h,a=>by
  have:=pl (k:=k+1) (by simpa using h) (by rw [show k+1+i=k+(i+1) by omega];exact a);simp [gS,this]
theorem nq:∀ {s:Str}{k:Nat},(∀ i b,s[i]?=some b->jC (k+i) b=true)->gS k s=true
 | [],k,_=>rfl
 | c::s,k,h=>by
  have h0:=h 0 c ap;simp only [Ru] at h0;have h1:=nq (s:=s) (k:=k+1) (fun i b a=>by
   have:=h (i+1) b (by simpa using a)
   rwa [show k+(i+1)=k+1+i by omega] at this)
  simp [gS,h0,h1]
/-! ### IsName -/
set_option maxRecDepth 100000 in
theorem hU (C:Mem)(s:Str)(D:s.length<1000000):Gives cx.P 285 [ah s] C (.bool (cV s)):=by
 refine Tk func285 57 U3 fun w0=>?_;refine Tb 1 [0,2] Z ?_;refine Tc 6 Z fun R a=>?_;refine TN U8 ?_;refine Th [0,13] a Z ?_;refine G.cond Z (fun h=>?_) (fun h=>?_)
 ·refine Tb 1 [2] Z ?_;refine Tl U2 ?_;refine ⟨?_,Z⟩;congr 1;simp only [Ro,Q0,PI] at h;unfold cV;rcases h with h | h
  ·have:s=[]:=h;simp [this]
  have h2:¬ s.length<=32:=by omega
  simp [h2]
 simp only [Rc,Ri,P3] at h;have q:s≠[]:=h.1;have r:s.length<=32:=by have:=h.2;omega
 refine Tc 1 Z fun R a=>?_;refine Vu Z Z Z Z Z Z Z Z Z Z (by simp only [maxLen];omega) fl_ (fun E _ _ g=>?_);have t:=g;obtain ⟨A,c,rfl,_⟩:=t;refine C6 2 [15,16,17] a Z ?_;refine G.loop (fun fr u j m=>∃ k:Nat,k<=s.length/\(∀ i b,i<k->s[i]?=some b->jC (0+i) b=true)/\fr=[(15,[],.slice A (s.map fun b=>[Value.int .u8 b.toNat]).length c),(16,[],.int .i64 (s.map fun b=>[Value.int .u8 b.toNat]).length),(17,[],.int .i64 k)]/\j=[]/\m=s.length-k) (m:=s.length) (hn_ [15,16,17] Z) ⟨0,PG _,fun i b v=>by omega,Z,Z,Z⟩ (fun fr u j m l w=>?_);obtain ⟨k,F,n,rfl,rfl,rfl⟩:=w;refine Tb 1 [15,16,17,18] Z ?_;refine G.cond Z (fun h=>?_) (fun h=>?_)
 ·simp only [am,PI] at h;have x:k<s.length:=by omega
  obtain ⟨b,d⟩:∃ b,s[k]?=some b:=⟨s[k],al x⟩;have y:=g.mono l;refine Tc 1 Z fun R a=>?_;refine Tt y U10 om_ (row:=[.int .u8 b.toNat]) (by simp [d]) fl_ (fun H z=>?_);refine Td z U8 ?_;refine C6 2 [3,4,15,16,17] a Z ?_;refine Tc 5 Z fun R a=>?_;refine TB U8 ?_;refine Tg 6 Z ?_;refine TB U8 ?_;refine TN U8 ?_;refine Te U6 ?_;refine UE [E_ 3 _,E_ 4 _,(5,[],.bool (pB b)),E_ 15 _,E_ 16 _,E_ 17 _] a ?_;refine Tc 5 Z fun R a=>?_;refine TB U8 ?_;refine Tg 3 Z ?_;refine TN U8 ?_;refine Te U6 ?_;refine UE [E_ 3 _,E_ 5 _,(6,[],.bool (wM b)),E_ 15 _,E_ 16 _,E_ 17 _] a ?_;refine Tc 8 Z fun R a=>?_;refine TN U8 ?_;refine TB U8 ?_;refine UE [E_ 15 _,E_ 16 _,E_ 17 _,(55,[],.bool (!(pB b) && (((k:Int) == 0) || !(wM b))))] a ?_;have o:(!(pB b) && (((k:Int) == 0) || !(wM b)))=!(jC (0+k) b):=by
   have e:((k:Int) == 0)=(0+k == 0):=by
    rw [QV];by_cases p:k=0
    ·subst p;rfl
    have:¬ (k:Int)=0:=by omega
    rw [Ri.2 this,Ri.2 p]
   unfold jC;rw [e];cases pB b <;> cases wM b <;> cases (0+k == 0) <;> rfl
  refine G.cond Z (fun h=>?_) (fun h=>?_)
  ·rw [o] at h;refine Tb 1 [2] Z ?_;refine Tl U2 ?_;refine ⟨?_,Z⟩;have:=pl (k:=0) d (by simpa using h);simp [cV,this]
  rw [o] at h;refine Tf fun R a=>?_;refine TL ((k+1:Nat):Int) U4 om_ om_ om_ U2 ?_;refine C6 1 [15,16,17] a Z ?_;refine Tp (m':=s.length-(k+1)) om_ l (hn_ [15,16,17] Z) ⟨k+1,by omega, ?_,Z,Z,Z⟩;intro i B v f;rcases P4 i k with h1 | h1
  ·exact n i B h1 f
  have:i=k:=by omega
  subst this;rw [d] at f;cases f
  simpa using h
 simp only [am,P3] at h;refine Tb 1 [2] Z ?_;refine Tl U2 ?_;refine ⟨?_,Z⟩;have:=nq (s:=s) (k:=0) (fun i b d=>n i b (by have:=(aJ.1 d).1;omega) d);simp [cV,this,q,r]
set_option maxRecDepth 100000
structure ArcE where
 lower:Str
 upper:Str
 deriving DecidableEq,Inhabited
theorem Ot (a b:Str):(a == b)=decide (a=b):=by by_cases h:a=b <;> simp [h]
set_option maxRecDepth 100000
def KM (a b:Int):Int:=if a<b then -1 else if a=b then 0 else 1
/-! ### Comparisons -/
structure TotC {α:Type}(f:α->α->Int):Prop where
 eq:∀ x y,f x y=0 ↔ x=y
 sym:∀ x y,f x y<0 ↔ 0<f y x
 trans:∀ x y z,f x y<0->f y z<0->f x z<0
section
variable {α:Type} {f:α->α->Int}
variable [DecidableEq α]
def ins (f:α->α->Int)(x:α):List α->List α
 | []=>[x]
 | y::l=>if f y x<0 then y::ins f x l else if y=x then y::l else x::y::l
end
def pS (x:Int):List Value:=[.int .i64 x]
def aS (i:Nat):List Value:=[.int .i64 i]
abbrev OM (b:Nat):Value:=.pointer (some ⟨b,0,none⟩)
abbrev MV (b:Nat)(q:Option Addr)(v:Value):Ent:=.obj b (.cells ⟨[.pointer q,v]⟩ 344 (0,0))
abbrev u8s (s:Str):List Value:=s.map fun c=>Value.int .u8 c.toNat
abbrev MW (v:Value)(s:Str):Ent:=.arr v 5 1 s.length (u8s s)
theorem sr (C:Mem)(b:Nat)(q:Option Addr)(v:Value)(g:q=none∨q=some ⟨b,0,none⟩):Jog.Fn cx.P 296 [OM b] C [MV b q v] fun _ _ d=>d=[MV b (some ⟨b,0,none⟩) v]:=by
 refine Tk func296 20 U3 fun w0=>Tu (L':=[.obj b (.cells ⟨[.pointer q,v]⟩ 344 (0,0))]) Z<|Tc 3 Z fun R a=>Ti ag U9<|VC (e:=344) Z Z Z Z Z kr_ kr_ Z Z<|Th [0,6] a Z<|G.cd (fun c=>?_) fun c=>?_
 ·have h:q=none:=by simpa using c
  subst h;refine Tc 2 Z fun R a=>Vt (t:=344) Z Z Z Z Z ag kr_ kr_ kr_ ap fl_<|Vw (fn:=Tryz.f323) Z Z Z Z Z func323 kr_ kr_ kr_ kr_ fl_<|VG (t:=344) Z Z Z Z Z ag kr_ kr_ kr_ kr_ fl_<|Tg 2 Z<|Tj (j:=0) U12<|Ui [] trivial (a _ _ _ Z ?_);refine Ut Z ?_;rfl
 have i:q=some ⟨b,0,none⟩:=by
  rcases g with rfl | rfl
  ·simp at c
  rfl
 subst i;refine Tc 3 Z fun R a=>Ti ag U9<|Te U6<|VK (e:=344) Z Z Z Z Z Z kr_ kr_ Z Z<|Th [19] a Z<|G.cd (fun f=>?_) fun f=>?_
 ·cases f
 refine Ut Z ?_;rfl
theorem uV (C:Mem)(b:Nat)(q:Option Addr)(v:Value)(s:Str)(c:UInt8)(i:q=none∨q=some ⟨b,0,none⟩)(m:s.length<=1000000000):Jog.Fn cx.P 253 [OM b,.int .u8 c.toNat] C [MV b q v,MW v s] fun _ _ a=>∃ h,a=[MV b (some ⟨b,0,none⟩) h,MW h (s++[c])]:=by
 refine Tk func253 17 U3 fun w0=>Tu (L':=[.obj b (.cells ⟨[.pointer q,v]⟩ 344 (0,0)),.arr v 5 1 s.length (u8s s)]) Z<|Tb 1 [0,1] Z<|TC [(1,3)] Z fun R d=>Te U6<|D.call (sr _ b q v i) Z (.inr dc_) U6 (PC _) fl_ fun n _ o _ k=>Th [0,1] d Z ?_;subst k;refine Tu (L':=[.obj b (.cells ⟨[.pointer (some ⟨b,0,none⟩),v]⟩ 344 (0,0)),.arr v 5 1 s.length (u8s s)]) Z<|Tc 4 Z fun R d=>Ti ag U9<|Te U6<|Tz [[.int .u8 c.toNat]] U12 fun p _ _ l=>TH (j:=1) U11 l Z ax (by simp only [ba];omega) fl_ fun e f g=>Tg 2 Z<|Tj (j:=1) U12<|Ui [] trivial (d _ _ _ Z ?_);refine Tb 1 [4] Z<|G.perm (L':=[.obj b (.cells ⟨[.pointer (some ⟨b,0,none⟩),.slice e f g]⟩ 344 (0,0)),.arr (.slice e f g) 5 1 (s.length+1) (u8s s++[Value.int .u8 c.toNat])]) (PC _)<|Tn (TQ Z Z ?_);exact ⟨.slice e f g,by simp [MW,u8s]⟩
theorem jT (C:Mem)(b:Nat)(q:Option Addr)(v:Value)(s t:Str)(e:q=none∨q=some ⟨b,0,none⟩)(g:s.length+t.length<=1000000000):Jog.Fn cx.P 256 [OM b,ah t] C [MV b q v,MW v s] fun _ _ a=>∃ d,a=[MV b (some ⟨b,0,none⟩) d,MW d (s++t)]:=by
 refine Tk func256 19 U3 fun w0=>Tu (L':=[.obj b (.cells ⟨[.pointer q,v]⟩ 344 (0,0)),.arr v 5 1 s.length (u8s s)]) Z<|Tb 2 [0,1] Z<|TC [(1,3)] Z fun R c=>Te U6<|D.call (sr _ b q v e) Z (.inr dc_) U6 (PC _) fl_ fun h _ i _ f=>Th [0,1] c Z ?_;subst f;refine Tu (L':=[.obj b (.cells ⟨[.pointer (some ⟨b,0,none⟩),v]⟩ 344 (0,0)),.arr v 5 1 s.length (u8s s)]) Z<|Tc 4 Z fun R c=>Ti ag U9<|Te U6<|VM (j:=1) Z Z Z Z Z Z Z Z Z Z Z Z Z Z Z om_ fl_ fun A2 n2 c2=>Tg 2 Z<|Tj (j:=1) U12<|Th [1] c Z<|Tb 4 [4,5] Z<|G.perm (L':=[.obj b (.cells ⟨[.pointer (some ⟨b,0,none⟩),.slice A2 n2 c2]⟩ 344 (0,0)),.arr (.slice A2 n2 c2) 5 1 (s.length+t.length) (u8s s++t.map fun b=>Value.int .u8 b.toNat)]) (PC _)<|Tn (TD U3 ?_);exact ⟨.slice A2 n2 c2,by simp [MW,u8s]⟩
theorem Dg (C:Mem)(b:Nat)(q:Option Addr)(v:Value)(s:Str)(a:s≠[])(g:s.length<=1000000000):Jog.Fn cx.P 257 [OM b] C [MV b q v,MW v s] fun u _ c=>u=ah s/\c=[]:=by
 refine Tk func257 14 U3 fun w0=>Tu (L':=[.obj b (.cells ⟨[.pointer q,v]⟩ 344 (0,0)),.arr v 5 1 s.length (u8s s)]) Z<|G.form af (fun d h=>?_);have i:=Qi.2 a;rcases d with ⟨h1,h2⟩ | ⟨g0,c0,rfl,k,l⟩
 ·omega
 exact Tb 1 [0] Z<|Tx [0,1,2,3,4,5,6,7,8,9,10,11] [(4,0)] Z kr_ fun R m f=>Tg 3 Z<|Ti ag U9<|VJ Z Z Z Z Z om_ Z Z<|Tg 3 Z<|Ti ag U9<|Te U6<|VI (j:=1) (e:=5) Z Z Z Z kr_ kr_ Z Z Z a om_ fl_<|C6 1 [2] f Z<|Tl U2<|⟨Z,Z⟩
def cM (x:Nat):List Value:=[.int .u64 x]
theorem eD (x:Nat):(cM x).length=1:=rfl
def NineC (C:Mem)(v:Value)(n:Nat):Prop:=∃ l,xw l/\bu l=n/\Sl C 1 v (l.map cM)
theorem NineC.mono {C D:Mem}{v:Value}{n:Nat}(h:NineC C v n)(a:C.le D):NineC D v n:=by
 obtain ⟨l,h1,h2,h3⟩:=h;exact ⟨l,h1,h2,h3.mono a⟩
theorem NineC.m_ {D:Mem}(h:NineC C v n)(a:C.le D:=by exact mup):NineC D v n:=NineC.mono h a
theorem zE (C:Mem)(v:Value)(l:List Nat)(d:Sl C 1 v (l.map cM)):Pur cx.P 252 [v] C fun u f=>Sl f 1 u ((DC l).map cM):=by
 obtain ⟨p,c0,rfl,q,_⟩:=id d;simp only [am] at d q ⊢;refine Tk func252 21 U3 fun w0=>Tb 1 [0] Z<|G.loop (fun fr f r s=>∃ (k:Nat)(A:Option Addr)(c:Nat),(k<=l.length/\Sl f 1 (.slice A k c) ((l.take k).map cM)/\mQ l l.length=mQ l k)/\fr=[(0,[],.slice A k c)]/\r=[]/\s=k+1) (hn_ [0] Z) ⟨l.length,p,c0,⟨Py _,by rw [PO];exact d,Z⟩,Z,Z,Z⟩ (fun fr F H m _ t=>?_);obtain ⟨k,A,c,⟨I,hs,i⟩,rfl,rfl,rfl⟩:=t;obtain ⟨_,J,w,x,_⟩:=id hs;have K:maxLen<=9223372036854775807:=by simp [maxLen]
 have L:k<=c:=by
  rw [am,PM] at x;injection w with h1 h2 h3;omega
 have y:0<k->((l.take k).map cM)[((k:Int)-1).toNat]?=some (cM (g9 l (k-1))):=fun h=>by
  rw [show ((k:Int)-1).toNat=k-1 by omega,PD,Qm,aL om_,al (by omega:k-1<l.length)];unfold g9;rw [ay,al (by omega:k-1<l.length)];rfl
 refine Tc 7 Z fun R g=>Tm _ U7<|D.index U10 (fun n=>⟨hs,(by have h:decide ((0:Int)<(k:Int))=true:=n.1;simp at h;omega),y (by have h:decide ((0:Int)<(k:Int))=true:=n.1;simp at h;omega)⟩) fl_ Z fun M z=>TF U6 z U3<|Te U6<|TB U8<|Th [0,14] g Z<|G.cd (fun b=>?_) fun b=>?_
 ·have a:0<k/\g9 l (k-1)=0:=by
   have:(0:Int)<(k:Int)/\((g9 l (k-1):Nat):Int)=0:=by simpa using b
   omega
  refine Tc 3 Z fun R g=>TL (((k-1:Nat):Int)) U4 om_ om_ om_ U2<|Ud 0 (k-1) c U12 (fun _=>⟨.inl ⟨Z,Z⟩,.inr ⟨_,Z⟩,.inl ⟨Z,Z⟩,by omega,by omega,Py _⟩) U2<|C6 1 [0] g Z ?_;have o:=Sl.sub hs (l:=0) (h:=k-1) (m:=c) (PG _) aq om_ (Py _);have B:(((l.take k).map cM).take (k-1)).drop 0=(l.take (k-1)).map cM:=by
   rw [QO,<- RP,Sy,QD om_]
  rw [B] at o;have E:mQ l l.length=mQ l (k-1):=by
   rw [i];obtain ⟨j,rfl⟩:∃ j,k=j+1:=⟨k-1,by omega⟩;simp only [RG] at a ⊢;rw [mQ,aL];unfold g9 at a;rw [ay,al om_] at a;rw [al om_];exact congrArg some a.2
  refine Tp (m':=k-1+1) om_ mup (hn_ [0] Z) ⟨k-1,_,c,⟨by omega,o.mono mup,E⟩,Z,Z,Z⟩
 have a:¬ (0<k/\g9 l (k-1)=0):=fun hh=>by
  have h1:(decide ((0:Int)<(k:Int)) && (((g9 l (k-1):Nat):Int) == 0))=true:=by
   rw [hh.2];simp;omega
  rw [h1] at b;cases b
 refine Tb 2 [2] Z<|Tl U2<|⟨Z, ?_⟩;have e:mQ l k=k:=by
  cases k with
  | zero=>rfl
  | succ j =>
   simp only [RG] at a;rw [mQ,aF];intro h;refine a ⟨by omega, ?_⟩;unfold g9;rw [ay,h];rfl
 unfold DC;rw [i,e];exact hs
theorem gm (C:Mem)(v:Value)(l:List Nat)(b:l.length=n):Jog.Fn cx.P 252 [v] C [.arr v 285 1 n (l.map cM).flatten] fun u a c=>c=[]/\Sl a 1 u ((DC l).map cM) :=
 Jog.Fn.give (l.map cM) kr_ (by intro r hr;obtain ⟨y,_,rfl⟩:=PF.1 hr;rfl) (by rw [am,b]) (fun a _ hs=>zE a v l hs)
def jA (m n:Nat):Int:=if m<n then -1 else if n<m then 1 else 0
theorem iQ :jA m n<0 ↔ m<n:=by unfold jA;split <;> (try split) <;> omega
theorem E6 :0<jA m n ↔ n<m:=by unfold jA;split <;> (try split) <;> omega
theorem E5 (C:Mem)(w z:Value)(a b:List Nat)(d:Sl C 1 w (a.map cM))(f:Sl C 1 z (b.map cM))(n:xw a)(o:xw b):Gives cx.P 221 [w,z] C (.int .i64 (jA (bu a) (bu b))):=by
 have Y:maxLen<=9223372036854775807:=by simp [maxLen]
 obtain ⟨F,c0,rfl,H,aa,_⟩:=id d;obtain ⟨I,J,rfl,K,ab,_⟩:=id f;simp only [am] at d f H K ⊢;refine Tk func221 41 U3 fun w0=>Tb 1 [0,1] Z<|Tb 5 [0,1,10] Z<|G.cd (fun g=>?_) fun g=>?_
 ·have ac:a.length≠b.length:=fun e=>by
   rw [e] at g;simp at g
  refine Tb 5 [15] Z<|G.cd (fun p=>?_) fun p=>?_
  ·have q:a.length<b.length:=by
    have:(a.length:Int)<b.length:=by simpa using p
    omega
   exact Tb 1 [4] Z<|Tl U2<|⟨by rw [show jA (bu a) (bu b)=-1 from aL (tW n.1 o q)],Z⟩
  have q:b.length<a.length:=by
   have:¬ (a.length:Int)<b.length:=by simpa using p
   omega
  have r:=tW o.1 n q;exact Tb 1 [4] Z<|Tl U2<|⟨by rw [show jA (bu a) (bu b)=1 from by unfold jA;rw [aF om_,aL r]],Z⟩
 have s:a.length=b.length:=by
  have:(a.length:Int)=b.length:=by simpa using g
  omega
 refine Tc 2 Z fun R c=>Tm _ U7<|C6 1 [0,1,5] c Z<|G.loop (fun fr C' L M=>∃ (k:Nat),(k<=a.length/\a.drop k=b.drop k)/\fr=[(0,[],.slice F a.length c0),(1,[],.slice I b.length J),(5,[],.int .i64 ((k:Int)-1))]/\L=[]/\M=k+1) (hn_ [0,1,5] Z) ⟨a.length,⟨Py _,by rw [QA,s,QA]⟩,Z,Z,Z⟩ (fun fr ad ae m _ N=>?_);obtain ⟨k,⟨hk,i⟩,rfl,rfl,rfl⟩:=N;refine Tb 2 [0,1,5,20] Z<|G.cd (fun t=>?_) fun t=>?_
 ·have A:0<k:=by
   have:(0:Int)<=(k:Int)-1:=by simpa using t
   omega
  obtain ⟨j,rfl⟩:∃ j,k=j+1:=⟨k-1,by omega⟩;obtain ⟨x,l⟩:∃ x,a[j]?=some x:=⟨a[j],al om_⟩;obtain ⟨y,hy⟩:∃ y,b[j]?=some y:=⟨b[j],al om_⟩;have B:(a.map cM)[(((j+1:Nat):Int)-1).toNat]?=some (cM x):=by
   rw [show (((j+1:Nat):Int)-1).toNat=j by omega,PD,l];rfl
  have D:(b.map cM)[(((j+1:Nat):Int)-1).toNat]?=some (cM y):=by
   rw [show (((j+1:Nat):Int)-1).toNat=j by omega,PD,hy];rfl
  refine Tx [0,1,2,3,4,5,6,7,8] [] Z kr_ fun R O c=>Tg 2 Z<|Tt d.m_ U10 om_ B fl_ fun af Q=>Td Q U8<|Tg 2 Z<|Tt f.m_ U10 om_ D fl_ fun ag S=>Td S U8<|C6 1 [0,1,5,31] c Z<|G.cd (fun u=>?_) fun u=>?_
  ·have E:x≠y:=fun h=>by
    subst h;simp at u
   refine Tx [0,1,2,3,4,5,6,7,8] [] Z kr_ fun R O c=>Tg 2 Z<|Tt d.m_ U10 om_ B fl_ fun ah T=>Td T U8<|Tg 2 Z<|Tt f.m_ U10 om_ D fl_ fun ai U=>Td U U8<|C6 1 [40] c Z<|G.cd (fun v=>?_) fun v=>?_
   ·have E:x<y:=by
     have:(x:Int)<y:=by simpa using v
     omega
    exact Tb 1 [4] Z<|Tl U2<|⟨by rw [show jA (bu a) (bu b)=-1 from aL (KO n.1 s l hy E i)],Z⟩
   have V:y<x:=by
    have:¬ (x:Int)<y:=by simpa using v
    omega
   have r:=KO o.1 s.symm hy l V i.symm;exact Tb 1 [4] Z<|Tl U2<|⟨by rw [show jA (bu a) (bu b)=1 from by unfold jA;rw [aF om_,aL r]],Z⟩
  have W:x=y:=by
   have:(x:Int)=y:=by simpa using u
   omega
  refine Tc 1 Z fun R c=>Tm _ U7<|C6 1 [0,1,5] c Z ?_;rw [show ((j+1:Nat):Int)-1-1=(j:Int)-1 by omega];refine Tp (m':=j+1) om_ mup (hn_ [0,1,5] Z) ⟨j,⟨by omega,by
   rw [PW (by omega:j<a.length),PW (by omega:j<b.length),i,(aJ.1 l).2,(aJ.1 hy).2,W]⟩,rfl,rfl,rfl⟩
 have A:k=0:=by
  have:¬ (0:Int)<=(k:Int)-1:=by simpa using t
  omega
 subst A;refine Tb 1 [4] Z<|Tl U2 ?_;have X:a=b:=by simpa using i
 subst X;exact ⟨by rw [show jA (bu a) (bu a)=0 from by unfold jA;rw [aF om_,aF om_]],Z⟩
theorem wx (h:i<l.length):l[i]?=some (g9 l i):=by rw [al h,yy (al h)]
theorem jb (h:i<l.length):(l.map cM)[i]?=some (cM (g9 l i)):=by rw [PD,wx h];rfl
theorem Kz (h:l.length<=i):g9 l i=0:=by
 unfold g9;rw [ay,PJ h];rfl
theorem B9v:B9=1000000000:=rfl
theorem LU (C:Mem)(E F:Value)(a b:List Nat)(q:Sl C 1 E (a.map cM))(r:Sl C 1 F (b.map cM))(H:Dig9 a)(I:Dig9 b)(O:a.length<=10000000)(Q:b.length<=10000000) :
  Pur cx.P 220 [E,F] C fun u k=>NineC k u (bu a+bu b):=by
 obtain ⟨A0,c0,rfl,_⟩:=id q;obtain ⟨B0,d0,rfl,_⟩:=id r;simp only [am] at q r ⊢;have hB:=B9v;refine Tk func220 53 U3 fun w0=>Tb 1 [0,1] Z<|Tb 5 [0,1,13] Z<|G.cut (fun fr k l o=>∃ (e lb:List Nat)(A:Option Addr)(c:Nat)(B:Option Addr)(d:Nat),(Sl k 1 (.slice A e.length c) (e.map cM)/\Sl k 1 (.slice B lb.length d) (lb.map cM)/\lb.length<=e.length/\bu e+bu lb=bu a+bu b/\Dig9 e/\Dig9 lb/\e.length<=10000000)/\fr=[(0,[],.slice A e.length c),(1,[],.slice B lb.length d)]/\l=[]) ?_ (fun fr _ ai o _ p=>?_)
 ·refine G.cd (fun t=>?_) fun t=>?_
  ·have S:a.length<b.length:=by
    have:(a.length:Int)<b.length:=by simpa using t
    omega
   refine Tb 4 [0,1] Z<|Tr 0 (Mem.le.refl _) (hn_ [0,1] Z) ⟨b,a,_,_,_,_,⟨r.mono mup,q.mono mup,by omega,by omega,I,H,Q⟩,Z,Z⟩
  have S:¬ a.length<b.length:=fun h=>by
   have:(a.length:Int)<b.length:=by omega
   simp [this] at t
  refine Tr 0 (Mem.le.refl _) (hn_ [0,1] Z) ⟨a,b,_,_,_,_,⟨q.mono mup,r.mono mup,by omega,Z,H,I,O⟩,Z,Z⟩
 obtain ⟨e ,lb ,A ,c ,B ,d,⟨T,U,V,W,X,Y,aj⟩,rfl,rfl⟩:=p;refine Tc 2 Z fun R g=>Tm _ U7<|Um U9 (PG _) (by show 8*(e.length+1)<=281474976710656;omega) (by simp only [maxLen];omega) fl_ fun ak=>C6 1 [0,1,5] g Z<|Tb 1 [0,1,5,6] Z<|Tb 3 [1,5,6,20,21,22] Z<|G.loop (fun fr k l o=>∃ (i:Nat)(out:List Nat)(f:Nat)(w:Value),(i<=e.length/\out.length=i/\Dig9 out/\f<=1/\bu out+B9 ^ i*f=bu (e.take i)+bu (lb.take i))/\fr=[(1,[],.slice B lb.length d),(5,[],w),(6,[],.int .u64 f),(20,[],.slice A e.length c),(21,[],.int .i64 e.length),(22,[],.int .i64 i)]/\l=[.arr w 285 1 i (out.map cM).flatten]/\o=e.length-i) (hn_ [1,5,6,20,21,22] Z) ⟨0,[],0,_,⟨PG _,Z,(fun x hx=>(by cases hx)),by omega,Z⟩,Z,Z,Z⟩ (fun fr al an m _ p=>?_);obtain ⟨i,out,f,w,⟨hi,s,J,K,L⟩,rfl,rfl,rfl⟩:=p;refine Tb 1 [1,5,6,20,21,22,23] Z<|G.cd (fun v=>?_) fun v=>?_
 ·have y:i<e.length:=by simpa using v
  have aa:=kD X i;have ab:=kD Y i;refine Tc 1 Z fun R g=>Tt T.m_ U10 om_ (jb (i:=i) y) fl_ fun ao ac=>Td ac U8<|C6 2 [1,5,6,7,8,20,21,22] g Z<|Tc 2 Z fun R g=>D.int (((f+g9 e i:Nat):Int)) U4 (by rw [IntKind.wrap_u64];omega) U2<|C6 1 [1,5,6,7,20,21,22] g Z<|Tb 4 [1,5,6,7,20,21,22,33] Z<|G.cut (fun fr k l o=>(True)/\fr=[(1,[],.slice B lb.length d),(5,[],w),(6,[],.int .u64 ((f+g9 e i+g9 lb i:Nat):Int)),(20,[],.slice A e.length c),(21,[],.int .i64 e.length),(22,[],.int .i64 i)]/\l=[.arr w 285 1 i (out.map cM).flatten]) ?_ (fun fr _ ap o _ p=>?_)
  ·refine G.cd (fun z=>?_) fun z=>?_
   ·have ad:i<lb.length:=by simpa using z
    refine Tc 3 Z fun R g=>Tt U.m_ U10 om_ (jb (i:=i) ad) fl_ fun aq ae=>Td ae U8<|D.int (((f+g9 e i+g9 lb i:Nat):Int)) U4 (by rw [IntKind.wrap_u64];omega) U2<|C6 1 [1,5,6,20,21,22] g Z<|Tr 0 (Mem.le.refl _) (hn_ [1,5,6,20,21,22] Z) ⟨trivial,Z,Z⟩
   have hz:g9 lb i=0:=Kz (by have h:¬ i<lb.length:=(by simpa using z);omega);refine Tr 0 (Mem.le.refl _) (hn_ [1,5,6,20,21,22] Z) ⟨trivial,by rw [hz];rfl,Z⟩
  obtain ⟨ar,rfl,rfl⟩:=p;refine Tc 2 Z fun R g=>TS (f+g9 e i+g9 lb i) (B9) U6 om_ U2<|Tz [cM ((f+g9 e i+g9 lb i) % B9)] U12 fun au _ _ af=>D.append (j:=0) U11 af Z ax (by show (i+1)*8<=_;omega) fl_ fun M=>C6 1 [1,5,6,20,21,22] g Z<|Tc 1 Z fun R g=>Up (f+g9 e i+g9 lb i) (B9) U6 om_ (.inr ⟨Z,by omega⟩) U2<|C6 1 [1,5,6,20,21,22] g Z<|Tf fun R g=>Tm _ U7<|C6 1 [1,5,6,20,21,22] g Z ?_;have N:f+g9 e i+g9 lb i=g9 e i+g9 lb i+f:=by omega
  refine Tu (L':=[.arr M 285 1 (i+1) ((out++[(g9 e i+g9 lb i+f) % B9]).map cM).flatten]) (by rw [N];simp [cM]) ?_;rw [N];refine Tp (m':=e.length-(i+1)) om_ mup (hn_ [1,5,6,20,21,22] Z) ⟨i+1,out++[(g9 e i+g9 lb i+f) % B9],(g9 e i+g9 lb i+f) / B9,M,⟨by omega,by simp [s],J.snoc (P2 _ dc_),GX aa ab K,Ha s L⟩,Z,Z,Z⟩
 have y:i=e.length:=by
  have:¬ i<e.length:=by simpa using v
  omega
 refine TC [(4,3)] Z fun R g=>Tg 2 Z<|Tz [cM f] U12 fun av _ _ ag=>D.append (j:=0) U11 ag Z ax (by show (i+1)*8<=_;omega) fl_ fun aw=>D.call (gm _ _ (out++[f]) (n:=i+1) (by simp [s])) Z (.inr dc_) U6 (by rw [Qb,Qj];exact PC _) fl_ (fun ay _ az _ ah=>?_);obtain ⟨rfl,hu⟩:=ah;refine C6 1 [4] g Z<|Tl U2<|⟨Z,DC (out++[f]),ij (J.snoc (Qu K dc_)), ?_,hu⟩;rw [ii,iF,s,L,y,PO,Qg V,W]
theorem IL (C:Mem)(H I:Value)(a b:List Nat)(q:Sl C 1 H (a.map cM))(r:Sl C 1 I (b.map cM))(L:Dig9 a)(J:Dig9 b)(ac:a.length<=10000000)(M:b.length<=a.length)(ad:bu b<=bu a) :
  Pur cx.P 222 [H,I] C fun u k=>NineC k u (bu a-bu b):=by
 obtain ⟨s,c0,rfl,_⟩:=id q;obtain ⟨t,v,rfl,_⟩:=id r;simp only [am] at q r ⊢;have N:=B9v;refine Tk func222 45 U3 fun w0=>Tb 1 [0,1] Z<|Tc 2 Z fun R d=>Um U9 (PG _) (by show 8*a.length<=281474976710656;omega) (by simp only [maxLen];omega) fl_ fun ae=>C6 1 [0,1,5] d Z<|Tb 1 [0,1,5,6] Z<|Tb 3 [1,5,6,13,14,15] Z<|G.loop (fun fr k e f=>∃ (i:Nat)(out:List Nat)(c:Nat)(w:Value),(i<=a.length/\out.length=i/\Dig9 out/\c<=1/\bu out+bu (b.take i)=bu (a.take i)+B9 ^ i*c)/\fr=[(1,[],.slice t b.length v),(5,[],w),(6,[],.int .u64 c),(13,[],.slice s a.length c0),(14,[],.int .i64 a.length),(15,[],.int .i64 i)]/\e=[.arr w 285 1 i (out.map cM).flatten]/\f=a.length-i) (hn_ [1,5,6,13,14,15] Z) ⟨0,[],0,_,⟨PG _,Z,(fun x O=>(by cases O)),by omega,Z⟩,Z,Z,Z⟩ (fun fr af ag m _ g=>?_);obtain ⟨i,out,c,w,⟨hi,l,y,z,o⟩,rfl,rfl,rfl⟩:=g;refine Tb 1 [1,5,6,13,14,15,16] Z<|G.cd (fun A=>?_) fun A=>?_
 ·have p:i<a.length:=by simpa using A
  have Q:=kD L i;have S:=kD J i;refine Tc 1 Z fun R d=>Tt q.m_ U10 om_ (jb (i:=i) p) fl_ fun ah T=>Td T U8<|C6 2 [1,5,6,7,8,13,14,15] d Z<|Tb 2 [1,5,7,8,9,13,14,15] Z<|Tb 4 [1,5,7,8,9,13,14,15,24] Z<|G.cut (fun fr k e f=>(True)/\fr=[(1,[],.slice t b.length v),(5,[],w),(8,[],.int .u64 (g9 a i)),(9,[],.int .u64 ((c+g9 b i:Nat):Int)),(13,[],.slice s a.length c0),(14,[],.int .i64 a.length),(15,[],.int .i64 i)]/\e=[.arr w 285 1 i (out.map cM).flatten]) ?_ (fun fr _ ai f _ g=>?_)
  ·refine G.cd (fun B=>?_) fun B=>?_
   ·have U:i<b.length:=by simpa using B
    refine Tc 3 Z fun R d=>Tt r.m_ U10 om_ (jb (i:=i) U) fl_ fun aj V=>Td V U8<|D.int (((c+g9 b i:Nat):Int)) U4 (by rw [IntKind.wrap_u64];omega) U2<|C6 1 [1,5,8,9,13,14,15] d Z<|Tr 0 (Mem.le.refl _) (hn_ [1,5,8,9,13,14,15] Z) ⟨trivial,Z,Z⟩
   have W:g9 b i=0:=Kz (by have h:¬ i<b.length:=(by simpa using B);omega);refine Tr 0 (Mem.le.refl _) (hn_ [1,5,8,9,13,14,15] Z) ⟨trivial,by rw [W];rfl,Z⟩
  obtain ⟨ak,rfl,rfl⟩:=g;refine Tb 1 [1,5,6,8,9,13,14,15] Z<|Tb 3 [1,5,6,8,9,13,14,15,33] Z<|G.cut (fun fr k e f=>(True)/\fr=[(1,[],.slice t b.length v),(5,[],w),(6,[],.int .u64 ((uT (g9 a i) (g9 b i) c:Nat):Int)),(8,[],.int .u64 ((g9 a i+B9*uT (g9 a i) (g9 b i) c:Nat):Int)),(9,[],.int .u64 ((c+g9 b i:Nat):Int)),(13,[],.slice s a.length c0),(14,[],.int .i64 a.length),(15,[],.int .i64 i)]/\e=[.arr w 285 1 i (out.map cM).flatten]) ?_ (fun fr _ al f _ g=>?_)
  ·refine G.cd (fun E=>?_) fun E=>?_
   ·have F:uT (g9 a i) (g9 b i) c=1:=by
     have:(g9 a i:Int)<((c+g9 b i:Nat):Int):=by simpa using E
     unfold uT;rw [aL om_]
    refine Tc 1 Z fun R d=>D.int (((g9 a i+B9*1:Nat):Int)) U4 (by rw [IntKind.wrap_u64];omega) U2<|C6 2 [1,5,6,8,9,13,14,15] d Z<|Tr 0 (Mem.le.refl _) (hn_ [1,5,6,8,9,13,14,15] Z) ⟨trivial,by rw [F];rfl,Z⟩
   have F:uT (g9 a i) (g9 b i) c=0:=by
    have:¬ (g9 a i:Int)<((c+g9 b i:Nat):Int):=by simpa using E
    unfold uT;rw [aF om_]
   refine Tr 0 (Mem.le.refl _) (hn_ [1,5,6,8,9,13,14,15] Z) ⟨trivial,by rw [F];rfl,Z⟩
  obtain ⟨an,rfl,rfl⟩:=g;refine Tc 3 Z fun R d=>?_;have ao:uT (g9 a i) (g9 b i) c<=1:=G2 _ _ _;have X:c+g9 b i<=g9 a i+B9*uT (g9 a i) (g9 b i) c:=by
   unfold uT;split <;> omega
  refine D.int (((Gr (g9 a i) (g9 b i) c:Nat):Int)) U4 (by rw [IntKind.wrap_u64];unfold Gr;rw [N] at X ⊢;omega) U2<|Tz [cM (Gr (g9 a i) (g9 b i) c)] U12 fun ap _ _ Y=>D.append (j:=0) U11 Y Z ax (by show (i+1)*8<=_;omega) fl_ fun K=>C6 1 [1,5,6,13,14,15] d Z<|Tf fun R d=>Tm _ U7<|C6 1 [1,5,6,13,14,15] d Z<|Tu (L':=[.arr K 285 1 (i+1) ((out++[Gr (g9 a i) (g9 b i) c]).map cM).flatten]) (by simp [cM])<|Tp (m':=a.length-(i+1)) om_ mup (hn_ [1,5,6,13,14,15] Z) ⟨i+1,out++[Gr (g9 a i) (g9 b i) c],uT (g9 a i) (g9 b i) c,K,⟨by omega,by simp [l],y.snoc (ME Q S z),G2 _ _ _,D8 J z l o⟩,Z,Z,Z⟩
 have p:i=a.length:=by
  have:¬ i<a.length:=by simpa using A
  omega
 refine TC [(1,3)] Z fun R d=>Te U6<|D.call (gm _ _ out (n:=i) l) Z (.inr dc_) U6 (PC _) fl_ (fun aq _ ar _ aa=>?_);obtain ⟨rfl,hu⟩:=aa;refine C6 1 [4] d Z<|Tl U2<|⟨Z,DC out,ij y, ?_,hu⟩;rw [p,PO,Qg M] at o;have h0:=iG y;rw [l,p] at h0;have ab:c=0:=by
  rcases Nat.le_one_iff_eq_zero_or_eq_one.1 z with h | h
  ·exact h
  rw [h,QG] at o;omega
 rw [ab,Nat.mul_zero] at o;rw [ii];omega
abbrev qU (g c n:Nat):Value:=.slice (some ⟨g,0,none⟩) n c
theorem DD (n:Nat):kf ([.int .u64 0]:List Value) n=((List.replicate n 0).map cM).flatten:=by
 rw [eS,Sd];rfl
theorem pK {j z:Nat}(h:i≠j):g9 (l.set i z) j=g9 l j:=by
 unfold g9;rw [ay,ay,SS h]
theorem Ba (n j:Nat):g9 (List.replicate n 0) j=0:=by
 unfold g9;rw [ay,Q2];split <;> rfl
theorem HD (C:Mem)(T U:Value)(a b:List Nat)(w:Sl C 1 T (a.map cM))(y:Sl C 1 U (b.map cM))(ah:Dig9 a)(ai:Dig9 b)(aw:a.length<=1000000)(ax:b.length<=1000000) :
  Pur cx.P 190 [T,U] C fun u s=>NineC s u (bu a*bu b):=by
 obtain ⟨A,c0,rfl,_⟩:=id w;obtain ⟨t,v,rfl,_⟩:=id y;simp only [am] at w y ⊢;have hB:=B9v;obtain ⟨N,hN⟩:∃ N,a.length+b.length+1=N:=⟨_,rfl⟩;refine Tk func190 79 U3 fun w0=>Tb 1 [0,1] Z<|Tc 4 Z fun R d=>TL (((a.length+b.length:Nat):Int)) U4 om_ om_ om_ U2<|TL (((N:Nat):Int)) U4 om_ om_ om_ U2<|Um U9 (Py _) (by show 8*N<=281474976710656;omega) (by simp only [maxLen];omega) fl_ fun f=>C6 1 [0,1,5] d Z<|Tb 3 [1,5,19,20,21] Z<|Tu (L':=[.arr (qU f N N) 285 1 N ((List.replicate N 0).map cM).flatten]) (by rw [<- DD];rfl)<|G.loop (fun fr s g n=>∃ (i:Nat)(o:List Nat),(i<=a.length/\o.length=N/\Dig9 o/\bu o=bu (a.take i)*bu b/\∀ j,i+b.length<=j->g9 o j=0)/\fr=[(1,[],.slice t b.length v),(5,[],qU f N N),(19,[],.slice A a.length c0),(20,[],.int .i64 a.length),(21,[],.int .i64 i)]/\g=[.arr (qU f N N) 285 1 N (o.map cM).flatten]/\n=a.length-i) (hn_ [1,5,19,20,21] Z) ⟨0,List.replicate N 0,⟨PG _,P9,(fun x l=>by rw [RC l];decide),by rw [rn (fun x l=>RC l)];simp [bu],fun j _=>Ba _ j⟩,Z,Z,Z⟩ (fun fr ay az m _ p=>?_);obtain ⟨i,o,⟨hi,V,W,X,hz⟩,rfl,rfl,rfl⟩:=p;refine Tb 1 [1,5,19,20,21,22] Z<|G.cd (fun B=>?_) fun B=>?_
 ·have E:i<a.length:=by simpa using B
  have l:=kD ah i;refine Tc 1 Z fun R d=>Tt w.m_ U10 om_ (jb (i:=i) E) fl_ fun aA ak=>Td ak U8<|C6 2 [1,5,6,7,19,20,21] d Z<|Tb 1 [1,5,6,7,8,19,20,21] Z<|Tb 3 [1,5,6,7,8,19,20,21,26,27,28] Z<|G.loop (fun fr s g n=>∃ (k:Nat)(q:List Nat)(c:Nat),(k<=b.length/\q.length=N/\Dig9 q/\c<B9/\bu q+B9 ^ (i+k)*c=bu o+B9 ^ i*(g9 a i*bu (b.take k))/\∀ j,i+b.length<=j->g9 q j=0)/\fr=[(1,[],.slice t b.length v),(5,[],qU f N N),(6,[],.int .i64 i),(7,[],.int .u64 (g9 a i)),(8,[],.int .u64 c),(19,[],.slice A a.length c0),(20,[],.int .i64 a.length),(21,[],.int .i64 i),(26,[],.slice t b.length v),(27,[],.int .i64 b.length),(28,[],.int .i64 k)]/\g=[.arr (qU f N N) 285 1 N (q.map cM).flatten]/\n=b.length-k) (hn_ [1,5,6,7,8,19,20,21,26,27,28] Z) ⟨0,o,0,⟨PG _,V,W,by decide,by simp [bu],hz⟩,Z,Z,Z⟩ (fun fr aB aC m _ p=>?_);obtain ⟨k,q,c,⟨hk,F,H,I,J,K⟩,rfl,rfl,rfl⟩:=p;refine Tb 1 [1,5,6,7,8,19,20,21,26,27,28,29] Z<|G.cd (fun L=>?_) fun L=>?_
  ·have M:k<b.length:=by simpa using L
   have hy:=kD ai k;have Y:=kD H (i+k);have aa:q[i+k]?=some (g9 q (i+k)):=wx om_;have al:=rN I l hy Y;rw [show B9*B9=1000000000000000000 from rfl] at al;refine Tc 1 Z fun R d=>Tt y.m_ U10 om_ (jb (i:=k) M) fl_ fun aD an=>Td an U8<|C6 2 [1,5,6,7,8,9,10,19,20,21,26,27,28] d Z<|Tc 4 Z fun R d=>TL (((i+k:Nat):Int)) U4 om_ om_ om_ U2<|TE ((i+k)*1) U10 aj U2<|TZ ag U6 (fun _=>(by rw [eA eD aa];rfl)) U2<|Tg 2 Z<|D.int (((g9 a i*g9 b k:Nat):Int)) U4 (by rw [<- Qe,IntKind.wrap_u64];omega) U2<|D.int (((g9 q (i+k)+g9 a i*g9 b k:Nat):Int)) U4 (by rw [IntKind.wrap_u64];omega) U2<|D.int (((c+g9 a i*g9 b k+g9 q (i+k):Nat):Int)) U4 (by rw [IntKind.wrap_u64];omega) U2<|C6 1 [1,5,6,7,8,9,19,20,21,26,27,28] d Z<|Tc 3 Z fun R d=>TL (((i+k:Nat):Int)) U4 om_ om_ om_ U2<|Te U6<|TS (c+g9 a i*g9 b k+g9 q (i+k)) (B9) U6 om_ U2<|TE ((i+k)*1) U10 aj U2<|TJ (j:=0) U11 (by show (i+k)*1+1<=_;rw [bP eD,F];omega)<|Th [1,5,6,7,8,19,20,21,26,27,28] d Z<|Tc 1 Z fun R d=>Up (c+g9 a i*g9 b k+g9 q (i+k)) (B9) U6 om_ (.inr ⟨Z,by omega⟩) U2<|C6 1 [1,5,6,7,8,19,20,21,26,27,28] d Z<|Tf fun R d=>Tm _ U7<|C6 1 [1,5,6,7,8,19,20,21,26,27,28] d Z<|Tu (L':=[.arr (qU f N N) 285 1 N ((q.set (i+k) ((c+g9 a i*g9 b k+g9 q (i+k)) % B9)).map cM).flatten]) (by rw [<- bK eD _ (by omega:i+k<q.length)];rfl)<|Tp (m':=b.length-(k+1)) om_ mup (hn_ [1,5,6,7,8,19,20,21,26,27,28] Z) ⟨k+1,q.set (i+k) ((c+g9 a i*g9 b k+g9 q (i+k)) % B9),(c+g9 a i*g9 b k+g9 q (i+k)) / B9,⟨by omega,by simp [F],H.set (P2 _ dc_),GW I l hy Y,Fi aa Z J,fun j r=>by rw [pK om_];exact K j r⟩,Z,Z,Z⟩
  have M:k=b.length:=by
   have:¬ k<b.length:=by simpa using L
   omega
  refine Tc 3 Z fun R d=>TL (((i+b.length:Nat):Int)) U4 om_ om_ om_ U2<|C6 1 [1,5,8,11,19,20,21] d Z<|G.loop (fun fr s g n=>∃ (m:Nat)(e:List Nat)(c2:Nat),(i+b.length<=m/\m<=i+b.length+1/\e.length=N/\Dig9 e/\c2<B9/\(m=i+b.length+1->c2=0)/\(m=i+b.length->g9 e m=0)/\bu e+B9 ^ m*c2=bu o+B9 ^ i*(g9 a i*bu b)/\∀ j,i+b.length+1<=j->g9 e j=0)/\fr=[(1,[],.slice t b.length v),(5,[],qU f N N),(8,[],.int .u64 c2),(11,[],.int .i64 m),(19,[],.slice A a.length c0),(20,[],.int .i64 a.length),(21,[],.int .i64 i)]/\g=[.arr (qU f N N) 285 1 N (e.map cM).flatten]/\n=2-(m-(i+b.length))) (hn_ [1,5,8,11,19,20,21] Z) ⟨i+b.length,q,c,⟨Py _,by omega,F,H,I,fun h=>by omega,fun _=>K _ (Py _),by rw [M,PO] at J;exact J,fun j r=>K j om_⟩,Z,Z,Z⟩ (fun fr aE aF m _ p=>?_);obtain ⟨m,e,c2,⟨aG,aH,O,ab,Q,ao,ap,ac,ad⟩,rfl,rfl,rfl⟩:=p;refine Tb 2 [1,5,8,11,19,20,21,60] Z<|G.cd (fun h60=>?_) fun h60=>?_
  ·have ae:0<c2:=by
    have:(0:Int)<(c2:Int):=by simpa using h60
    omega
   have aq:m=i+b.length:=by
    rcases P4 m (i+b.length+1) with h | h
    ·omega
    have:=ao om_;omega
   have S:=ap aq;have af:e[m]?=some (g9 e m):=wx om_;refine Tc 3 Z fun R d=>TE (m*1) U10 aj U2<|TZ ag U6 (fun _=>(by rw [eA eD af];rfl)) U2<|D.int (((c2+g9 e m:Nat):Int)) U4 (by rw [IntKind.wrap_u64];omega) U2<|C6 1 [1,5,8,11,19,20,21] d Z<|Tc 3 Z fun R d=>TS (c2+g9 e m) (B9) U6 om_ U2<|TE (m*1) U10 aj U2<|TJ (j:=0) U11 (by show m*1+1<=_;rw [bP eD,O];omega)<|Th [1,5,8,11,19,20,21] d Z<|Tc 1 Z fun R d=>Up (c2+g9 e m) (B9) U6 om_ (.inr ⟨Z,by omega⟩) U2<|C6 1 [1,5,8,11,19,20,21] d Z<|Tc 1 Z fun R d=>Tm _ U7<|C6 1 [1,5,8,11,19,20,21] d Z ?_;have ar:(c2+g9 e m) % B9=c2:=by rw [S,Ru];exact Sn Q
   have au:(c2+g9 e m) / B9=0:=by rw [S,Ru];exact RS Q
   refine Tu (L':=[.arr (qU f N N) 285 1 N ((e.set m c2).map cM).flatten]) (by rw [ar,<- bK eD _ (by omega:m<e.length)];rfl) ?_;rw [au];refine Tp (m':=2-(m+1-(i+b.length))) om_ mup (hn_ [1,5,8,11,19,20,21] Z) ⟨m+1,e.set m c2,0,⟨by omega,by omega,by simp [O],ab.set Q,by decide,fun _=>rfl,fun h=>by omega,by
    have h1:=sZ (z:=c2) af;rw [S] at h1;omega,fun j r=>by rw [pK om_];exact ad j r⟩,rfl,rfl,rfl⟩
  have ae:c2=0:=by
   have:¬ (0:Int)<(c2:Int):=by simpa using h60
   omega
  refine Tf fun R d=>Tm _ U7<|C6 1 [1,5,19,20,21] d Z<|Tp (m':=a.length-(i+1)) om_ mup (hn_ [1,5,19,20,21] Z) ⟨i+1,e,⟨by omega,O,ab,by
   rw [ae,Nat.mul_zero,Ru] at ac;rw [mh,Re,<- X,RN];exact ac,fun j r=>ad j om_⟩,Z,Z,Z⟩
 have E:i=a.length:=by
  have:¬ i<a.length:=by simpa using B
  omega
 refine TC [(1,3)] Z fun R d=>Te U6<|D.call (gm _ _ o V) Z (.inr dc_) U6 (PC _) fl_ (fun aI _ aJ _ av=>?_);obtain ⟨rfl,hu⟩:=av;refine C6 1 [4] d Z<|Tl U2<|⟨Z,DC o,ij W, ?_,hu⟩;rw [ii,X,E,PO]
theorem sD (h:xw l)(a:bu l<B9 ^ m):l.length<=m:=by
 rcases P4 m l.length with h1 | h1
 ·have h2:=uF h om_;have h3:B9 ^ m<=B9 ^ (l.length-1):=PZ dc_ om_;omega
 exact h1
theorem NineC.get (h:NineC C v n)(a:n<B9 ^ m):∃ l,xw l/\bu l=n/\l.length<=m/\Sl C 1 v (l.map cM):=by
 obtain ⟨l,h1,h2,h3⟩:=h;exact ⟨l,h1,h2,sD h1 (by rw [h2];exact a),h3⟩
theorem NineC.zero (C:Mem):NineC C (.slice none 0 0) 0:=⟨[],⟨(fun x a=>(by cases a)),by simp⟩,rfl,Sl.nil C 1⟩
theorem NineC.form (h:NineC C v n):∃ A m c,v=.slice A m c:=by
 obtain ⟨l,_,_,A,c,h,_⟩:=h;exact ⟨A,_,c,h⟩
theorem dH (h:m<B9 ^ n)(a:n<=k):m<B9 ^ k:=QK h (PZ dc_ a)
theorem ph (C:Mem)(c:NineC C u m)(d:NineC C v n):Gives cx.P 221 [u,v] C (.int .i64 (jA m n)):=by
 obtain ⟨a,h1,h2,h3⟩:=c;obtain ⟨b,h4,h5,e⟩:=d;rw [<- h2,<- h5];exact E5 C u v a b h3 e h1 h4
theorem Kl (C:Mem)(c:NineC C u m)(d:NineC C v n)(e:m<B9 ^ k)(f:n<B9 ^ k)(i:k<=1000000):Pur cx.P 220 [u,v] C fun w D=>NineC D w (m+n):=by
 obtain ⟨a,h1,h2,h3,h4⟩:=c.get e;obtain ⟨b,h5,g,j,h⟩:=d.get f;rw [<- h2,<- g];exact LU C u v a b h4 h h1.1 h5.1 om_ om_
theorem tS (C:Mem)(c:NineC C u m)(d:NineC C v n)(e:m<B9 ^ k)(i:n<=m)(j:k<=1000000):Pur cx.P 222 [u,v] C fun w D=>NineC D w (m-n):=by
 obtain ⟨a,h1,h2,h3,h4⟩:=c.get e;obtain ⟨b,h5,f,g⟩:=d;rw [<- h2,<- f];refine IL C u v a b h4 g h1.1 h5.1 om_ ?_ om_;rcases P4 a.length b.length with h | h
 ·have:=tW h1.1 h5 h;omega
 exact h
theorem D1 (C:Mem)(c:NineC C u m)(d:NineC C v n)(e:m<B9 ^ k)(f:n<B9 ^ k)(i:k<=1000000):Pur cx.P 190 [u,v] C fun w D=>NineC D w (m*n):=by
 obtain ⟨a,h1,h2,h3,h4⟩:=c.get e;obtain ⟨b,h5,g,j,h⟩:=d.get f;rw [<- h2,<- g];exact HD C u v a b h4 h h1.1 h5.1 om_ om_
theorem vi (C:Mem)(a:Dig9 l)(b:Sl C 1 u (l.map cM)):Pur cx.P 252 [u] C fun w D=>NineC D w (bu l) :=
 (zE C u l b).mono fun _c _d _e _ ⟨h1,h2⟩=>⟨h1,DC l,ij a,ii l,h2⟩
theorem xL (C:Mem){d:Nat}(a:NineC C u m)(f:m<B9 ^ k)(g:d<B9)(p:k<=999999):Pur cx.P 279 [u,.int .u64 d] C fun w D=>NineC D w (m*d):=by
 obtain ⟨A,n,c,rfl⟩:=a.form;refine Tk func279 10 U3 fun w0=>Tb 1 [0,1] Z<|Tc 2 Z fun R h=>Tz [cM d] U12 fun q _ _ i=>TG (vi _ (l:=[d]) (fun x j=>by rw [PU.1 j];exact g) i) U7 fl_ fun r _ _ o=>TG (D1 (k:=k+1) _ a.m_ o (dH f om_) (by show d+B9*0<_;rw [QL];have:0<B9 ^ k:=RU dc_;have h2:=Qp B9 this;omega) om_) U7 fl_ fun s _ _ b=>C6 1 [4] h Z<|Tl U2<|⟨Z, ?_⟩;have e:bu [d]=d:=by show d+B9*0=d;omega
 rw [e] at b;exact b
open Go Go.Jog Go.RowKit Go.Shelf
attribute [local go_sem] Oper.semAt_some
set_option maxRecDepth 100000 in
theorem JI (l Bs b off len cap:Nat)(zs:Nat->Int)(hlen:len<1000000)(J:Nat->World->Prop)
  (hJ:∀ k W,J k W->W.cell? ⟨Bs,0,none⟩=some (.slice (some ⟨b,off,none⟩) len cap)/\∀ j,j<len->W.cell? ⟨b,off+j,none⟩=some (.int .u64 (zs j)))
  (hY:∀ k W,J k W->k<len->YieldAt Fence.wide 1 Tryz.prog l #[.int .i64 ((len-1-k:Nat):Int),.int .u64 (zs (len-1-k))] W fun e W'=>e=.returned (.bool true)/\J (k+1) W')
  (W:World) (h0:J 0 W) :
  CallsIn Fence.wide 2 Tryz.prog 297 #[.func (.yield l) #[] #[],.pointer (some ⟨Bs,0,none⟩)] W fun e W'=>(∃ v,e=.returned v)/\J len W':=by
 refine callsIn_of_wp func297 Z trivial ?_ Z;simp only [Tryz.ntmps297,Rv,PR,P6,Nat.reduceAdd,Nat.reduceSub,SU,SV,List.push_toArray,List.append_toArray,Rw,Rh];have hBs:=(hJ 0 W h0).1
 gi_wp2
 gi_loopw [3] (fun i wr=>∃ k:Nat,k<=len/\i=.int .i64 ((len:Int)-1-k)/\J k wr) (fun i _=>(intOf i+1).toNat)
 case atStart=>exact ⟨0,PG _,by simp,h0⟩
 case round =>
  obtain ⟨k,hk,rfl,hJs⟩:=hrel;obtain ⟨hB2,hcx⟩:=hJ k wr hJs;by_cases hlt:k<len
  ·obtain ⟨fn,tmps,assign,body,hy,hR⟩:=hY k wr hJs hlt;have hcx':=hcx (len-1-k) om_;have e1:((len-1-k:Nat):Int)=(len:Int)-1-k:=by omega
   rw [e1] at hy
   gi_wp2
   refine hR.mono ?_;rintro e W3 ⟨rfl,hJ3⟩
   gi_wp2
   go_roundw
   case rel=>exact ⟨k+1,by omega,by congr 1;omega,hJ3⟩
   case measure=>simp [intOf];omega
  obtain rfl:k=len:=by omega
  gi_wp2
  go_end0
  exact ⟨⟨_,Z⟩,hJs⟩
set_option maxRecDepth 100000 in
theorem xj (l Bs:Nat)(A:Option Addr)(cap:Nat)(J:Nat->World->Prop)(W:World)(hBs:W.cell? ⟨Bs,0,none⟩=some (.slice A 0 cap))(h0:J 0 W) :
  CallsIn Fence.wide 2 Tryz.prog 297 #[.func (.yield l) #[] #[],.pointer (some ⟨Bs,0,none⟩)] W fun e W'=>(∃ v,e=.returned v)/\J 0 W':=by
 refine callsIn_of_wp func297 Z trivial ?_ Z;simp only [Tryz.ntmps297,Rv,PR,P6,Nat.reduceAdd,Nat.reduceSub,SU,SV,List.push_toArray,List.append_toArray,Rw,Rh]
 gi_wp2
 gi_loopw [3] (fun i wr=>i=.int .i64 (-1)/\J 0 wr) (fun _ _=>0)
 case atStart=>exact ⟨rfl,h0⟩
 case round =>
  obtain ⟨rfl,hJs⟩:=hrel
  gi_wp2
  go_end0
  exact ⟨⟨_,Z⟩,hJs⟩
def G8 (xs:List Nat):List (Value × Value):=(List.range xs.length).map fun k=>(.int .i64 ((xs.length-1-k:Nat):Int),.int .u64 ((xs.getD (xs.length-1-k) 0:Nat):Int))
theorem fL (a:List Nat):(G8 a).length=a.length:=by simp [G8]
theorem uI {a:List Nat}(h:k<a.length):(G8 a)[k]?=some (.int .i64 ((a.length-1-k:Nat):Int),.int .u64 ((a.getD (a.length-1-k) 0:Nat):Int)):=by
 simp [G8,h]
theorem sG (C:Mem)(b t:Nat)(v:Value)(a:List Nat)(q:C b=some (.cells ⟨[v]⟩ t (0,0)))(r:Sl C 1 v (a.map fun n:Nat=>[Value.int .u64 (n:Int)]))(s:a.length<1000000) :
  OO Tryz.prog 297 #[.pointer (some ⟨b,0,none⟩)] C (G8 a):=by
 intro l J W e D u h0;obtain ⟨A,d,rfl,E,_,_,f⟩:=r;rw [am] at *;have g:∀ {W:World}{k:Nat},J k W->W.cell? ⟨b,0,none⟩=some (.slice A a.length d):=fun {W k} c=>by
  simp [World.cell?,e k W c b _ q]
 rw [fL];rcases Qz a.length with h | h
 ·have h1:=g h0;rw [h] at h1 ⊢;exact xj l b A d J W h1 h0
 obtain ⟨w,rfl,i,_⟩:=f 0 _ (al (by simpa using h));obtain ⟨m,x,F⟩:=w;simp only at i;subst i;refine JI l b m x a.length d (fun j=>((a.getD j 0:Nat):Int)) s J (fun k W c=>⟨g c,fun j y=>?_⟩) (fun k W c z=>u k _ W c (uI z)) W h0;have h3:(a.map fun n:Nat=>[Value.int .u64 (n:Int)])[j]?=some [Value.int .u64 ((a.getD j 0:Nat):Int)]:=by
  simp [y]
 obtain ⟨a2,h4,_,h5⟩:=f j _ h3;cases h4
 have o:=h5 0 _ rfl;rw [Addr.add_lit] at o;obtain ⟨_,blk,G,fz,p,B⟩:=o;simp only at p;simp only [World.cell?,e k W c m _ p];simpa using B
theorem BA (C:Mem)(A:Option Addr)(n c:Nat):Pur cx.P 254 [.slice A n c] C fun r a=>∃ b,r=.func (.func 297) #[] #[.pointer (some ⟨b,0,none⟩)]/\a b=some (.cells ⟨[.slice A n c]⟩ 271 (0,0)):=by
 exact Tk func254 4 U3 fun w0=>Tf fun R d=>Tv U6 fun b1=>C6 1 [1] d Z<|Tb 2 [2] Z<|G.freeze 0 Z fun f g e=>Tl U2<|⟨Z,_,Z,e⟩
abbrev qW (b n c:Nat):Value:=.slice (some ⟨b,0,none⟩) n c
theorem CJ (C:Mem)(s:Str)(c:UInt8):Gives cx.P 232 [ah s,.int .u8 c.toNat] C (.int .i64 (Lib.indexByte s c)):=by
 have h:=Gives.ofCalls (f:=232) (args:=[ah s,.int .u8 c.toNat]) (P:=cx.P) kr_ (fun w=>Any.stringslite_IndexByte Tryz.idxByte ⟨s.toArray⟩ (c.toNat:Int) w) C;simpa using h
theorem FS (C:Mem)(s:Str)(c:UInt8):Gives cx.P 275 [ah s,ah [c]] C (.int .i64 (Lib.indexByte s c)):=by
 refine Tk func275 143 U3 fun w0=>Tb 1 [0,1] Z<|Tb 3 [0,1,5] Z<|Tc 6 Z fun R a=>TN U8<|C6 1 [0,1,5,16] a Z<|G.cd (fun b=>?_) fun b=>?_
 ·refine Tb 1 [4] Z<|Tl U2<|⟨?_,Z⟩;have h:([c]:Str)=s:=by simpa using b
  subst h;simp [Lib.indexByte]
 refine Tb 3 [0,1,5,24] Z<|G.cd (fun d=>?_) fun d=>?_
 ·exact Tc 2 Z fun R a=>Ue U8 (fun _=>⟨by omega,(rfl:([c]:Str)[(0:Int).toNat]?=some c)⟩) U2<|To (CJ _ s c) U7<|C6 1 [4] a Z<|Tl U2<|⟨Z,Z⟩
 exact absurd d ap
theorem MJ (C:Mem)(s:Str)(c:UInt8)(g:s.length<1000000):Gives cx.P 223 [ah s,ah [c]] C (.tuple #[ah (jK c s).1,ah ((jK c s).2.getD []),.bool (jK c s).2.isSome]):=by
 refine Tk func223 23 U3 fun w0=>Tb 3 [0,1] Z<|Tc 2 Z fun R b=>To (FS _ s c) U7<|C6 1 [0,1,7] b Z<|Tb 2 [0,1,7,12] Z<|G.cd (fun d=>?_) fun d=>?_
 ·have h0:0<=Lib.indexByte s c:=by simpa using d
  obtain ⟨a,post,h1,h2,h3⟩:=Jt h0;have h:s.length=a.length+1+post.length:=by rw [h2];simp;omega
  rw [h1,h3];refine Tx [0,1,2,3,4,5,6,7,8,9,10,11] [] Z kr_ fun R i b=>Tg 2 Z<|Uj 0 a.length U9 (fun _=>⟨.inl ⟨Z,Z⟩,.inr ⟨_,Z⟩,.inl ⟨Z,Z⟩,by omega,by omega,Py _⟩) U2<|Tg 4 Z<|TL (((a.length+1:Nat):Int)) U4 ap om_ om_ U2<|Uj (a.length+1) s.length U9 (fun _=>⟨.inr ⟨_,Z⟩,.inl ⟨Z,Z⟩,.inl ⟨Z,Z⟩,by omega,Py _,Py _⟩) U2<|C6 3 [4,5,6] b Z<|Tn (G.dropAll (Ug U4 ?_));refine ⟨?_,Z⟩;have e:(s.take a.length).drop 0=a:=by rw [h2];simp
  have f:(s.take s.length).drop (a.length+1)=post:=by rw [PO,h2];simp
  rw [e,f];rfl
 have h0:¬ 0<=Lib.indexByte s c:=by simpa using d
 rw [GD h0];refine Tb 4 [4,5,6] Z<|Tn (G.dropAll (Ug U4 ?_));exact ⟨Z,Z⟩
theorem KK (C:Mem)(s:Str)(c:UInt8)(a:s.length<1000000):Gives cx.P 159 [ah s,ah [c]] C (.tuple #[ah (jK c s).1,ah ((jK c s).2.getD []),.bool (jK c s).2.isSome]):=by
 refine Tk func159 13 U3 fun w0=>Tb 3 [0,1] Z<|Tc 2 Z fun R b=>To (MJ _ s c a) U7<|C6 6 [4,5,6] b Z<|Tn (G.dropAll (Ug U4 ?_));exact ⟨Z,Z⟩
theorem yw (C:Mem)(s:Str)(c:UInt8):Gives cx.P 294 [ah s,ah [c]] C (.bool (cI c s).2):=by
 refine Tk func294 18 U3 fun w0=>Tb 1 [0,1] Z<|Tc 9 Z fun R d=>Uj 0 1 U9 (fun e=>⟨.inl ⟨Z,Z⟩,.inr ⟨_,Z⟩,.inl ⟨Z,Z⟩,by omega,(by have h:decide ((1:Int)<=(s.length:Int))=true:=e.1;simp at h;omega),Py _⟩) U2<|Tg 2 Z<|TB U8<|C6 1 [4] d Z<|Tl U2<|⟨?_,Z⟩;cases s with
 | nil=>rfl
 | cons b s =>
  have h1:decide ((1:Int)<=((b::s).length:Nat))=true:=by simp;omega
  unfold cI;by_cases a:b=c
  ·subst a;simp;omega
  simp [a]
theorem Js (C:Mem)(s:Str)(c:UInt8):Gives cx.P 276 [ah s,ah [c]] C (.tuple #[ah (cI c s).1,.bool (cI c s).2]):=by
 refine Tk func276 15 U3 fun w0=>Tb 2 [0,1] Z<|Tc 2 Z fun R d=>To (yw _ s c) U7<|C6 1 [0,1,9] d Z<|G.cd (fun a=>?_) fun a=>?_
 ·have h:¬ s.head?=some c:=fun h=>by unfold cI at a;rw [aL h] at a;cases a
  refine Tb 3 [4,5] Z<|Tn (G.dropAll (TD U3 ?_));unfold cI;rw [aF h];exact ⟨Z,Z⟩
 have h:s.head?=some c:=P1 fun h=>by unfold cI at a;rw [aF h] at a;cases a
 have e:1<=s.length:=by cases s with
  | nil=>cases h
  | cons b s=>simp
 refine Tc 3 Z fun R d=>Uj 1 s.length U9 (fun _=>⟨.inr ⟨_,Z⟩,.inl ⟨Z,Z⟩,.inl ⟨Z,Z⟩,by omega,Py _,Py _⟩) U2<|C6 2 [4,5] d Z<|Tn (G.dropAll (TD U3 ?_));unfold cI;rw [aL h];refine ⟨?_,Z⟩;rw [PO,List.drop_one];rfl
theorem GC (C:Mem)(s:Str)(c:UInt8):Gives cx.P 224 [ah s,ah [c]] C (.tuple #[ah (cI c s).1,.bool (cI c s).2]):=by
 refine Tk func224 11 U3 fun w0=>Tb 2 [0,1] Z<|Tc 2 Z fun R a=>To (Js _ s c) U7<|C6 4 [4,5] a Z<|Tn (G.dropAll (TD U3 ?_));exact ⟨Z,Z⟩
structure Tabs (C:Mem):Prop where
 pow : VarC cx.P C "internal/strconv.uint64pow10" (Lib.pow10Tab.map fun z => Value.int .u64 z).toArray
 db : VarC cx.P C "math/bits.deBruijn64tab" (Lib.deBruijn64tab.map fun z : Nat => Value.int .u8 (z : Int)).toArray
theorem Tabs.mono {C D:Mem}(h:Tabs C)(a:C.le D):Tabs D:=⟨h.pow.mono a,h.db.mono a⟩
theorem Tabs.m_ {D:Mem}(h:Tabs C)(a:C.le D:=by exact mup):Tabs D:=Tabs.mono h a
theorem Kx (C:Mem)(a:Tabs C)(n:Int)(b:-9223372036854775808<=n)(c:n<=9223372036854775807):Gives cx.P 169 [.int .i64 n] C (ah (Lib.itoa n)) :=
 Ml Tryz.itoa n b c C a.pow kr_
structure FV where
 b:Bool
 A:Option Addr
 n:Nat
 c:Nat
 A2:Option Addr
 n2:Nat
 c2:Nat
theorem split_fn (C:Mem)(s:Str):Gives cx.P 172 [ah s] C (.tuple #[.bool (cI 45 s).2,ah (cI 45 s).1]):=by
 refine Tk func172 17 U3 fun w0=>Tb 2 [0] Z<|Tb 2 [4] Z<|Tc 5 Z fun R c=>Ue (b:=s.headD 0) U8 (fun d=>⟨by omega,(by
  cases s with
  | nil=>exact Bool.noConfusion (show false=true from d.1)
  | cons b s=>rfl)⟩) U2 ?_
 refine Te U6<|TB U8<|Th [4,13] c Z<|G.cd (fun a=>?_) fun a=>?_
 ·have hh:s.head?=some 45:=by
   cases s with
   | nil=>cases a
   | cons b s =>
    have h1:b=45:=by
     refine SN.1 ?_;show b.toNat=45;simp at a;omega
    rw [h1];rfl
  have e:1<=s.length:=by cases s with
   | nil=>cases hh
   | cons b s=>simp
  refine Tx [0,1,2,3] [] Z kr_ fun R f c=>Te U6<|Uj 1 s.length U9 (fun _=>⟨.inr ⟨_,Z⟩,.inl ⟨Z,Z⟩,.inl ⟨Z,Z⟩,by omega,Py _,Py _⟩) U2<|C6 2 [2,3] c Z<|Tn (G.dropAll (TD U3 ?_));unfold cI;rw [aL hh];refine ⟨?_,Z⟩;rw [PO,List.drop_one];rfl
 have hh:¬ s.head?=some 45:=by
  cases s with
  | nil=>simp
  | cons b s =>
   intro h;have h1:b=45:=by simpa using h
   subst h1;simp at a
 refine Tb 3 [2,3] Z<|Tn (G.dropAll (TD U3 ?_));unfold cI;rw [aF hh];exact ⟨Z,Z⟩
def xf (s:Str):Bool:=(cI 45 s).1.all eO && !((cI 45 s).1 == []) && !((cI 45 s).1.head? == some 48 && ((cI 45 s).2 || decide (1<(cI 45 s).1.length)))
def cE (s:Str):Bool:=xf s && decide ((cI 45 s).1.length<=200)
theorem Bj (C:Mem)(v:Value)(l:List Nat)(d:Sl C 1 v (l.map aS)):Pur cx.P 233 [v] C fun u f=>Sl f 1 u ((wP l).map aS):=by
 obtain ⟨p,c0,rfl,q,_⟩:=id d;simp only [am] at d q ⊢;refine Tk func233 21 U3 fun w0=>Tb 1 [0] Z<|G.loop (fun fr f r s=>∃ (k:Nat)(A:Option Addr)(c:Nat),(k<=l.length/\Sl f 1 (.slice A k c) ((l.take k).map aS)/\Db l l.length=Db l k)/\fr=[(0,[],.slice A k c)]/\r=[]/\s=k+1) (hn_ [0] Z) ⟨l.length,p,c0,⟨Py _,by rw [PO];exact d,Z⟩,Z,Z,Z⟩ (fun fr F H m _ t=>?_);obtain ⟨k,A,c,⟨I,hs,i⟩,rfl,rfl,rfl⟩:=t;obtain ⟨_,J,w,x,_⟩:=id hs;have K:maxLen<=9223372036854775807:=by simp [maxLen]
 have L:k<=c:=by
  rw [am,PM] at x;injection w with h1 h2 h3;omega
 have y:0<k->((l.take k).map aS)[((k:Int)-1).toNat]?=some (aS (gP l (k-1))):=fun h=>by
  rw [show ((k:Int)-1).toNat=k-1 by omega,PD,Qm,aL om_,al (by omega:k-1<l.length)];unfold gP;rw [ay,al (by omega:k-1<l.length)];rfl
 refine Tc 7 Z fun R g=>Tm _ U7<|D.index U10 (fun n=>⟨hs,(by have h:decide ((0:Int)<(k:Int))=true:=n.1;simp at h;omega),y (by have h:decide ((0:Int)<(k:Int))=true:=n.1;simp at h;omega)⟩) fl_ Z fun M z=>TF U6 z U3<|Te U6<|TB U8<|Th [0,14] g Z<|G.cd (fun b=>?_) fun b=>?_
 ·have a:0<k/\gP l (k-1)=0:=by
   have:(0:Int)<(k:Int)/\((gP l (k-1):Nat):Int)=0:=by simpa using b
   omega
  refine Tc 3 Z fun R g=>TL (((k-1:Nat):Int)) U4 om_ om_ om_ U2<|Ud 0 (k-1) c U12 (fun _=>⟨.inl ⟨Z,Z⟩,.inr ⟨_,Z⟩,.inl ⟨Z,Z⟩,by omega,by omega,Py _⟩) U2<|C6 1 [0] g Z ?_;have o:=Sl.sub hs (l:=0) (h:=k-1) (m:=c) (PG _) aq om_ (Py _);have B:(((l.take k).map aS).take (k-1)).drop 0=(l.take (k-1)).map aS:=by
   rw [QO,<- RP,Sy,QD om_]
  rw [B] at o;have E:Db l l.length=Db l (k-1):=by
   rw [i];obtain ⟨j,rfl⟩:∃ j,k=j+1:=⟨k-1,by omega⟩;simp only [RG] at a ⊢;rw [Db,aL];unfold gP at a;rw [ay,al om_] at a;rw [al om_];exact congrArg some a.2
  refine Tp (m':=k-1+1) om_ mup (hn_ [0] Z) ⟨k-1,_,c,⟨by omega,o.mono mup,E⟩,Z,Z,Z⟩
 have a:¬ (0<k/\gP l (k-1)=0):=fun hh=>by
  have h1:(decide ((0:Int)<(k:Int)) && (((gP l (k-1):Nat):Int) == 0))=true:=by
   rw [hh.2];simp;omega
  rw [h1] at b;cases b
 refine Tb 2 [2] Z<|Tl U2<|⟨Z, ?_⟩;have e:Db l k=k:=by
  cases k with
  | zero=>rfl
  | succ j =>
   simp only [RG] at a;rw [Db,aF];intro h;refine a ⟨by omega, ?_⟩;unfold gP;rw [ay,h];rfl
 unfold wP;rw [i,e];exact hs
theorem uu (C:Mem)(v:Value)(l:List Nat)(b:l.length=n):Jog.Fn cx.P 233 [v] C [.arr v 3 1 n (l.map aS).flatten] fun u a c=>c=[]/\Sl a 1 u ((wP l).map aS) :=
 Jog.Fn.give (l.map aS) kr_ (by intro r hr;obtain ⟨y,_,rfl⟩:=PF.1 hr;rfl) (by rw [am,b]) (fun a _ hs=>Bj a v l hs)
def PieC (C:Mem)(v:Value)(n:Nat):Prop:=∃ l,BL l/\bJ l=n/\Sl C 1 v (l.map aS)
theorem Iw (C:Mem)(s t:Value)(a b:List Nat)(d:Sl C 1 s (a.map aS))(f:Sl C 1 t (b.map aS))(n:BL a)(o:BL b):Gives cx.P 176 [s,t] C (.bool (decide (bJ a<bJ b))):=by
 have Q:maxLen<=9223372036854775807:=by simp [maxLen]
 obtain ⟨A,c0,rfl,B,S,_⟩:=id d;obtain ⟨D,E,rfl,F,T,_⟩:=id f;simp only [am] at d f B F ⊢;refine Tk func176 41 U3 fun w0=>Tb 1 [0,1] Z<|Tb 5 [0,1,10] Z<|G.cd (fun g=>?_) fun g=>?_
 ·have U:a.length≠b.length:=fun e=>by
   rw [e] at g;simp at g
  refine Tb 6 [4] Z<|Tl U2<|⟨?_,Z⟩;congr 1;rw [Qo];rcases P4 a.length b.length with h | h
  ·have:=FH n.1 o h;constructor
   ·intro _;exact this
   intro _;omega
  have:=FH o.1 n om_;constructor <;> intro _ <;> omega
 have p:a.length=b.length:=by
  have:(a.length:Int)=b.length:=by simpa using g
  omega
 refine Tc 2 Z fun R c=>Tm _ U7<|C6 1 [0,1,5] c Z<|G.loop (fun fr V H I=>∃ (k:Nat),(k<=a.length/\a.drop k=b.drop k)/\fr=[(0,[],.slice A a.length c0),(1,[],.slice D b.length E),(5,[],.int .i64 ((k:Int)-1))]/\H=[]/\I=k+1) (hn_ [0,1,5] Z) ⟨a.length,⟨Py _,by rw [QA,p,QA]⟩,Z,Z,Z⟩ (fun fr W X m _ J=>?_);obtain ⟨k,⟨Y,i⟩,rfl,rfl,rfl⟩:=J;refine Tb 2 [0,1,5,20] Z<|G.cd (fun q=>?_) fun q=>?_
 ·have u:0<k:=by
   have:(0:Int)<=(k:Int)-1:=by simpa using q
   omega
  obtain ⟨j,rfl⟩:∃ j,k=j+1:=⟨k-1,by omega⟩;obtain ⟨x,l⟩:∃ x,a[j]?=some x:=⟨a[j],al om_⟩;obtain ⟨y,hy⟩:∃ y,b[j]?=some y:=⟨b[j],al om_⟩;have v:(a.map aS)[(((j+1:Nat):Int)-1).toNat]?=some (aS x):=by
   rw [show (((j+1:Nat):Int)-1).toNat=j by omega,PD,l];rfl
  have w:(b.map aS)[(((j+1:Nat):Int)-1).toNat]?=some (aS y):=by
   rw [show (((j+1:Nat):Int)-1).toNat=j by omega,PD,hy];rfl
  refine Tx [0,1,2,3,4,5,6,7,8] [] Z kr_ fun R K c=>Tg 2 Z<|Tt d.m_ U10 om_ v fl_ fun aa L=>Td L U8<|Tg 2 Z<|Tt f.m_ U10 om_ w fl_ fun ab M=>Td M U8<|C6 1 [0,1,5,31] c Z<|G.cd (fun r=>?_) fun r=>?_
  ·have z:x≠y:=fun e=>by
    subst e;simp at r
   refine Tx [0,1,2,3,4,5,6,7,8,9] [] Z kr_ fun R K c=>Tg 2 Z<|Tt d.m_ U10 om_ v fl_ fun ac N=>Td N U8<|Tg 2 Z<|Tt f.m_ U10 om_ w fl_ fun ad O=>Td O U8<|C6 2 [4] c Z<|Tl U2<|⟨?_,Z⟩;congr 1;rw [Qo];rcases P4 x y with h | h
   ·have:=KN n.1 p l hy h i;constructor
    ·intro _;exact this
    intro _;omega
   have:=KN o.1 p.symm hy l om_ i.symm;constructor <;> intro _ <;> omega
  have z:x=y:=by
   have:(x:Int)=y:=by simpa using r
   omega
  refine Tc 1 Z fun R c=>Tm _ U7<|C6 1 [0,1,5] c Z ?_;rw [show ((j+1:Nat):Int)-1-1=(j:Int)-1 by omega];refine Tp (m':=j+1) om_ mup (hn_ [0,1,5] Z) ⟨j,⟨by omega,by
   rw [PW (by omega:j<a.length),PW (by omega:j<b.length),i,(aJ.1 l).2,(aJ.1 hy).2,z]⟩,rfl,rfl,rfl⟩
 have u:k=0:=by
  have:¬ (0:Int)<=(k:Int)-1:=by simpa using q
  omega
 subst u;refine Tb 1 [4] Z<|Tl U2<|⟨?_,Z⟩;have:a=b:=by simpa using i
 subst this;simp
theorem GA {s:Str}{a:Nat}{c:UInt8}(d:a<=i)(b:s[i]?=some c):bU (gC s a (i+1))=10*bU (gC s a i)+(c.toNat-48):=by
 have f:=(aJ.1 b).1;have e:gC s a (i+1)=gC s a i++[c]:=by
  unfold gC;rw [P0,b,QM,R5,PM,QD om_,show a-i=0 by omega];rfl
 rw [e];unfold bU;rw [List.foldl_append];rfl
theorem Jq (s:Str)(a:Nat):gC s a a=[]:=by
 unfold gC;rw [List.drop_eq_nil_iff,PM];omega
theorem K8 (C:Mem)(s:Str)(g:∀ c∈s,eO c=true)(L:s.length<=100000):Pur cx.P 173 [ah s] C fun u D=>PieC D u (bU s):=by
 refine Tk func173 35 U3 fun w0=>Tb 1 [0] Z<|Tb 1 [0,3] Z<|Tb 3 [0,3,4] Z<|G.nilArr 3 1<|G.loop (fun fr B d k=>∃ (e j:Nat)(b:Int)(out:List Nat)(w:Value),((b=e/\e+4*j=s.length∨b<=0/\e=0)/\-4<=b/\b<=100000/\e<=s.length/\out.length=j/\j<=100000/\DigP out/\bJ out=bU (s.drop e))/\fr=[(0,[],ah s),(3,[],w),(4,[],.int .i64 b)]/\d=[.arr w 3 1 j (out.map aS).flatten]/\k=e+1) (hn_ [0,3,4] Z) ⟨s.length,0,(s.length:Int),[],_,⟨.inl ⟨Z,Z⟩,by omega,by omega,Py _,Z,by omega,(fun x E=>(by cases E)),by rw [QA];rfl⟩,Z,Z,Z⟩ (fun fr M N m _ l=>?_);obtain ⟨e,j,b,out,w,⟨q,O,Q,S,n,T,r,t⟩,rfl,rfl,rfl⟩:=l;refine Tb 2 [0,3,4,10] Z<|G.cd (fun f=>?_) fun f=>?_
 ·obtain ⟨rfl,F⟩:b=e/\e+4*j=s.length:=by
   have h0:0<b:=by simpa using f
   rcases q with h | h
   ·exact h
   omega
  have v:0<e:=by
   have h0:(0:Int)<(e:Int):=by simpa using f
   omega
  refine Tb 1 [0,3,4,5] Z<|Tc 1 Z fun R a=>Tm _ U7<|D.max (((e-4:Nat):Int)) U6 om_ U2<|C6 1 [0,3,4,5,6] a Z ?_;rw [show (Value.int .i64 0)=.int .i64 ((bU (gC s (e-4) (e-4)):Nat):Int) by rw [Jq];rfl];refine G.loop (fun fr B d k=>∃ (i:Nat),(e-4<=i/\i<=e)/\fr=[(0,[],ah s),(3,[],w),(4,[],.int .i64 (e:Int)),(5,[],.int .i64 (bU (gC s (e-4) i):Nat)),(6,[],.int .i64 i)]/\d=[.arr w 3 1 j (out.map aS).flatten]/\k=e-i) (hn_ [0,3,4,5,6] Z) ⟨e-4,⟨Py _,by omega⟩,Z,Z,Z⟩ (fun fr U V m _ l=>?_);obtain ⟨i,⟨H,W⟩,rfl,rfl,rfl⟩:=l;refine Tb 3 [0,3,4,5,6,18] Z<|G.cd (fun o=>?_) fun o=>?_
  ·have y:i<e:=by simpa using o
   obtain ⟨c,p⟩:∃ c,s[i]?=some c:=⟨s[i]'om_,al _⟩;have z:=g c (Px p);have X:48<=c.toNat/\c.toNat<=57:=by unfold eO at z;simpa using z
   have Y:bU (gC s (e-4) i)<10000:=GB g om_;refine Tc 1 Z fun R a=>TL (((10*bU (gC s (e-4) i):Nat):Int)) U4 om_ om_ om_ U2<|Tg 2 Z<|Ue U8 (fun _=>⟨by omega,p⟩) U2<|TR (c:=((c.toNat:Nat):Int)) U8 (by rw [IntKind.wrap_i64];omega) fl_<|TL (((10*bU (gC s (e-4) i)+c.toNat:Nat):Int)) U4 om_ om_ om_ U2<|TL (((10*bU (gC s (e-4) i)+(c.toNat-48):Nat):Int)) U4 om_ om_ om_ U2<|C6 1 [0,3,4,5,6] a Z<|Tc 1 Z fun R a=>Tm _ U7<|C6 1 [0,3,4,5,6] a Z ?_;rw [<- GA H p];refine Tp (m':=e-(i+1)) om_ mup (hn_ [0,3,4,5,6] Z) ⟨i+1,⟨by omega,by omega⟩,Z,Z,Z⟩
  have y:i=e:=by
   have:¬ i<e:=by simpa using o
   omega
  subst y;refine Tc 2 Z fun R a=>Tz [aS (bU (gC s (i-4) i))] U12 fun aa _ _ I=>D.append (j:=0) U11 I Z ax (by show (j+1)*8<=_;omega) fl_ fun A=>C6 1 [0,3,4] a Z<|Tc 1 Z fun R a=>Tm _ U7<|C6 1 [0,3,4] a Z<|Tu (L':=[.arr A 3 1 (j+1) ((out++[bU (gC s (i-4) i)]).map aS).flatten]) (by simp [aS])<|Tp (m':=i-4+1) om_ mup (hn_ [0,3,4] Z) ⟨i-4,j+1,(i:Int)-4,out++[bU (gC s (i-4) i)],A,⟨by
   rcases P4 i 4 with h | h
   ·exact .inr ⟨by omega,by omega⟩
   exact .inl ⟨by omega,by omega⟩,by omega,by omega,by omega,by simp [n],by omega,r.snoc (GB g om_),D2 F n om_ t⟩,Z,Z,Z⟩
 have v:e=0:=by
  have h0:¬ 0<b:=by simpa using f
  rcases q with h | h
  ·omega
  exact h.2
 refine TC [(1,3)] Z fun R a=>Te U6<|D.call (uu _ _ out n) Z (.inr dc_) U6 (PC _) fl_ (fun ab _ ac _ J=>?_);obtain ⟨rfl,K⟩:=J;refine C6 1 [2] a Z<|Tl U2<|⟨Z,wP out,lV r, ?_,K⟩;rw [ig,t,v,QO]
theorem FP (C:Mem)(a:Tabs C)(n:Nat)(h:n<=1000000000000000000):Gives cx.P 169 [.int .i64 n] C (ah (bk n)):=by
 have h1:=Kx C a (n:Int) om_ om_
 rwa [I1] at h1
theorem iZ (C:Mem)(a:Tabs C)(z:Int)(b:-9223372036854775808<=z)(c:z<=9223372036854775807):Gives cx.P 169 [.int .i64 z] C (ah (txt z)):=by
 have h:=Kx C a z b c
 rwa [I0] at h
theorem Mm (C:Mem)(a:Tabs C)(x:Nat)(b:x<10000):Gives cx.P 169 [.int .i64 (10000+x:Nat)] C (ah (49::mb 4 x)):=by
 have h:=FP C a (10000+x) om_
 rwa [tenK b] at h
theorem eE (h:n<10 ^ k)(a:0<k):(bk n).length<=k:=by
 apply P1;intro b;have h1:=oa (bA n).1 om_;rw [(bA n).2] at h1;have h2:10 ^ k<=10 ^ ((bk n).length-1):=PZ dc_ om_;omega
theorem ut (h:DigP l):(bk (bJ l)).length<=4*l.length+1:=by
 refine eE ?_ om_;have h1:=mg h;rw [<- Kj] at h1;have h2:10 ^ (4*l.length)<=10 ^ (4*l.length+1):=PZ dc_ om_;omega
theorem pJ (h:k<l.length):(l.map aS)[k]?=some (aS (gP l k))/\l[k]?=some (gP l k):=by
 have e:l[k]?=some (gP l k):=by
  unfold gP;rw [ay,al h];rfl
 exact ⟨by rw [PD,e];rfl,e⟩
theorem F3 (C:Mem)(f:Tabs C)(v:Value)(l:List Nat)(b:Sl C 1 v (l.map aS))(g:BL l)(N:l.length<=100000):Gives cx.P 234 [v] C (ah (bk (bJ l))):=by
 obtain ⟨s,c0,rfl,_⟩:=id b;simp only [am] at b ⊢;have c:=g.1;refine Tk func234 34 U3 fun w0=>Tb 1 [0] Z<|Tb 3 [0,8] Z<|G.cd (fun d=>?_) fun d=>?_
 ·have h0:l=[]:=by
   have:(l.length:Int)=0:=by simpa using d
   exact Ql om_
  refine Tb 1 [2] Z<|Tl U2<|⟨?_,Z⟩;rw [h0,show bk (bJ [])=[48] by rw [bk];rfl];rfl
 have h0:0<l.length:=by
  have:¬ (l.length:Int)=0:=by simpa using d
  omega
 have t:(l.map aS)[((l.length:Int)-1).toNat]?=some (aS (gP l (l.length-1))):=by rw [show ((l.length:Int)-1).toNat=l.length-1 by omega];exact (pJ om_).1
 have u:gP l (l.length-1)<10000:=F5 c _;have w:bJ (l.drop (l.length-1))=gP l (l.length-1):=by
  rw [PW om_,Sh om_];have h1:=(pJ (l:=l) (k:=l.length-1) om_).2;rw [(aJ.1 h1).2];simp [bJ]
 have x:0<gP l (l.length-1):=by
  have h1:=(pJ (l:=l) (k:=l.length-1) om_).2;have h2:=g.2;rw [RH,h1] at h2;rcases Qz (gP l (l.length-1)) with h | h
  ·rw [h] at h2;exact absurd rfl h2
  exact h
 refine Tc 3 Z fun R a=>Tm _ U7<|Tt b.m_ U10 om_ t fl_ fun O y=>Td y U8<|Ts (FP _ f.m_ (gP l (l.length-1)) om_) U7 fl_<|C6 1 [0,3] a Z<|Tc 2 Z fun R a=>Tm _ U7<|C6 1 [0,3,4] a Z ?_;rw [show (l.length:Int)-2=((l.length-1:Nat):Int)-1 by omega];refine G.loop (fun fr Q z A=>∃ (k:Nat)(o:Str),(k<l.length/\uU o/\bU o=bJ (l.drop k)/\0<bU o/\o.length<=25+4*(l.length-k))/\fr=[(0,[],.slice s l.length c0),(3,[],ah o),(4,[],.int .i64 ((k:Int)-1))]/\z=[]/\A=k+1) (hn_ [0,3,4] Z) ⟨l.length-1,bk (gP l (l.length-1)),⟨by omega,(bA _).1,by rw [(bA _).2,w],by rw [(bA _).2];exact x,by
  have h2:=eE (k:=4) (n:=gP l (l.length-1)) u om_;omega⟩,rfl,rfl,rfl⟩ (fun fr S T m _ B=>?_)
 obtain ⟨k,o,⟨U,i,p,D,V⟩,rfl,rfl,rfl⟩:=B;refine Tb 2 [0,3,4,20] Z<|G.cd (fun e=>?_) fun e=>?_
 ·have q:0<k:=by
   have:(0:Int)<=(k:Int)-1:=by simpa using e
   omega
  obtain ⟨j,rfl⟩:∃ j,k=j+1:=⟨k-1,by omega⟩;rw [show ((j+1:Nat):Int)-1=(j:Int) by omega];obtain ⟨E,F⟩:=pJ (l:=l) (k:=j) om_;have r:=F5 c j;have H:gP l j<10000:=r;have I:=(kw 4 (gP l j) r).1;refine Tc 2 Z fun R a=>Tt b.m_ U10 om_ E fl_ fun W J=>Td J U8<|TL (((10000+gP l j:Nat):Int)) U4 om_ om_ om_ U2<|To (Mm _ f.m_ _ H) U7<|C6 1 [0,3,4,5] a Z<|Tc 2 Z fun R a=>Uj 1 (49::mb 4 (gP l j)).length U9 (fun _=>⟨.inr ⟨_,Z⟩,.inl ⟨Z,Z⟩,.inl ⟨Z,Z⟩,by simp,Py _,Py _⟩) U2<|Uh U6 (fun _=>(by simp only [RB,PM,PR];omega)) U2<|C6 1 [0,3,4] a Z<|Tc 1 Z fun R a=>Tm _ U7<|C6 1 [0,3,4] a Z ?_;rw [PO,List.drop_one,List.tail_cons];obtain ⟨K,L,M⟩:=F2 c F i p D;refine Tp (m':=j+1) om_ mup (hn_ [0,3,4] Z) ⟨j,o++mb 4 (gP l j),⟨by omega,K,L,M,by rw [PH,I];omega⟩,Z,Z,Z⟩
 have q:k=0:=by
  have:¬ (0:Int)<=(k:Int)-1:=by simpa using e
  omega
 subst q;refine Tb 2 [2] Z<|Tl U2<|⟨?_,Z⟩;rw [oc i,p,QO]
def sgZ (m:Bool)(n:Nat):Int:=if m then -(n:Int) else n
theorem zC (m:Bool)(n:Nat)(h:m=true->0<n):txt (sgZ m n)=if m then 45::bk n else bk n:=by
 unfold txt sgZ;cases m with
 | false=>simp
 | true=>have:=h rfl;simp;omega
theorem Fu (C:Mem)(e:Tabs C)(m:Bool)(v:Value)(l:List Nat)(i:Sl C 1 v (l.map aS))(j:DigP l)(k:l.length<=100000):Gives cx.P 174 [.bool m,v] C (ah (txt (sgZ m (bJ l)))):=by
 have c:=lV j;have f:(wP l).length<=100000:=by unfold wP;rw [PM];omega
 have g:(wP l).length=0 ↔ bJ l=0:=by rw [<- ig,Bv c,SA]
 refine Tk func174 18 U3 fun w0=>Tb 1 [0,1] Z<|Tc 1 Z fun R a=>TM (Bj _ _ l i) U7 (fun n _ _ d=>?_);obtain ⟨o,p,rfl,_⟩:=id d;rw [am] at d;rw [am];refine C6 1 [0,1] a Z<|Tc 5 Z fun R a=>TB U8<|Th [1,12] a Z<|G.cd (fun b=>?_) fun b=>?_
 ·have hm:m=true/\0<bJ l:=by
   simp at b;refine ⟨b.1, ?_⟩;have h2:=b.2;rcases Qz (bJ l) with h | h
   ·have:=g.2 h;omega
   exact h
  refine Tc 1 Z fun R a=>To (F3 _ e.m_ _ (wP l) d.m_ c f) U7<|Uh U6 (fun _=>(by have:=ut c.1;simp only [PR,P6];omega)) U2<|C6 1 [4] a Z<|Tl U2<|⟨?_,Z⟩;rw [zC m _ (fun _=>hm.2),aL hm.1,ig];rfl
 have hm:m=true->bJ l=0:=fun h=>by
  rcases Qz (wP l).length with h0 | h0
  ·exact g.1 h0
  exfalso;have h1:decide ((0:Int)<((wP l).length:Nat))=true:=PV om_;rw [h,h1] at b;cases b
 refine Tc 1 Z fun R a=>To (F3 _ e.m_ _ (wP l) d.m_ c f) U7<|C6 1 [4] a Z<|Tl U2<|⟨?_,Z⟩;rw [ig];congr 1;cases m with
 | false=>rw [zC false _ (fun h=>by cases h)];rfl
 | true=>rw [hm rfl];rfl
end Go.Proofs.YtfjcldheldflbaaGreatDoor
