/- Laws that the proofs of this seat share, part 5. -/
import Derived.Test.YtfjcldheldflbaaGreatDoorG4
import Derived.Test.YtfjcldheldflbaaGreatDoorShelf
import Derived.Shelf.SlSortCmp.NoneTotal
import Derived.Shelf.Sort.Plain
import Derived.Shelf.Slices.In.SortNone
import Derived.Shelf.Strings.Split
import Derived.Sort.Walk0
import Derived.Shelf.SlSortCmp.Insertion
import Derived.Test.YtfjcldheldflbaaGreatDoorProg
import Derived.RangeFuncBox
import Derived.RangeFuncLeaves
import Derived.Shelf.Abstract
import Derived.WalkKit
import Derived.OwnWalkIn
import Derived.TacticsInMore
import Derived.LoopNIn
import Derived.LoopIn
set_option maxHeartbeats 4000000
namespace Go.Jog
open Go Go.Proofs Go.Shelf
section
variable {α:Type} [Inhabited α]
theorem tw (a:α->List Value)(k:Nat)(c:∀ x,(a x).length=k)(d:Array α):(Sort.flatK a k d).toList=(d.toList.map a).flatten:=by
 have hr:∀ r∈d.toList.map a,r.length=k:=fun r hr=>by
  obtain⟨x,_,rfl⟩:=Rs.1 hr;exact c x
 have g:=aK hr;apply List.ext_getElem?;intro q;by_cases b:q<d.size*k
 ·have i:0<k:=by
   rcases Sz k with h|h
   ·rw[h]at b;simp at b
   exact h
  have e:q / k<d.size:=Uc (by rw[R8];exact b);have h1:(d.toList.map a)[q / k]?=some (a d[q / k]!):=by
   rw[Rr,Array.getElem?_toList,Array.getElem?_eq_getElem e];simp[e]
  have f:q % k<(a d[q / k]!).length:=by rw[c];exact R9 _ i
  have h2:=getElem?_flatten_rows hr h1 (ai f);have j:q / k*k+q % k=q:=by rw[R8];exact T4 q k
  rw[j]at h2;rw[h2];have h3:=Sort.get_flatK a k d q b;rw[Array.getElem?_toList,Array.getElem?_eq_getElem (by simpa using b)];rw[getElem!_pos (Sort.flatK a k d) q (by simpa using b)]at h3;rw[h3,getElem!_pos (a d[q / k]!) (q % k) f]
 rw[Rx ap,Rx (by rw[g];simp;omega)]
theorem KR {a:Type}[Inhabited a](c:a->Value)(w:World)(m b:Nat)(F:Array a)(h:Array Obj){d:Array Value}{e:TypeId}{f:Nat × Nat}(g:w.heap[b]?=some (.cells d e f)) :
  (Sort.grow (Sort.putRow c (Sort.ahead w m) b 0 F) h).heap[b]?=some (.cells (Sort.putCells c 0 F d) e f):=by
 have i:=cQ g;rw[Sort.heap_grow_old _ _ (by simpa [Sort.ahead] using i)];simp[Sort.putRow,Sort.mapBlock,Sort.ahead,T7,g,Sort.onCells]
theorem kO {a:Type}[Inhabited a](c:a->Value)(w:World)(m b:Nat)(F:Array a)(d:Array Obj){q:Nat}(e:q<w.heap.size)(f:q≠b) :
  (Sort.grow (Sort.putRow c (Sort.ahead w m) b 0 F) d).heap[q]?=w.heap[q]?:=by
 rw[Sort.heap_grow_old _ _ (by simpa [Sort.ahead] using e)];simp[Sort.putRow,Sort.mapBlock,Sort.ahead,T7,Ne.symm f]
theorem uD {b:Type}[Inhabited b](d:b->Value)(F:Array b)(c:Array Value)(h:F.size<=c.size):(Sort.putCells d 0 F c).toList.take F.size=F.toList.map d:=by
 apply List.ext_getElem?;intro q;rw[Sg];split
 ·rename_i a;simp only[Sort.putCells,Array.getElem?_toList,Array.getElem?_mapIdx,Rr,Rv,SP,true_and,a,Tu,Uj];rw[Array.getElem?_eq_getElem (by omega:q<c.size),Array.getElem?_eq_getElem a];simp[a]
 rename_i a;rw[Rx ap]
theorem St.sorted {c:Type}[Inhabited c](b:c->Value){C:Mem}{w:World}{e s n g a m:Nat}{d:List Value}(j:Sep C [.arr (s_ g n a) e s n d] w)(F:Array c)(f:F.size=n*s)(i:Array Obj) :
  St w C [.arr (s_ g n a) e s n d] C [.arr (s_ g n a) e s n (F.toList.map b)] (Sort.grow (Sort.putRow b (Sort.ahead w m) g 0 F) i):=by
 have l:w.ownsRow 0 e s (s_ g n a) n d:=j.e _ (Rq ..);obtain⟨_,h1,h2,o,p,k,_⟩:=cS l;have r:n*s<=a*s:=Sa _ h1;refine St.turn (St.start j) ⟨by simpa using f,.inr ⟨g,a,_,U,Rv _,KR b w m g F i p,h1,h2,by simpa [Sort.putCells] using k, ?_⟩⟩ ⟨U,U,U,by simp[Sort.ahead],fun q t u=>kO b w m g F i t (fun h=>u (by simp[Value.ownBlock,h]))⟩ ?_ (.inl U)
 ·rw[<- f];exact uD b F o (by rw[f,k];exact r)
 show w.drawn<=w.drawn+m;omega
theorem EG {w a:World}{C c:Mem}(h:St w C [] c [] a):∃ q os,a=Sort.grow (w.drewN q) os:=by
 refine⟨a.drawn-w.drawn,(a.heap.toList.drop w.heap.size).toArray, ?_⟩;have h1:a.heap=w.heap++(a.heap.toList.drop w.heap.size).toArray:=by
  apply Array.ext_getElem?;intro k;rw[Array.getElem?_append];split
  ·rename_i b;exact h.ev.block k b (fun⟨x,d,_⟩=>by cases d)
  rename_i b;simp only[SS,List.getElem?_drop,Array.getElem?_toList];congr 1;omega
 have h2:w.drawn+(a.drawn-w.drawn)=a.drawn:=by have:=h.ev.drawn;omega
 obtain⟨i,j,l,m,op⟩:=a;have e:=h.ev.os;have f:=h.ev.tape;have g:=h.ev.output;simp only at h1 h2 e f g;simp only[Sort.grow,World.drewN];congr 1
 ·exact h2.symm
end
section
variable {P:Program} {ρ:Ren}
theorem NS {a:Type}[Inhabited a]{l:List a}{d:Array a}(h:Sort.PermIn 0 l.toArray.size l.toArray d):d.toList.Perm l:=by
 obtain⟨h1,_,h3⟩:=h;have b:d.extract 0 l.toArray.size=d:=by apply Te;rw[<- h1];simp
 have c:l.toArray.extract 0 l.toArray.size=l.toArray:=by apply Te;simp
 rw[b,c]at h3;simpa using h3
theorem FW {a:Type}[Inhabited a]{b:a->a->Bool}{d:Array a}(h:Sort.SortedIn b 0 d.size d):d.toList.Pairwise fun x y=>b y x=false:=by
 rw[List.pairwise_iff_getElem];intro i j e c f;have:=h i j (Rv _) f (by simpa using c);rw[getElem!_pos d j (by simpa using c),getElem!_pos d i (by simpa using e)]at this;simpa using this
theorem zu {r:Type}[Inhabited r](K:SlLaysF0.n6 P ρ){T:Tab}(L:oK P T=true){d:TI}(M:T.get (ρ.t 24)=some d)(Y:d.agg=true)(a:r->List Value)(A:∀ x,(a x).length=d.size)(i:∀ x,(a x).all lG=true)
  (s:r->r->Int) (Z:Sort.SWO (ltOf s)) (g:FuncId) (p:List Value) (C:Mem) (aa:∀ x y B,C.le B->Gives P g ([.agg ⟨a x⟩,.agg ⟨a y⟩]++p) B (i_ (s x y))) (v:Value) (e:TypeId) (l:List r) (ab:l.length<4611686018427387904)
  (ac:Enters P (ρ.f 6)=true) (ad:Enters P g=true) :
  Fn P (ρ.f 6) [v,.func (.func g) #[] ⟨p⟩] C [.arr v e d.size l.length (l.map a).flatten] fun u _al N=>∃ D:List r,u=.tuple #[]/\N=[.arr v e d.size l.length (D.map a).flatten]/\D.Perm l/\D.Pairwise (fun x y=>ltOf s y x=false):=by
 refine⟨ac,fun w z=>?_⟩;have ae:w.ownsRow 0 e d.size v l.length (l.map a).flatten:=z.e _ (Rq ..);rcases ae.2 with⟨rfl,hz⟩|⟨b,O,E,rfl,_,F,h2,h3,h4,h5⟩
 ·have hl:l=[]:=Sd hz;subst hl;refine(AnyF.slices_SortFunc_none K none 0 (.func (.func g) #[] ⟨p⟩) w).mono fun Q w' ⟨i,h2⟩=>?_;subst h2;exact⟨_,C,_,i,St.start z,[],U,U,Rw _,List.Pairwise.nil⟩
 have af:b<w.heap.size:=cQ F;have ag:(Sort.flatK a d.size l.toArray).toList=(l.map a).flatten:=by rw[tw a _ A]
 have am:l.length*d.size<=O*d.size:=Sa _ h2;have hH:Sort.HoldsK a d.size w b 0 l.toArray:=by
  intro j G;simp only[Sort.size_flatK,Tw]at G;have R:j<E.size:=by omega
  have hc:(Sort.flatK a d.size l.toArray)[j]?=some E[j]:=by
   rw[<- Array.getElem?_toList,ag,<- h5,Sg,aM G,Array.getElem?_toList,Array.getElem?_eq_getElem R]
  have hg:=getElem!_pos (Sort.flatK a d.size l.toArray) j (by simpa using G);have ah:=(Tt.1 hc).2;refine⟨?_, ?_⟩
  ·rw[SP,cell_of_row w b j E e (0,0) F,hg,ah];exact Array.getElem?_eq_getElem R
  simp[World.frozen?,F]
 have ai:CmpLays P g ⟨p⟩ a d.size s b 0 l.toArray.size w:=by
  intro m os dk an x y;have hW:Sep C [] (sortWorldK a d.size w b 0 m dk os):=⟨fun q o H=>by
    have S:=z.c q o H;unfold sortWorldK Sort.putRowK;rw[kO id w m b _ os (cQ S) (fun h=>by
     subst h;have:=z.n q ⟨_,Rq ..,rfl⟩;rw[this]at H;cases H)]
    exact S,fun x I=>(by cases I),List.Pairwise.nil,fun k ⟨x,I,_⟩=>(by cases I)⟩
  have ea:(#[Value.agg (a x).toArray,Value.agg (a y).toArray]++(⟨p⟩:Array Value))=([Value.agg ⟨a x⟩,Value.agg ⟨a y⟩]++p).toArray:=by apply Te;simp
  rw[ea];refine((aa x y C l_).2 _ hW).mono fun Q w' ⟨u,B,N,i,h2,h3,h4⟩=>?_;subst h3;subst h4;exact⟨i,EG h2⟩
 have aj:=AnyQ.slices_SortFunc K d.size (fun w=>by have:=HB L M w;rwa [Y]at this) (fun w=>ep L M w) a A (fun x u hu=>gK (RI.1 (i x) u hu)) s Z g ⟨p⟩ b 0 O l.toArray w (fun args w=>gl ad args w) ai hH af (by simpa using ab);refine aj.mono fun Q w' ⟨i,J,m,os,V,hs,ak⟩=>?_;subst ak;have W:J.size=l.length:=by simpa using V.1
 have X:=St.sorted (m:=m) id z (Sort.flatK a d.size J) (by simp[W]) os;simp only[List.map_id,tw a _ A]at X;exact⟨_,C,_,i,X,J.toList,U,U,NS V,FW (by rw[W];simpa using hs)⟩
theorem yg (c:UInt8):∀ s:List UInt8,(c ∉ s/\Lib.index s [c]=-1)∨∃ a post,s=a++c::post/\c ∉ a/\Lib.index s [c]=a.length
|[]=>.inl ⟨by simp,by simp[Lib.index]⟩
|b::s=>by
  by_cases d:b=c
  ·subst d;exact .inr ⟨[],s,U,by simp,by simp[Lib.index]⟩
  have f:([c]:List UInt8).isPrefixOf (b::s)=false:=by simp[List.isPrefixOf,Ne.symm d]
  have e:Lib.index (b::s) [c]=if Lib.index s [c] == -1 then -1 else Lib.index s [c]+1:=by rw[Lib.index,f];simp
  rcases yg c s with⟨h1,h2⟩|⟨a,post,h1,h2,h3⟩
  ·exact .inl ⟨by simp[Ne.symm d,h1],by rw[e,h2];rfl⟩
  refine .inr ⟨b::a,post,by simp[h1],by simp[Ne.symm d,h2], ?_⟩;rw[e,h3];have:¬ ((a.length:Int) == -1)=true:=by simp
  rw[aF this];simp
theorem sC (c:UInt8):∀ (k:Nat)(s:List UInt8),s.count c=k->Lib.splitK [c] 0 k s=cM c s
|0,s,h=>by
  rw[od c s (List.count_eq_zero.1 h)];rfl
|k+1,s,h=>by
  rcases yg c s with⟨h1,_⟩|⟨a,post,h1,h2,h3⟩
  ·rw[List.count_eq_zero.2 h1]at h;omega
  have b:post.count c=k:=by
   rw[h1,List.count_append,List.count_eq_zero.2 h2,List.count_cons_self]at h;omega
  unfold Lib.splitK;rw[h3];have d:¬ ((a.length:Int) == -1)=true:=by simp
  rw[aF d];subst h1;have e:((a.length:Int).toNat+0)=a.length:=by simp
  have f:(a++c::post).drop ((a.length:Int).toNat+[c].length)=post:=by simp
  rw[e,f,sC c k post b,pM c a post h2];simp
theorem split_fn (k:Lays.n146 P ρ)(l:(P.info? (ρ.t 9)).map (fun i=>(i.zero,i.size,i.bytes))=some (some (.string ByteArray.empty),1,16))(C:Mem)(s:List UInt8)(c:UInt8){m:Int}(n:s.length<4294967281)(o:CCell C ⟨ρ.g 1,0,none⟩ (i_ m))(q:Enters P (ρ.f 146)=true) :
  Pur P (ρ.f 146) [ae s,ae [c]] C fun v r=>Sl r 1 v ((cM c s).map fun p=>[ae p]):=by
 refine⟨q,fun w a=>?_⟩;have h:=Any.strings_Split k l ⟨s.toArray⟩ ⟨#[c]⟩ m w (by simpa [ByteArray.size] using n) (o.cell a) (by simp[ByteArray.size]);have x:Lib.countB ⟨s.toArray⟩ ⟨#[c]⟩=s.count c:=by
  show Lib.count s [c]=_;exact Lib.count_one c s
 have y:(Lib.splitB ⟨#[c]⟩ 0 (s.count c) ⟨s.toArray⟩).map (fun b=>b.data.toList)=cM c s:=by
  rw[Lib.splitB_data];exact sC c _ s U
 have z:(Lib.splitB ⟨#[c]⟩ 0 (s.count c) ⟨s.toArray⟩).map Value.string=(cM c s).map ae:=by
  rw[<- y,So];apply List.map_congr_left;intro b _;obtain⟨⟨b⟩⟩:=b;rfl
 rw[x,z]at h;refine h.mono fun D w' ⟨h1,A⟩=>?_;subst A;have h2:=(St.alloc (St.start a) (.cells ((cM c s).map ae).toArray (ρ.t 9))).freeze;refine⟨_,_,_,h1,h2.2,U, ?_⟩;have d:=kJ c s;have E:s.count c<=s.length:=List.count_le_length;have B:=Sl.ofBlock (C:=C.set w.heap.size (.cells ((cM c s).map ae).toArray (ρ.t 9))) (c:=s.count c+1) (Mem.set_self C w.heap.size _) (rows:=(cM c s).map fun p=>[ae p]) (s:=1) ak (fun j u e=>by rw[eE]at e;simpa using e) (by simp[d]) y_;simpa [d] using B
end
end Go.Jog
namespace Go.Jog
def Ms:List Nat->List Nat->Int
|[],[]=>0
|[],_::_=>-1
|_::_,[]=>1
|x::a,y::b=>if x<y then -1 else if y<x then 1 else Ms a b
end Go.Jog
namespace Go.Jog
open Go
theorem W6 {P:Program}{f:FuncId}{i:List Value}{C:Mem}{j:Value->Mem->List Ent->Prop}{Q:Value->Mem->Prop}(h:Fn P f i C [] j)
  (k:∀ v a c,j v a c->(c=[]/\Q v a)∨∃ u t s rows,c=[.arr u t s rows.length rows.flatten]/\(∀ r∈rows,r.length=s)/\∀ D,a.le D->Sl D s u rows->Q v D):Pur P f i C Q:=by
 refine⟨h.1,fun w l=>(h.2 w l).mono ?_⟩;rintro e w' ⟨v,a,c,rfl,d,m⟩;rcases k _ _ _ m with⟨rfl,g⟩|⟨u,t,s,rows,rfl,hr,g⟩
 ·exact⟨v,a,[],U,d,U,g⟩
 obtain⟨D,h1,h2,h3⟩:=St.freezeArr d hr rfl;exact⟨v,D,[],U,⟨h3.sep,h3.ev,fun b o n=>h1 b o (d.c0 b o n),h3.cn,h3.ln⟩,U,g D h1 h2⟩
end Go.Jog
namespace Go.Jog
open Go
theorem WJ {F:Fx}{d:Fr}{C:Mem}{L:List Ent}{p r b t:Nat}{k:List Value}{n:TypeId}{o:Nat × Nat}{f:TI}{x v:Value}(q:Ent.obj b (.cells ⟨k⟩ n o)∈L)(s:F.fn.results=#[.cell r t,.tmp p])
  (c:ev d [] (.tmp p)=some x) (u:ev d [] (.tmp r)=some (p_ b))
  (y:F.cx.T.get t=some f) (z:cI f (k.take f.size)=some v) (h:F.post (.tuple #[v,x]) C []) (l:F.ends:=by exact⟨fun _ _ _ h=>h,rfl⟩):G F [] .ret d C L:=fun _ a w g m=>by
 refine l.kq ?_;have i:=bN g (fun p c=>by cases c) c;have j:=bN g (fun p c=>by cases c) u;simp only[Act.eval]at i j;refine bodyPost_ret (v:=.tuple #[v,x]) ?_ (g.defers.trans l.2) ⟨_,C,[],U,St.dropAll m,h⟩;have A:=fC (F:=F) y (m.sep.e _ q) z;simp only[Sr]at i j;simp[results,s,i,j,asAddr,A]
end Go.Jog
namespace Go.Jog
structure Bq (A:List Arc3)(to n:Nat)(d:List Int)(qs:List Nat):Prop where
 rel:OY A to n d
 que:∀ q∈qs,q<n/\0<=dAt d q
 srt:qs.Pairwise fun x y=>dAt d x<=dAt d y
 top:∀ q∈qs,∀ v,dAt d v<=dAt d q+1
 tight:∀ a∈A,a.up ∉ qs->OW d a
structure Bi (A:List Arc3)(to n:Nat)(d:List Int)(h:Nat)(qs:List Nat)(T:Arc3->Prop):Prop where
 rel:OY A to n d
 hh:h<n/\0<=dAt d h
 que:∀ q∈qs,q<n/\0<=dAt d q
 srt:qs.Pairwise fun x y=>dAt d x<=dAt d y
 topq:∀ q∈qs,dAt d h<=dAt d q
 top:∀ v,dAt d v<=dAt d h+1
 tight:∀ a∈A,a.up ∉ qs->a.up≠h->OW d a
 tightT:∀ a∈A,a.up=h->T a->OW d a
end Go.Jog
namespace Go.Proofs.YtfjcldheldflbaaGreatDoor
open Go.Proofs.Tryz
open Go Go.Jog
variable {C:Mem}{i k:Nat}{l:List Nat}{m n:Nat}{u v:Value}
def tab:Tab:=[(2,⟨.int .i64,1,8,[.int .i64],false⟩),
 (3,⟨.int .i64,1,8,[.int .i64],false⟩),
 (4,⟨.bool,1,1,[.bool],false⟩),
 (5,⟨.int .u8,1,1,[.int .u8],false⟩),
 (9,⟨.str,1,16,[.str],false⟩),
 (12,⟨.int .u64,1,8,[.int .u64],false⟩),
 (21,⟨.int .i32,1,4,[.int .i32],false⟩),
 (22,⟨.int .i8,1,1,[.int .i8],false⟩),
 (23,⟨.arr 2 22,2,2,[.int .i8,.int .i8],true⟩),
 (25,⟨.struct [(5,0),(23,1),(4,3)],4,4,[.int .u8,.int .i8,.int .i8,.bool],true⟩),
 (26,⟨.arr 6 22,6,6,[.int .i8,.int .i8,.int .i8,.int .i8,.int .i8,.int .i8],true⟩),
 (28,⟨.struct [(26,0),(4,6)],7,7,[.int .i8,.int .i8,.int .i8,.int .i8,.int .i8,.int .i8,.bool],true⟩),
 (29,⟨.slice 138,1,24,[.slice],false⟩),
 (31,⟨.struct [(25,0),(28,4),(29,11)],12,40,[.int .u8,.int .i8,.int .i8,.bool,.int .i8,.int .i8,.int .i8,.int .i8,.int .i8,.int .i8,.bool,.slice],true⟩),
 (32,⟨.str,1,16,[.str],false⟩),
 (34,⟨.struct [(32,0),(32,1)],2,32,[.str,.str],true⟩),
 (36,⟨.slice 34,1,24,[.slice],false⟩),
 (37,⟨.slice 65,1,24,[.slice],false⟩),
 (39,⟨.struct [(36,0),(37,1)],2,48,[.slice,.slice],true⟩),
 (40,⟨.slice 32,1,24,[.slice],false⟩),
 (41,⟨.slice 32,1,24,[.slice],false⟩),
 (42,⟨.slice 121,1,24,[.slice],false⟩),
 (43,⟨.slice 126,1,24,[.slice],false⟩),
 (45,⟨.struct [(39,0),(41,2),(42,3),(43,4)],5,120,[.slice,.slice,.slice,.slice,.slice],true⟩),
 (47,⟨.slice 140,1,24,[.slice],false⟩),
 (50,⟨.int .i64,1,8,[.int .i64],false⟩),
 (57,⟨.slice 3,1,24,[.slice],false⟩),
 (60,⟨.arr 3 32,3,48,[.str,.str,.str],true⟩),
 (61,⟨.arr 3 32,3,48,[.str,.str,.str],true⟩),
 (64,⟨.arr 3 3,3,24,[.int .i64,.int .i64,.int .i64],true⟩),
 (65,⟨.arr 3 3,3,24,[.int .i64,.int .i64,.int .i64],true⟩),
 (68,⟨.struct [(40,0)],1,24,[.slice],true⟩),
 (70,⟨.struct [(3,0),(32,1),(40,2),(68,3),(40,4)],5,96,[.int .i64,.str,.slice,.slice,.slice],true⟩),
 (74,⟨.struct [(3,0),(47,1),(40,2)],3,56,[.int .i64,.slice,.slice],true⟩),
 (82,⟨.slice 41,1,24,[.slice],false⟩),
 (90,⟨.arr 2 28,14,14,[.int .i8,.int .i8,.int .i8,.int .i8,.int .i8,.int .i8,.bool,.int .i8,.int .i8,.int .i8,.int .i8,.int .i8,.int .i8,.bool],true⟩),
 (104,⟨.struct [(82,0),(32,1),(68,2)],3,64,[.slice,.str,.slice],true⟩),
 (113,⟨.struct [(5,0),(5,1),(5,2)],3,3,[.int .u8,.int .u8,.int .u8],true⟩),
 (116,⟨.func,1,8,[.func],false⟩),
 (121,⟨.struct [(9,0),(32,1),(32,2)],3,48,[.str,.str,.str],true⟩),
 (124,⟨.struct [(32,0),(32,1),(32,2)],3,48,[.str,.str,.str],true⟩),
 (126,⟨.struct [(3,0),(9,1),(34,2),(32,4),(9,5),(9,6),(124,7)],10,152,[.int .i64,.str,.str,.str,.str,.str,.str,.str,.str,.str],true⟩),
 (127,⟨.slice 142,1,24,[.slice],false⟩),
 (135,⟨.arr 2 5,2,2,[.int .u8,.int .u8],true⟩),
 (136,⟨.arr 3 22,3,3,[.int .i8,.int .i8,.int .i8],true⟩),
 (138,⟨.struct [(5,0),(23,1),(135,3),(5,5),(136,6)],9,9,[.int .u8,.int .i8,.int .i8,.int .u8,.int .u8,.int .u8,.int .i8,.int .i8,.int .i8],true⟩),
 (140,⟨.struct [(40,0),(32,1)],2,40,[.slice,.str],true⟩),
 (142,⟨.struct [(3,0),(140,1)],3,48,[.int .i64,.slice,.str],true⟩),
 (144,⟨.arr 2 32,2,32,[.str,.str],true⟩),
 (152,⟨.arr 3 34,6,96,[.str,.str,.str,.str,.str,.str],true⟩),
 (160,⟨.slice 163,1,24,[.slice],false⟩),
 (163,⟨.arr 2 3,2,16,[.int .i64,.int .i64],true⟩),
 (174,⟨.func,1,8,[.func],false⟩),
 (181,⟨.slice 9,1,24,[.slice],false⟩),
 (188,⟨.str,1,16,[.str],false⟩),
 (196,⟨.struct [(3,0),(3,1)],2,16,[.int .i64,.int .i64],true⟩),
 (203,⟨.slice 5,1,24,[.slice],false⟩),
 (206,⟨.arr 3 9,3,48,[.str,.str,.str],true⟩),
 (211,⟨.int .u64,1,8,[.int .u64],false⟩),
 (214,⟨.map 34 4,1,8,[.map],false⟩),
 (221,⟨.ptr 231,1,8,[.ptr],false⟩),
 (228,⟨.struct [(32,0),(40,1)],2,40,[.str,.slice],true⟩),
 (229,⟨.slice 228,1,24,[.slice],false⟩),
 (231,⟨.struct [(3,0),(57,1),(229,2),(57,3),(228,4)],6,120,[.int .i64,.slice,.slice,.slice,.str,.slice],true⟩),
 (234,⟨.map 163 3,1,8,[.map],false⟩),
 (271,⟨.slice 285,1,24,[.slice],false⟩),
 (273,⟨.struct [(4,0),(271,1)],2,32,[.bool,.slice],true⟩),
 (278,⟨.struct [(34,0),(32,2)],3,48,[.str,.str,.str],true⟩),
 (279,⟨.arr 3 278,9,144,[.str,.str,.str,.str,.str,.str,.str,.str,.str],true⟩),
 (281,⟨.func,1,8,[.func],false⟩),
 (282,⟨.int .u32,1,4,[.int .u32],false⟩),
 (285,⟨.int .u64,1,8,[.int .u64],false⟩),
 (288,⟨.map 3 4,1,8,[.map],false⟩),
 (297,⟨.func,1,8,[.func],false⟩),
 (300,⟨.func,1,8,[.func],false⟩),
 (301,⟨.slice 40,1,24,[.slice],false⟩),
 (303,⟨.func,1,8,[.func],false⟩),
 (317,⟨.iface,1,16,[.iface],false⟩),
 (324,⟨.map 9 4,1,8,[.map],false⟩),
 (326,⟨.map 3 32,1,8,[.map],false⟩),
 (332,⟨.func,1,8,[.func],false⟩),
 (342,⟨.ptr 344,1,8,[.ptr],false⟩),
 (344,⟨.struct [(342,0),(203,1)],2,32,[.ptr,.slice],true⟩),
 (347,⟨.func,1,8,[.func],false⟩),
 (351,⟨.map 3 3,1,8,[.map],false⟩),
 (352,⟨.func,1,8,[.func],false⟩),
 (379,⟨.ptr 5,1,8,[.ptr],false⟩),
 (380,⟨.ptr 228,1,8,[.ptr],false⟩),
 (385,⟨.ptr 3,1,8,[.ptr],false⟩),
 (387,⟨.int .i64,1,8,[.int .i64],false⟩),
 (390,⟨.ptr 409,1,8,[.ptr],false⟩),
 (393,⟨.arr 24 5,24,24,[.int .u8,.int .u8,.int .u8,.int .u8,.int .u8,.int .u8,.int .u8,.int .u8,.int .u8,.int .u8,.int .u8,.int .u8,.int .u8,.int .u8,.int .u8,.int .u8,.int .u8,.int .u8,.int .u8,.int .u8,.int .u8,.int .u8,.int .u8,.int .u8],true⟩),
 (398,⟨.func,1,8,[.func],false⟩),
 (409,⟨.struct [(9,0),(9,1),(317,2)],3,48,[.str,.str,.iface],true⟩),
 (412,⟨.arr 20 285,20,160,[.int .u64,.int .u64,.int .u64,.int .u64,.int .u64,.int .u64,.int .u64,.int .u64,.int .u64,.int .u64,.int .u64,.int .u64,.int .u64,.int .u64,.int .u64,.int .u64,.int .u64,.int .u64,.int .u64,.int .u64],true⟩),
 (414,⟨.ptr 416,1,8,[.ptr],false⟩),
 (416,⟨.struct [(9,0)],1,16,[.str],true⟩),
 (417,⟨.arr 32 5,32,32,[.int .u8,.int .u8,.int .u8,.int .u8,.int .u8,.int .u8,.int .u8,.int .u8,.int .u8,.int .u8,.int .u8,.int .u8,.int .u8,.int .u8,.int .u8,.int .u8,.int .u8,.int .u8,.int .u8,.int .u8,.int .u8,.int .u8,.int .u8,.int .u8,.int .u8,.int .u8,.int .u8,.int .u8,.int .u8,.int .u8,.int .u8,.int .u8],true⟩),
 (421,⟨.arr 0 16,0,0,[],true⟩)]
noncomputable def cx:Cx:={ P:=Tryz.prog,T:=tab,mixed:=by kernel_rfl,hT:=by kernel_rfl }
abbrev Str:=List UInt8
/-! ### The model -/
structure Rel where
 kind:Int
 upper:Str
 lower:Str
 deriving DecidableEq,Inhabited
def qP (b:UInt8):Bool:=(decide (97<=(b.toNat:Int)) && decide ((b.toNat:Int)<=122)) || (decide (65<=(b.toNat:Int)) && decide ((b.toNat:Int)<=90))
def yC (b:UInt8):Bool:=(decide (48<=(b.toNat:Int)) && decide ((b.toNat:Int)<=57)) || ((b.toNat:Int) == 95)
def jY (k:Nat)(b:UInt8):Bool:=qP b || (!(k == 0) && yC b)
def ik:Nat->Str->Bool
|_,[]=>true
|k,b::s=>jY k b && ik (k+1) s
def cY (s:Str):Bool:=!(s == []) && decide (s.length<=32) && ik 0 s
theorem qH:∀ {s:Str}{k i:Nat}{b:UInt8},s[i]?=some b->jY (k+i) b=false->ik k s=false
|[],k,i,b,h,_=>by simp at h
|c::s,k,0,b,h,a=>by
  simp at h;subst h;simp only[S7]at a;simp[ik,a]
|c::s,k,i+1,b,h,a=>by
  have:=qH (k:=k+1) (by simpa using h) (by rw[show k+1+i=k+(i+1) by omega];exact a);simp[ik,this]
theorem om:∀ {s:Str}{k:Nat},(∀ i b,s[i]?=some b->jY (k+i) b=true)->ik k s=true
|[],k,_=>rfl
|c::s,k,h=>by
  have h0:=h 0 c ak;simp only[S7]at h0;have h1:=om (s:=s) (k:=k+1) (fun i b a=>by
   have:=h (i+1) b (by simpa using a)
   rwa [show k+(i+1)=k+1+i by omega]at this)
  simp[ik,h0,h1]
/-! ### IsName -/
set_option maxRecDepth 100000 in
theorem ir (C:Mem)(s:Str)(D:s.length<1000000):Gives cx.P 285 [ae s] C (.bool (cY s)):=by
 refine Vi func285 57 U3 fun w0=>?_;refine U1 1 [0,2] U ?_;refine Va 6 U fun R a=>?_;refine VH U8 ?_;refine Vf [0,13] a U ?_;refine G.cond U (fun h=>?_) (fun h=>?_)
 ·refine U1 1 [2] U ?_;refine Vg U2 ?_;refine⟨?_,U⟩;congr 1;simp only[Tp,S8,Ry]at h;unfold cY;rcases h with h|h
  ·have:s=[]:=h;simp[this]
  have h2:¬ s.length<=32:=by omega
  simp[h2]
 simp only[Tf,Ti,RZ]at h;have q:s≠[]:=h.1;have r:s.length<=32:=by have:=h.2;omega
 refine Va 1 U fun R a=>?_;refine Xk U U U U U U U U U U y_ fl_ (fun E _ _ g=>?_);have t:=g;obtain⟨A,c,rfl,_⟩:=t;refine C6 2 [15,16,17] a U ?_;refine G.loop (fun fr u j m=>∃ k:Nat,k<=s.length/\(∀ i b,i<k->s[i]?=some b->jY (0+i) b=true)/\fr=[(15,[],.slice A (s.map fun b=>[Value.int .u8 b.toNat]).length c),(16,[],i_ (s.map fun b=>[Value.int .u8 b.toNat]).length),(17,[],i_ k)]/\j=[]/\m=s.length-k) (m:=s.length) (hn_ [15,16,17] U) ⟨0,Rv _,fun i b v=>by omega,U,U,U⟩ (fun fr u j m l w=>?_);obtain⟨k,F,n,rfl,rfl,rfl⟩:=w;refine U1 1 [15,16,17,18] U ?_;refine G.cond U (fun h=>?_) (fun h=>?_)
 ·simp only[au,Ry]at h;have x:k<s.length:=by omega
  obtain⟨b,d⟩:∃ b,s[k]?=some b:=⟨s[k],ai x⟩;have y:=g.mono l;refine Va 1 U fun R a=>?_;refine Vq y U10 om_ (row:=[.int .u8 b.toNat]) (by simp[d]) fl_ (fun H z=>?_);refine Vb z U8 ?_;refine C6 2 [3,4,15,16,17] a U ?_;refine Va 5 U fun R a=>?_;refine Vz U8 ?_;refine Ve 6 U ?_;refine Vz U8 ?_;refine VH U8 ?_;refine Vc U6 ?_;refine Wp [E_ 3 _,E_ 4 _,(5,[],.bool (qP b)),E_ 15 _,E_ 16 _,E_ 17 _] a ?_;refine Va 5 U fun R a=>?_;refine Vz U8 ?_;refine Ve 3 U ?_;refine VH U8 ?_;refine Vc U6 ?_;refine Wp [E_ 3 _,E_ 5 _,(6,[],.bool (yC b)),E_ 15 _,E_ 16 _,E_ 17 _] a ?_;refine Va 8 U fun R a=>?_;refine VH U8 ?_;refine Vz U8 ?_;refine Wp [E_ 15 _,E_ 16 _,E_ 17 _,(55,[],.bool (!(qP b) && (((k:Int) == 0) || !(yC b))))] a ?_;have o:(!(qP b) && (((k:Int) == 0) || !(yC b)))=!(jY (0+k) b):=by
   have e:((k:Int) == 0)=(0+k == 0):=by
    rw[SP];by_cases p:k=0
    ·subst p;rfl
    have:¬ (k:Int)=0:=by omega
    rw[Ti.2 this,Ti.2 p]
   unfold jY;rw[e];cases qP b <;> cases yC b <;> cases (0+k == 0) <;> rfl
  refine G.cond U (fun h=>?_) (fun h=>?_)
  ·rw[o]at h;refine U1 1 [2] U ?_;refine Vg U2 ?_;refine⟨?_,U⟩;have:=qH (k:=0) d (by simpa using h);simp[cY,this]
  rw[o]at h;refine Vd fun R a=>?_;refine VI ((k+1:Nat):Int) U4 om_ om_ om_ U2 ?_;refine C6 1 [15,16,17] a U ?_;refine Vn (m':=s.length-(k+1)) om_ l (hn_ [15,16,17] U) ⟨k+1,by omega, ?_,U,U,U⟩;intro i B v f;rcases RS i k with h1|h1
  ·exact n i B h1 f
  have:i=k:=by omega
  subst this;rw[d]at f;cases f
  simpa using h
 simp only[au,RZ]at h;refine U1 1 [2] U ?_;refine Vg U2 ?_;refine⟨?_,U⟩;have:=om (s:=s) (k:=0) (fun i b d=>n i b (by have:=(aJ.1 d).1;omega) d);simp[cY,this,q,r]
set_option maxRecDepth 100000
structure ArcE where
 lower:Str
 upper:Str
 deriving DecidableEq,Inhabited
theorem Ql (a b:Str):(a == b)=decide (a=b):=by by_cases h:a=b <;> simp[h]
set_option maxRecDepth 100000
def ML (a b:Int):Int:=if a<b then -1 else if a=b then 0 else 1
/-! ### Comparisons -/
structure TotC {α:Type}(f:α->α->Int):Prop where
 eq:∀ x y,f x y=0 ↔ x=y
 sym:∀ x y,f x y<0 ↔ 0<f y x
 trans:∀ x y z,f x y<0->f y z<0->f x z<0
section
variable {α:Type} {f:α->α->Int}
variable [DecidableEq α]
def ins (f:α->α->Int)(x:α):List α->List α
|[]=>[x]
|y::l=>if f y x<0 then y::ins f x l else if y=x then y::l else x::y::l
end
def nP (x:Int):List Value:=[.int .i64 x]
def aW (i:Nat):List Value:=[.int .i64 i]
abbrev QI (b:Nat):Value:=.pointer (some ⟨b,0,none⟩)
abbrev OS (b:Nat)(q:Option Addr)(v:Value):Ent:=.obj b (.cells ⟨[.pointer q,v]⟩ 344 (0,0))
abbrev u8s (s:Str):List Value:=s.map fun c=>Value.int .u8 c.toNat
abbrev OU (v:Value)(s:Str):Ent:=.arr v 5 1 s.length (u8s s)
theorem tM (C:Mem)(b:Nat)(q:Option Addr)(v:Value)(g:q=none∨q=some ⟨b,0,none⟩):Jog.Fn cx.P 296 [QI b] C [OS b q v] fun _ _ d=>d=[OS b (some ⟨b,0,none⟩) v]:=by
 refine Vi func296 20 U3 fun w0=>Vr (L':=[.obj b (.cells ⟨[.pointer q,v]⟩ 344 (0,0))]) U<|Va 3 U fun R a=>Vj ag U9<|Xv (e:=344) U U U U U kr_ kr_ U U<|Vf [0,6] a U<|G.cd (fun c=>?_) fun c=>?_
 ·have h:q=none:=by simpa using c
  subst h;refine Va 2 U fun R a=>Xj (t:=344) U U U U U ag kr_ kr_ kr_ ak fl_<|Xn (fn:=Tryz.f323) U U U U U func323 kr_ kr_ kr_ kr_ fl_<|Xz (t:=344) U U U U U ag kr_ kr_ kr_ kr_ fl_<|Ve 2 U<|Vk (j:=0) U12<|V9 [] trivial (a _ _ _ U ?_);refine Wf U ?_;rfl
 have i:q=some ⟨b,0,none⟩:=by
  rcases g with rfl|rfl
  ·simp at c
  rfl
 subst i;refine Va 3 U fun R a=>Vj ag U9<|Vc U6<|Xh (e:=344) U U U U U U kr_ kr_ U U<|Vf [19] a U<|G.cd (fun f=>?_) fun f=>?_
 ·cases f
 refine Wf U ?_;rfl
theorem wi (C:Mem)(b:Nat)(q:Option Addr)(v:Value)(s:Str)(c:UInt8)(i:q=none∨q=some ⟨b,0,none⟩)(m:s.length<=1000000000):Jog.Fn cx.P 253 [QI b,.int .u8 c.toNat] C [OS b q v,OU v s] fun _ _ a=>∃ h,a=[OS b (some ⟨b,0,none⟩) h,OU h (s++[c])]:=by
 refine Vi func253 17 U3 fun w0=>Vr (L':=[.obj b (.cells ⟨[.pointer q,v]⟩ 344 (0,0)),.arr v 5 1 s.length (u8s s)]) U<|U1 1 [0,1] U<|VB [(1,3)] U fun R d=>Vc U6<|D.call (tM _ b q v i) U (.inr dc_) U6 (Rw _) fl_ fun n _ o _ k=>Vf [0,1] d U ?_;subst k;refine Vr (L':=[.obj b (.cells ⟨[p_ b,v]⟩ 344 (0,0)),.arr v 5 1 s.length (u8s s)]) U<|Va 4 U fun R d=>Vj ag U9<|Vc U6<|Vy [[.int .u8 c.toNat]] U12 fun p _ _ l=>VF (j:=1) U11 l U ax (by simp only[Rp];omega) fl_ fun e f g=>Ve 2 U<|Vk (j:=1) U12<|V9 [] trivial (d _ _ _ U ?_);refine U1 1 [4] U<|G.perm (L':=[.obj b (.cells ⟨[p_ b,.slice e f g]⟩ 344 (0,0)),.arr (.slice e f g) 5 1 (s.length+1) (u8s s++[Value.int .u8 c.toNat])]) (Rw _)<|Vo (VM U U ?_);exact⟨.slice e f g,by simp[OU,u8s]⟩
theorem kF (C:Mem)(b:Nat)(q:Option Addr)(v:Value)(s t:Str)(e:q=none∨q=some ⟨b,0,none⟩)(g:s.length+t.length<=1000000000):Jog.Fn cx.P 256 [QI b,ae t] C [OS b q v,OU v s] fun _ _ a=>∃ d,a=[OS b (some ⟨b,0,none⟩) d,OU d (s++t)]:=by
 refine Vi func256 19 U3 fun w0=>Vr (L':=[.obj b (.cells ⟨[.pointer q,v]⟩ 344 (0,0)),.arr v 5 1 s.length (u8s s)]) U<|U1 2 [0,1] U<|VB [(1,3)] U fun R c=>Vc U6<|D.call (tM _ b q v e) U (.inr dc_) U6 (Rw _) fl_ fun h _ i _ f=>Vf [0,1] c U ?_;subst f;refine Vr (L':=[.obj b (.cells ⟨[p_ b,v]⟩ 344 (0,0)),.arr v 5 1 s.length (u8s s)]) U<|Va 4 U fun R c=>Vj ag U9<|Vc U6<|Xi (j:=1) U U U U U U U U U U U U U U U om_ fl_ fun A2 n2 c2=>Ve 2 U<|Vk (j:=1) U12<|Vf [1] c U<|U1 4 [4,5] U<|G.perm (L':=[.obj b (.cells ⟨[p_ b,.slice A2 n2 c2]⟩ 344 (0,0)),.arr (.slice A2 n2 c2) 5 1 (s.length+t.length) (u8s s++t.map fun b=>Value.int .u8 b.toNat)]) (Rw _)<|Vo (VA U3 ?_);exact⟨.slice A2 n2 c2,by simp[OU,u8s]⟩
theorem EY (C:Mem)(b:Nat)(q:Option Addr)(v:Value)(s:Str)(a:s≠[])(g:s.length<=1000000000):Jog.Fn cx.P 257 [QI b] C [OS b q v,OU v s] fun u _ c=>u=ae s/\c=[]:=by
 refine Vi func257 14 U3 fun w0=>Vr (L':=[.obj b (.cells ⟨[.pointer q,v]⟩ 344 (0,0)),.arr v 5 1 s.length (u8s s)]) U<|G.form af (fun d h=>?_);have i:=Sc.2 a;rcases d with⟨h1,h2⟩|⟨g0,c0,rfl,k,l⟩
 ·omega
 exact U1 1 [0] U<|Vv [0,1,2,3,4,5,6,7,8,9,10,11] [(4,0)] U kr_ fun R m f=>Ve 3 U<|Vj ag U9<|Xg U U U U U om_ U U<|Ve 3 U<|Vj ag U9<|Vc U6<|Xf (j:=1) (e:=5) U U U U kr_ kr_ U U U a om_ fl_<|C6 1 [2] f U<|Vg U2<|⟨U,U⟩
def cP (x:Nat):List Value:=[.int .u64 x]
theorem eL (x:Nat):(cP x).length=1:=rfl
def NineC (C:Mem)(v:Value)(n:Nat):Prop:=∃ l,zg l/\bC l=n/\Sl C 1 v (l.map cP)
theorem NineC.mono {C D:Mem}{v:Value}{n:Nat}(h:NineC C v n)(a:C.le D):NineC D v n:=by
 obtain⟨l,h1,h2,h3⟩:=h;exact⟨l,h1,h2,h3.mono a⟩
theorem NineC.m_ {D:Mem}(h:NineC C v n)(a:C.le D:=by exact mup):NineC D v n:=NineC.mono h a
theorem BJ (C:Mem)(v:Value)(l:List Nat)(d:Sl C 1 v (l.map cP)):Pur cx.P 252 [v] C fun u f=>Sl f 1 u ((Fm l).map cP):=by
 obtain⟨p,c0,rfl,q,_⟩:=id d;simp only[au]at d q⊢;refine Vi func252 21 U3 fun w0=>U1 1 [0] U<|G.loop (fun fr f r s=>∃ (k:Nat)(A:Option Addr)(c:Nat),(k<=l.length/\Sl f 1 (.slice A k c) ((l.take k).map cP)/\nT l l.length=nT l k)/\fr=[(0,[],.slice A k c)]/\r=[]/\s=k+1) (hn_ [0] U) ⟨l.length,p,c0,⟨Ro _,by rw[Rz];exact d,U⟩,U,U,U⟩ (fun fr F H m _ t=>?_);obtain⟨k,A,c,⟨I,hs,i⟩,rfl,rfl,rfl⟩:=t;obtain⟨_,J,w,x,_⟩:=id hs;have K:=mx_
 have L:k<=c:=by
  rw[au,RE]at x;injection w with h1 h2 h3;omega
 have y:0<k->((l.take k).map cP)[((k:Int)-1).toNat]?=some (cP (g9 l (k-1))):=fun h=>by
  rw[show((k:Int)-1).toNat=k-1 by omega,Rr,Sg,aM om_,ai (by omega:k-1<l.length)];unfold g9;rw[am,ai (by omega:k-1<l.length)];rfl
 refine Va 7 U fun R g=>Vh _ U U6<|D.index U10 (fun n=>⟨hs,(by have h:decide ((0:Int)<(k:Int))=true:=n.1;simp at h;omega),y (by have h:decide ((0:Int)<(k:Int))=true:=n.1;simp at h;omega)⟩) fl_ U fun M z=>VE U6 z U3<|Vc U6<|Vz U8<|Vf [0,14] g U<|G.cd (fun b=>?_) fun b=>?_
 ·have a:0<k/\g9 l (k-1)=0:=by
   have:(0:Int)<(k:Int)/\((g9 l (k-1):Nat):Int)=0:=by simpa using b
   omega
  refine Va 3 U fun R g=>VI (((k-1:Nat):Int)) U4 om_ om_ om_ U2<|VV 0 (k-1) c U12 (fun _=>⟨.inl ⟨U,U⟩,.inr ⟨_,U⟩,.inl ⟨U,U⟩,by omega,by omega,Ro _⟩) U2<|C6 1 [0] g U ?_;have o:=Sl.sub hs (l:=0) (h:=k-1) (m:=c) (Rv _) ap om_ (Ro _);have B:(((l.take k).map cP).take (k-1)).drop 0=(l.take (k-1)).map cP:=by
   rw[SE,<- TG,Uk,Sp om_]
  rw[B]at o;have E:nT l l.length=nT l (k-1):=by
   rw[i];obtain⟨j,rfl⟩:∃ j,k=j+1:=⟨k-1,by omega⟩;simp only[TH]at a⊢;rw[nT,aM];unfold g9 at a;rw[am,ai om_]at a;rw[ai om_];exact congrArg some a.2
  refine Vn (m':=k-1+1) om_ mup (hn_ [0] U) ⟨k-1,_,c,⟨by omega,o.mono mup,E⟩,U,U,U⟩
 have a:¬ (0<k/\g9 l (k-1)=0):=fun hh=>by
  have h1:(decide ((0:Int)<(k:Int)) && (((g9 l (k-1):Nat):Int) == 0))=true:=by
   rw[hh.2];simp;omega
  rw[h1]at b;cases b
 refine U1 2 [2] U<|Vg U2<|⟨U, ?_⟩;have e:nT l k=k:=by
  cases k with
 |zero=>rfl
 |succ j =>
   simp only[TH]at a;rw[nT,aF];intro h;refine a ⟨by omega, ?_⟩;unfold g9;rw[am,h];rfl
 unfold Fm;rw[i,e];exact hs
theorem gF (C:Mem)(v:Value)(l:List Nat)(b:l.length=n):Jog.Fn cx.P 252 [v] C [.arr v 285 1 n (l.map cP).flatten] fun u a c=>c=[]/\Sl a 1 u ((Fm l).map cP) :=
 Jog.Fn.give (l.map cP) kr_ (by intro r hr;obtain⟨y,_,rfl⟩:=Rs.1 hr;rfl) (by rw[au,b]) (fun a _ hs=>BJ a v l hs)
def jW (m n:Nat):Int:=if m<n then -1 else if n<m then 1 else 0
theorem jl :jW m n<0 ↔ m<n:=by unfold jW;split <;> (try split) <;> omega
theorem GS :0<jW m n ↔ n<m:=by unfold jW;split <;> (try split) <;> omega
theorem GR (C:Mem)(w z:Value)(a b:List Nat)(d:Sl C 1 w (a.map cP))(f:Sl C 1 z (b.map cP))(n:zg a)(o:zg b):Gives cx.P 221 [w,z] C (i_ (jW (bC a) (bC b))):=by
 have Z:=mx_
 obtain⟨F,c0,rfl,H,aa,_⟩:=id d;obtain⟨I,J,rfl,K,ab,_⟩:=id f;simp only[au]at d f H K⊢;refine Vi func221 41 U3 fun w0=>U1 1 [0,1] U<|U1 5 [0,1,10] U<|G.cd (fun g=>?_) fun g=>?_
 ·have ac:a.length≠b.length:=fun e=>by
   rw[e]at g;simp at g
  refine U1 5 [15] U<|G.cd (fun p=>?_) fun p=>?_
  ·have q:a.length<b.length:=by
    have:(a.length:Int)<b.length:=by simpa using p
    omega
   exact U1 1 [4] U<|Vg U2<|⟨by rw[show jW (bC a) (bC b)=-1 from aM (uW n.1 o q)],U⟩
  have q:b.length<a.length:=by
   have:¬ (a.length:Int)<b.length:=by simpa using p
   omega
  have r:=uW o.1 n q;exact U1 1 [4] U<|Vg U2<|⟨by rw[show jW (bC a) (bC b)=1 from by unfold jW;rw[aF om_,aM r]],U⟩
 have s:a.length=b.length:=by
  have:(a.length:Int)=b.length:=by simpa using g
  omega
 refine Va 2 U fun R c=>Vh _ U U6<|C6 1 [0,1,5] c U<|G.loop (fun fr C' L M=>∃ (k:Nat),(k<=a.length/\a.drop k=b.drop k)/\fr=[(0,[],.slice F a.length c0),(1,[],.slice I b.length J),(5,[],i_ ((k:Int)-1))]/\L=[]/\M=k+1) (hn_ [0,1,5] U) ⟨a.length,⟨Ro _,by rw[SA,s,SA]⟩,U,U,U⟩ (fun fr ad ae m _ N=>?_);obtain⟨k,⟨hk,i⟩,rfl,rfl,rfl⟩:=N;refine U1 2 [0,1,5,20] U<|G.cd (fun t=>?_) fun t=>?_
 ·have A:0<k:=by
   have:(0:Int)<=(k:Int)-1:=by simpa using t
   omega
  obtain⟨j,rfl⟩:∃ j,k=j+1:=⟨k-1,by omega⟩;obtain⟨x,l⟩:∃ x,a[j]?=some x:=⟨a[j],ai om_⟩;obtain⟨y,hy⟩:∃ y,b[j]?=some y:=⟨b[j],ai om_⟩;have B:(a.map cP)[(((j+1:Nat):Int)-1).toNat]?=some (cP x):=by
   rw[show(((j+1:Nat):Int)-1).toNat=j by omega,Rr,l];rfl
  have D:(b.map cP)[(((j+1:Nat):Int)-1).toNat]?=some (cP y):=by
   rw[show(((j+1:Nat):Int)-1).toNat=j by omega,Rr,hy];rfl
  refine Vv [0,1,2,3,4,5,6,7,8] [] U kr_ fun R O c=>Ve 2 U<|Vq d.m_ U10 om_ B fl_ fun af Q=>Vb Q U8<|Ve 2 U<|Vq f.m_ U10 om_ D fl_ fun ag S=>Vb S U8<|C6 1 [0,1,5,31] c U<|G.cd (fun u=>?_) fun u=>?_
  ·have E:x≠y:=fun h=>by
    subst h;simp at u
   refine Vv [0,1,2,3,4,5,6,7,8] [] U kr_ fun R O c=>Ve 2 U<|Vq d.m_ U10 om_ B fl_ fun ah T=>Vb T U8<|Ve 2 U<|Vq f.m_ U10 om_ D fl_ fun aj V=>Vb V U8<|C6 1 [40] c U<|G.cd (fun v=>?_) fun v=>?_
   ·have E:x<y:=by
     have:(x:Int)<y:=by simpa using v
     omega
    exact U1 1 [4] U<|Vg U2<|⟨by rw[show jW (bC a) (bC b)=-1 from aM (MO n.1 s l hy E i)],U⟩
   have W:y<x:=by
    have:¬ (x:Int)<y:=by simpa using v
    omega
   have r:=MO o.1 s.symm hy l W i.symm;exact U1 1 [4] U<|Vg U2<|⟨by rw[show jW (bC a) (bC b)=1 from by unfold jW;rw[aF om_,aM r]],U⟩
  have X:x=y:=by
   have:(x:Int)=y:=by simpa using u
   omega
  refine Va 1 U fun R c=>Vh _ U U6<|C6 1 [0,1,5] c U ?_;rw[show((j+1:Nat):Int)-1-1=(j:Int)-1 by omega];refine Vn (m':=j+1) om_ mup (hn_ [0,1,5] U) ⟨j,⟨by omega,by
   rw[RP (by omega:j<a.length),RP (by omega:j<b.length),i,(aJ.1 l).2,(aJ.1 hy).2,X]⟩,rfl,rfl,rfl⟩
 have A:k=0:=by
  have:¬ (0:Int)<=(k:Int)-1:=by simpa using t
  omega
 subst A;refine U1 1 [4] U<|Vg U2 ?_;have Y:a=b:=by simpa using i
 subst Y;exact⟨by rw[show jW (bC a) (bC a)=0 from by unfold jW;rw[aF om_,aF om_]],U⟩
theorem ym (h:i<l.length):l[i]?=some (g9 l i):=by rw[ai h,Ak (ai h)]
theorem jv (h:i<l.length):(l.map cP)[i]?=some (cP (g9 l i)):=by rw[Rr,ym h];rfl
theorem My (h:l.length<=i):g9 l i=0:=by
 unfold g9;rw[am,Rx h];rfl
theorem B9v:B9=1000000000:=rfl
theorem NP (C:Mem)(E F:Value)(a b:List Nat)(q:Sl C 1 E (a.map cP))(r:Sl C 1 F (b.map cP))(H:Dig9 a)(I:Dig9 b)(O:a.length<=10000000)(Q:b.length<=10000000) :
  Pur cx.P 220 [E,F] C fun u k=>NineC k u (bC a+bC b):=by
 obtain⟨A0,c0,rfl,_⟩:=id q;obtain⟨B0,d0,rfl,_⟩:=id r;simp only[au]at q r⊢;have hB:=B9v;refine Vi func220 53 U3 fun w0=>U1 1 [0,1] U<|U1 5 [0,1,13] U<|G.cut (fun fr k l o=>∃ (e lb:List Nat)(A:Option Addr)(c:Nat)(B:Option Addr)(d:Nat),(Sl k 1 (.slice A e.length c) (e.map cP)/\Sl k 1 (.slice B lb.length d) (lb.map cP)/\lb.length<=e.length/\bC e+bC lb=bC a+bC b/\Dig9 e/\Dig9 lb/\e.length<=10000000)/\fr=[(0,[],.slice A e.length c),(1,[],.slice B lb.length d)]/\l=[]) ?_ (fun fr _ ai o _ p=>?_)
 ·refine G.cd (fun t=>?_) fun t=>?_
  ·have S:a.length<b.length:=by
    have:(a.length:Int)<b.length:=by simpa using t
    omega
   refine U1 4 [0,1] U<|Vp 0 l_ (hn_ [0,1] U) ⟨b,a,_,_,_,_,⟨r.mono mup,q.mono mup,by omega,by omega,I,H,Q⟩,U,U⟩
  have S:¬ a.length<b.length:=fun h=>by
   have:(a.length:Int)<b.length:=by omega
   simp[this]at t
  refine Vp 0 l_ (hn_ [0,1] U) ⟨a,b,_,_,_,_,⟨q.mono mup,r.mono mup,by omega,U,H,I,O⟩,U,U⟩
 obtain⟨e ,lb ,A ,c ,B ,d,⟨T,V,W,X,Y,Z,aj⟩,rfl,rfl⟩:=p;refine Va 2 U fun R g=>Vh _ U U6<|V5 U9 (Rv _) (by show 8*(e.length+1)<=281474976710656;omega) y_ fl_ fun ak=>C6 1 [0,1,5] g U<|U1 1 [0,1,5,6] U<|U1 3 [1,5,6,20,21,22] U<|G.loop (fun fr k l o=>∃ (i:Nat)(out:List Nat)(f:Nat)(w:Value),(i<=e.length/\out.length=i/\Dig9 out/\f<=1/\bC out+B9 ^ i*f=bC (e.take i)+bC (lb.take i))/\fr=[(1,[],.slice B lb.length d),(5,[],w),(6,[],.int .u64 f),(20,[],.slice A e.length c),(21,[],i_ e.length),(22,[],i_ i)]/\l=[.arr w 285 1 i (out.map cP).flatten]/\o=e.length-i) (hn_ [1,5,6,20,21,22] U) ⟨0,[],0,_,⟨Rv _,U,(fun x hx=>(by cases hx)),by omega,U⟩,U,U,U⟩ (fun fr al am m _ p=>?_);obtain⟨i,out,f,w,⟨hi,s,J,K,L⟩,rfl,rfl,rfl⟩:=p;refine U1 1 [1,5,6,20,21,22,23] U<|G.cd (fun v=>?_) fun v=>?_
 ·have y:i<e.length:=by simpa using v
  have aa:=lj Y i;have ab:=lj Z i;refine Va 1 U fun R g=>Vq T.m_ U10 om_ (jv (i:=i) y) fl_ fun an ac=>Vb ac U8<|C6 2 [1,5,6,7,8,20,21,22] g U<|Va 2 U fun R g=>D.int (((f+g9 e i:Nat):Int)) U4 g_ U2<|C6 1 [1,5,6,7,20,21,22] g U<|U1 4 [1,5,6,7,20,21,22,33] U<|G.cut (fun fr k l o=>(True)/\fr=[(1,[],.slice B lb.length d),(5,[],w),(6,[],.int .u64 ((f+g9 e i+g9 lb i:Nat):Int)),(20,[],.slice A e.length c),(21,[],i_ e.length),(22,[],i_ i)]/\l=[.arr w 285 1 i (out.map cP).flatten]) ?_ (fun fr _ ao o _ p=>?_)
  ·refine G.cd (fun z=>?_) fun z=>?_
   ·have ad:i<lb.length:=by simpa using z
    refine Va 3 U fun R g=>Vq V.m_ U10 om_ (jv (i:=i) ad) fl_ fun ap ae=>Vb ae U8<|D.int (((f+g9 e i+g9 lb i:Nat):Int)) U4 g_ U2<|C6 1 [1,5,6,20,21,22] g U<|Vp 0 l_ (hn_ [1,5,6,20,21,22] U) ⟨trivial,U,U⟩
   have hz:g9 lb i=0:=My (by have h:¬ i<lb.length:=(by simpa using z);omega);refine Vp 0 l_ (hn_ [1,5,6,20,21,22] U) ⟨trivial,by rw[hz];rfl,U⟩
  obtain⟨aq,rfl,rfl⟩:=p;refine Va 2 U fun R g=>VW (f+g9 e i+g9 lb i) (B9) U6 om_ U2<|Vy [cP ((f+g9 e i+g9 lb i) % B9)] U12 fun ar _ _ af=>D.append (j:=0) U11 af U ax (by show(i+1)*8<=_;omega) fl_ fun M=>C6 1 [1,5,6,20,21,22] g U<|Va 1 U fun R g=>V7 (f+g9 e i+g9 lb i) (B9) U6 om_ (.inr ⟨U,by omega⟩) U2<|C6 1 [1,5,6,20,21,22] g U<|Vd fun R g=>Vh _ U U6<|C6 1 [1,5,6,20,21,22] g U ?_;have N:f+g9 e i+g9 lb i=g9 e i+g9 lb i+f:=by omega
  refine Vr (L':=[.arr M 285 1 (i+1) ((out++[(g9 e i+g9 lb i+f) % B9]).map cP).flatten]) (by rw[N];simp[cP]) ?_;rw[N];refine Vn (m':=e.length-(i+1)) om_ mup (hn_ [1,5,6,20,21,22] U) ⟨i+1,out++[(g9 e i+g9 lb i+f) % B9],(g9 e i+g9 lb i+f) / B9,M,⟨by omega,by simp[s],J.snoc (R9 _ dc_),IG aa ab K,IT s L⟩,U,U,U⟩
 have y:i=e.length:=by
  have:¬ i<e.length:=by simpa using v
  omega
 refine VB [(4,3)] U fun R g=>Ve 2 U<|Vy [cP f] U12 fun av _ _ ag=>D.append (j:=0) U11 ag U ax (by show(i+1)*8<=_;omega) fl_ fun aw=>D.call (gF _ _ (out++[f]) (n:=i+1) (by simp[s])) U (.inr dc_) U6 (by rw[R3,R4];exact Rw _) fl_ (fun ay _ az _ ah=>?_);obtain⟨rfl,hu⟩:=ah;refine C6 1 [4] g U<|Vg U2<|⟨U,Fm (out++[f]),iH (J.snoc (Sk K dc_)), ?_,hu⟩;rw[iG,iW,s,L,y,Rz,RN W,X]
theorem Kx (C:Mem)(H I:Value)(a b:List Nat)(q:Sl C 1 H (a.map cP))(r:Sl C 1 I (b.map cP))(L:Dig9 a)(J:Dig9 b)(ac:a.length<=10000000)(M:b.length<=a.length)(ad:bC b<=bC a) :
  Pur cx.P 222 [H,I] C fun u k=>NineC k u (bC a-bC b):=by
 obtain⟨s,c0,rfl,_⟩:=id q;obtain⟨t,v,rfl,_⟩:=id r;simp only[au]at q r⊢;have N:=B9v;refine Vi func222 45 U3 fun w0=>U1 1 [0,1] U<|Va 2 U fun R d=>V5 U9 (Rv _) (by show 8*a.length<=281474976710656;omega) y_ fl_ fun ae=>C6 1 [0,1,5] d U<|U1 1 [0,1,5,6] U<|U1 3 [1,5,6,13,14,15] U<|G.loop (fun fr k e f=>∃ (i:Nat)(out:List Nat)(c:Nat)(w:Value),(i<=a.length/\out.length=i/\Dig9 out/\c<=1/\bC out+bC (b.take i)=bC (a.take i)+B9 ^ i*c)/\fr=[(1,[],.slice t b.length v),(5,[],w),(6,[],.int .u64 c),(13,[],.slice s a.length c0),(14,[],i_ a.length),(15,[],i_ i)]/\e=[.arr w 285 1 i (out.map cP).flatten]/\f=a.length-i) (hn_ [1,5,6,13,14,15] U) ⟨0,[],0,_,⟨Rv _,U,(fun x O=>(by cases O)),by omega,U⟩,U,U,U⟩ (fun fr af ag m _ g=>?_);obtain⟨i,out,c,w,⟨hi,l,y,z,o⟩,rfl,rfl,rfl⟩:=g;refine U1 1 [1,5,6,13,14,15,16] U<|G.cd (fun A=>?_) fun A=>?_
 ·have p:i<a.length:=by simpa using A
  have Q:=lj L i;have S:=lj J i;refine Va 1 U fun R d=>Vq q.m_ U10 om_ (jv (i:=i) p) fl_ fun ah T=>Vb T U8<|C6 2 [1,5,6,7,8,13,14,15] d U<|U1 2 [1,5,7,8,9,13,14,15] U<|U1 4 [1,5,7,8,9,13,14,15,24] U<|G.cut (fun fr k e f=>(True)/\fr=[(1,[],.slice t b.length v),(5,[],w),(8,[],.int .u64 (g9 a i)),(9,[],.int .u64 ((c+g9 b i:Nat):Int)),(13,[],.slice s a.length c0),(14,[],i_ a.length),(15,[],i_ i)]/\e=[.arr w 285 1 i (out.map cP).flatten]) ?_ (fun fr _ ai f _ g=>?_)
  ·refine G.cd (fun B=>?_) fun B=>?_
   ·have V:i<b.length:=by simpa using B
    refine Va 3 U fun R d=>Vq r.m_ U10 om_ (jv (i:=i) V) fl_ fun aj W=>Vb W U8<|D.int (((c+g9 b i:Nat):Int)) U4 g_ U2<|C6 1 [1,5,8,9,13,14,15] d U<|Vp 0 l_ (hn_ [1,5,8,9,13,14,15] U) ⟨trivial,U,U⟩
   have X:g9 b i=0:=My (by have h:¬ i<b.length:=(by simpa using B);omega);refine Vp 0 l_ (hn_ [1,5,8,9,13,14,15] U) ⟨trivial,by rw[X];rfl,U⟩
  obtain⟨ak,rfl,rfl⟩:=g;refine U1 1 [1,5,6,8,9,13,14,15] U<|U1 3 [1,5,6,8,9,13,14,15,33] U<|G.cut (fun fr k e f=>(True)/\fr=[(1,[],.slice t b.length v),(5,[],w),(6,[],.int .u64 ((wg (g9 a i) (g9 b i) c:Nat):Int)),(8,[],.int .u64 ((g9 a i+B9*wg (g9 a i) (g9 b i) c:Nat):Int)),(9,[],.int .u64 ((c+g9 b i:Nat):Int)),(13,[],.slice s a.length c0),(14,[],i_ a.length),(15,[],i_ i)]/\e=[.arr w 285 1 i (out.map cP).flatten]) ?_ (fun fr _ al f _ g=>?_)
  ·refine G.cd (fun E=>?_) fun E=>?_
   ·have F:wg (g9 a i) (g9 b i) c=1:=by
     have:(g9 a i:Int)<((c+g9 b i:Nat):Int):=by simpa using E
     unfold wg;rw[aM om_]
    refine Va 1 U fun R d=>D.int (((g9 a i+B9*1:Nat):Int)) U4 g_ U2<|C6 2 [1,5,6,8,9,13,14,15] d U<|Vp 0 l_ (hn_ [1,5,6,8,9,13,14,15] U) ⟨trivial,by rw[F];rfl,U⟩
   have F:wg (g9 a i) (g9 b i) c=0:=by
    have:¬ (g9 a i:Int)<((c+g9 b i:Nat):Int):=by simpa using E
    unfold wg;rw[aF om_]
   refine Vp 0 l_ (hn_ [1,5,6,8,9,13,14,15] U) ⟨trivial,by rw[F];rfl,U⟩
  obtain⟨am,rfl,rfl⟩:=g;refine Va 3 U fun R d=>?_;have an:wg (g9 a i) (g9 b i) c<=1:=II _ _ _;have Y:c+g9 b i<=g9 a i+B9*wg (g9 a i) (g9 b i) c:=by
   unfold wg;split <;> omega
  refine D.int (((Ih (g9 a i) (g9 b i) c:Nat):Int)) U4 (by rw[IntKind.wrap_u64];unfold Ih;rw[N]at Y⊢;omega) U2<|Vy [cP (Ih (g9 a i) (g9 b i) c)] U12 fun ao _ _ Z=>D.append (j:=0) U11 Z U ax (by show(i+1)*8<=_;omega) fl_ fun K=>C6 1 [1,5,6,13,14,15] d U<|Vd fun R d=>Vh _ U U6<|C6 1 [1,5,6,13,14,15] d U<|Vr (L':=[.arr K 285 1 (i+1) ((out++[Ih (g9 a i) (g9 b i) c]).map cP).flatten]) (by simp[cP])<|Vn (m':=a.length-(i+1)) om_ mup (hn_ [1,5,6,13,14,15] U) ⟨i+1,out++[Ih (g9 a i) (g9 b i) c],wg (g9 a i) (g9 b i) c,K,⟨by omega,by simp[l],y.snoc (OD Q S z),II _ _ _,FS J z l o⟩,U,U,U⟩
 have p:i=a.length:=by
  have:¬ i<a.length:=by simpa using A
  omega
 refine VB [(1,3)] U fun R d=>Vc U6<|D.call (gF _ _ out (n:=i) l) U (.inr dc_) U6 (Rw _) fl_ (fun ap _ aq _ aa=>?_);obtain⟨rfl,hu⟩:=aa;refine C6 1 [4] d U<|Vg U2<|⟨U,Fm out,iH y, ?_,hu⟩;rw[p,Rz,RN M]at o;have h0:=iX y;rw[l,p]at h0;have ab:c=0:=by
  rcases Nat.le_one_iff_eq_zero_or_eq_one.1 z with h|h
  ·exact h
  rw[h,SL]at o;omega
 rw[ab,UZ]at o;rw[iG];omega
abbrev qU (g c n:Nat):Value:=.slice (some ⟨g,0,none⟩) n c
theorem Fp (n:Nat):kQ ([.int .u64 0]:List Value) n=((List.replicate n 0).map cP).flatten:=by
 rw[fe,Uf];rfl
theorem qZ {j z:Nat}(h:i≠j):g9 (l.set i z) j=g9 l j:=by
 unfold g9;rw[am,am,Uo h]
theorem CX (n j:Nat):g9 (List.replicate n 0) j=0:=by
 unfold g9;rw[am,SU];split <;> rfl
theorem Jq (C:Mem)(T V:Value)(a b:List Nat)(w:Sl C 1 T (a.map cP))(y:Sl C 1 V (b.map cP))(ah:Dig9 a)(ai:Dig9 b)(av:a.length<=1000000)(aw:b.length<=1000000) :
  Pur cx.P 190 [T,V] C fun u s=>NineC s u (bC a*bC b):=by
 obtain⟨A,c0,rfl,_⟩:=id w;obtain⟨t,v,rfl,_⟩:=id y;simp only[au]at w y⊢;have hB:=B9v;obtain⟨N,hN⟩:∃ N,a.length+b.length+1=N:=⟨_,rfl⟩;refine Vi func190 79 U3 fun w0=>U1 1 [0,1] U<|Va 4 U fun R d=>VI (((a.length+b.length:Nat):Int)) U4 om_ om_ om_ U2<|VI (((N:Nat):Int)) U4 om_ om_ om_ U2<|V5 U9 (Ro _) (by show 8*N<=281474976710656;omega) y_ fl_ fun f=>C6 1 [0,1,5] d U<|U1 3 [1,5,19,20,21] U<|Vr (L':=[.arr (qU f N N) 285 1 N ((List.replicate N 0).map cP).flatten]) (by rw[<- Fp];rfl)<|G.loop (fun fr s g n=>∃ (i:Nat)(o:List Nat),(i<=a.length/\o.length=N/\Dig9 o/\bC o=bC (a.take i)*bC b/\∀ j,i+b.length<=j->g9 o j=0)/\fr=[(1,[],.slice t b.length v),(5,[],qU f N N),(19,[],.slice A a.length c0),(20,[],i_ a.length),(21,[],i_ i)]/\g=[.arr (qU f N N) 285 1 N (o.map cP).flatten]/\n=a.length-i) (hn_ [1,5,19,20,21] U) ⟨0,List.replicate N 0,⟨Rv _,RX,(fun x l=>by rw[To l];decide),by rw[sr (fun x l=>To l)];simp[bC],fun j _=>CX _ j⟩,U,U,U⟩ (fun fr ax ay m _ p=>?_);obtain⟨i,o,⟨hi,W,X,Y,hz⟩,rfl,rfl,rfl⟩:=p;refine U1 1 [1,5,19,20,21,22] U<|G.cd (fun B=>?_) fun B=>?_
 ·have E:i<a.length:=by simpa using B
  have l:=lj ah i;refine Va 1 U fun R d=>Vq w.m_ U10 om_ (jv (i:=i) E) fl_ fun az aj=>Vb aj U8<|C6 2 [1,5,6,7,19,20,21] d U<|U1 1 [1,5,6,7,8,19,20,21] U<|U1 3 [1,5,6,7,8,19,20,21,26,27,28] U<|G.loop (fun fr s g n=>∃ (k:Nat)(q:List Nat)(c:Nat),(k<=b.length/\q.length=N/\Dig9 q/\c<B9/\bC q+B9 ^ (i+k)*c=bC o+B9 ^ i*(g9 a i*bC (b.take k))/\∀ j,i+b.length<=j->g9 q j=0)/\fr=[(1,[],.slice t b.length v),(5,[],qU f N N),(6,[],i_ i),(7,[],.int .u64 (g9 a i)),(8,[],.int .u64 c),(19,[],.slice A a.length c0),(20,[],i_ a.length),(21,[],i_ i),(26,[],.slice t b.length v),(27,[],i_ b.length),(28,[],i_ k)]/\g=[.arr (qU f N N) 285 1 N (q.map cP).flatten]/\n=b.length-k) (hn_ [1,5,6,7,8,19,20,21,26,27,28] U) ⟨0,o,0,⟨Rv _,W,X,by decide,by simp[bC],hz⟩,U,U,U⟩ (fun fr aA aB m _ p=>?_);obtain⟨k,q,c,⟨hk,F,H,I,J,K⟩,rfl,rfl,rfl⟩:=p;refine U1 1 [1,5,6,7,8,19,20,21,26,27,28,29] U<|G.cd (fun L=>?_) fun L=>?_
  ·have M:k<b.length:=by simpa using L
   have hy:=lj ai k;have Z:=lj H (i+k);have aa:q[i+k]?=some (g9 q (i+k)):=ym om_;have ak:=sU I l hy Z;rw[show B9*B9=1000000000000000000 from rfl]at ak;refine Va 1 U fun R d=>Vq y.m_ U10 om_ (jv (i:=k) M) fl_ fun aC al=>Vb al U8<|C6 2 [1,5,6,7,8,9,10,19,20,21,26,27,28] d U<|Va 4 U fun R d=>VI (((i+k:Nat):Int)) U4 om_ om_ om_ U2<|VD ((i+k)*1) U10 w_ U2<|VT ag U6 (fun _=>(by rw[eh eL aa];rfl)) U2<|Ve 2 U<|D.int (((g9 a i*g9 b k:Nat):Int)) U4 (by rw[<- RW,IntKind.wrap_u64];omega) U2<|D.int (((g9 q (i+k)+g9 a i*g9 b k:Nat):Int)) U4 g_ U2<|D.int (((c+g9 a i*g9 b k+g9 q (i+k):Nat):Int)) U4 g_ U2<|C6 1 [1,5,6,7,8,9,19,20,21,26,27,28] d U<|Va 3 U fun R d=>VI (((i+k:Nat):Int)) U4 om_ om_ om_ U2<|Vc U6<|VW (c+g9 a i*g9 b k+g9 q (i+k)) (B9) U6 om_ U2<|VD ((i+k)*1) U10 w_ U2<|VG (j:=0) U11 (by show(i+k)*1+1<=_;rw[bV eL,F];omega)<|Vf [1,5,6,7,8,19,20,21,26,27,28] d U<|Va 1 U fun R d=>V7 (c+g9 a i*g9 b k+g9 q (i+k)) (B9) U6 om_ (.inr ⟨U,by omega⟩) U2<|C6 1 [1,5,6,7,8,19,20,21,26,27,28] d U<|Vd fun R d=>Vh _ U U6<|C6 1 [1,5,6,7,8,19,20,21,26,27,28] d U<|Vr (L':=[.arr (qU f N N) 285 1 N ((q.set (i+k) ((c+g9 a i*g9 b k+g9 q (i+k)) % B9)).map cP).flatten]) (by rw[<- bM eL _ (by omega:i+k<q.length)];rfl)<|Vn (m':=b.length-(k+1)) om_ mup (hn_ [1,5,6,7,8,19,20,21,26,27,28] U) ⟨k+1,q.set (i+k) ((c+g9 a i*g9 b k+g9 q (i+k)) % B9),(c+g9 a i*g9 b k+g9 q (i+k)) / B9,⟨by omega,by simp[F],H.set (R9 _ dc_),IF I l hy Z,G8 aa U J,fun j r=>by rw[qZ om_];exact K j r⟩,U,U,U⟩
  have M:k=b.length:=by
   have:¬ k<b.length:=by simpa using L
   omega
  refine Va 3 U fun R d=>VI (((i+b.length:Nat):Int)) U4 om_ om_ om_ U2<|C6 1 [1,5,8,11,19,20,21] d U<|G.loop (fun fr s g n=>∃ (m:Nat)(e:List Nat)(c2:Nat),(i+b.length<=m/\m<=i+b.length+1/\e.length=N/\Dig9 e/\c2<B9/\(m=i+b.length+1->c2=0)/\(m=i+b.length->g9 e m=0)/\bC e+B9 ^ m*c2=bC o+B9 ^ i*(g9 a i*bC b)/\∀ j,i+b.length+1<=j->g9 e j=0)/\fr=[(1,[],.slice t b.length v),(5,[],qU f N N),(8,[],.int .u64 c2),(11,[],i_ m),(19,[],.slice A a.length c0),(20,[],i_ a.length),(21,[],i_ i)]/\g=[.arr (qU f N N) 285 1 N (e.map cP).flatten]/\n=2-(m-(i+b.length))) (hn_ [1,5,8,11,19,20,21] U) ⟨i+b.length,q,c,⟨Ro _,by omega,F,H,I,fun h=>by omega,fun _=>K _ (Ro _),by rw[M,Rz]at J;exact J,fun j r=>K j om_⟩,U,U,U⟩ (fun fr aD aE m _ p=>?_);obtain⟨m,e,c2,⟨aF,aG,O,ab,Q,am,an,ac,ad⟩,rfl,rfl,rfl⟩:=p;refine U1 2 [1,5,8,11,19,20,21,60] U<|G.cd (fun h60=>?_) fun h60=>?_
  ·have ae:0<c2:=by
    have:(0:Int)<(c2:Int):=by simpa using h60
    omega
   have ao:m=i+b.length:=by
    rcases RS m (i+b.length+1) with h|h
    ·omega
    have:=am om_;omega
   have S:=an ao;have af:e[m]?=some (g9 e m):=ym om_;refine Va 3 U fun R d=>VD (m*1) U10 w_ U2<|VT ag U6 (fun _=>(by rw[eh eL af];rfl)) U2<|D.int (((c2+g9 e m:Nat):Int)) U4 g_ U2<|C6 1 [1,5,8,11,19,20,21] d U<|Va 3 U fun R d=>VW (c2+g9 e m) (B9) U6 om_ U2<|VD (m*1) U10 w_ U2<|VG (j:=0) U11 (by show m*1+1<=_;rw[bV eL,O];omega)<|Vf [1,5,8,11,19,20,21] d U<|Va 1 U fun R d=>V7 (c2+g9 e m) (B9) U6 om_ (.inr ⟨U,by omega⟩) U2<|C6 1 [1,5,8,11,19,20,21] d U<|Va 1 U fun R d=>Vh _ U U6<|C6 1 [1,5,8,11,19,20,21] d U ?_;have ap:(c2+g9 e m) % B9=c2:=by rw[S,S7];exact Um Q
   have aq:(c2+g9 e m) / B9=0:=by rw[S,S7];exact TZ Q
   refine Vr (L':=[.arr (qU f N N) 285 1 N ((e.set m c2).map cP).flatten]) (by rw[ap,<- bM eL _ (by omega:m<e.length)];rfl) ?_;rw[aq];refine Vn (m':=2-(m+1-(i+b.length))) om_ mup (hn_ [1,5,8,11,19,20,21] U) ⟨m+1,e.set m c2,0,⟨by omega,by omega,by simp[O],ab.set Q,by decide,fun _=>rfl,fun h=>by omega,by
    have h1:=ui (z:=c2) af;rw[S]at h1;omega,fun j r=>by rw[qZ om_];exact ad j r⟩,rfl,rfl,rfl⟩
  have ae:c2=0:=by
   have:¬ (0:Int)<(c2:Int):=by simpa using h60
   omega
  refine Vd fun R d=>Vh _ U U6<|C6 1 [1,5,19,20,21] d U<|Vn (m':=a.length-(i+1)) om_ mup (hn_ [1,5,19,20,21] U) ⟨i+1,e,⟨by omega,O,ab,by
   rw[ae,UZ,S7]at ac;rw[nl,S2,<- Y,S6];exact ac,fun j r=>ad j om_⟩,U,U,U⟩
 have E:i=a.length:=by
  have:¬ i<a.length:=by simpa using B
  omega
 refine VB [(1,3)] U fun R d=>Vc U6<|D.call (gF _ _ o W) U (.inr dc_) U6 (Rw _) fl_ (fun aH _ aI _ ar=>?_);obtain⟨rfl,hu⟩:=ar;refine C6 1 [4] d U<|Vg U2<|⟨U,Fm o,iH X, ?_,hu⟩;rw[iG,Y,E,Rz]
theorem tP (h:zg l)(a:bC l<B9 ^ m):l.length<=m:=by
 rcases RS m l.length with h1|h1
 ·have h2:=vO h om_;have h3:B9 ^ m<=B9 ^ (l.length-1):=RM dc_ om_;omega
 exact h1
theorem NineC.get (h:NineC C v n)(a:n<B9 ^ m):∃ l,zg l/\bC l=n/\l.length<=m/\Sl C 1 v (l.map cP):=by
 obtain⟨l,h1,h2,h3⟩:=h;exact⟨l,h1,h2,tP h1 (by rw[h2];exact a),h3⟩
theorem NineC.zero (C:Mem):NineC C (.slice none 0 0) 0:=⟨[],⟨(fun x a=>(by cases a)),by simp⟩,rfl,Sl.nil C 1⟩
theorem NineC.form (h:NineC C v n):∃ A m c,v=.slice A m c:=by
 obtain⟨l,_,_,A,c,h,_⟩:=h;exact⟨A,_,c,h⟩
theorem dG (h:m<B9 ^ n)(a:n<=k):m<B9 ^ k:=Sq h (RM dc_ a)
theorem qD (C:Mem)(c:NineC C u m)(d:NineC C v n):Gives cx.P 221 [u,v] C (i_ (jW m n)):=by
 obtain⟨a,h1,h2,h3⟩:=c;obtain⟨b,h4,h5,e⟩:=d;rw[<- h2,<- h5];exact GR C u v a b h3 e h1 h4
theorem Mm (C:Mem)(c:NineC C u m)(d:NineC C v n)(e:m<B9 ^ k)(f:n<B9 ^ k)(i:k<=1000000):Pur cx.P 220 [u,v] C fun w D=>NineC D w (m+n):=by
 obtain⟨a,h1,h2,h3,h4⟩:=c.get e;obtain⟨b,h5,g,j,h⟩:=d.get f;rw[<- h2,<- g];exact NP C u v a b h4 h h1.1 h5.1 om_ om_
theorem uS (C:Mem)(c:NineC C u m)(d:NineC C v n)(e:m<B9 ^ k)(i:n<=m)(j:k<=1000000):Pur cx.P 222 [u,v] C fun w D=>NineC D w (m-n):=by
 obtain⟨a,h1,h2,h3,h4⟩:=c.get e;obtain⟨b,h5,f,g⟩:=d;rw[<- h2,<- f];refine Kx C u v a b h4 g h1.1 h5.1 om_ ?_ om_;rcases RS a.length b.length with h|h
 ·have:=uW h1.1 h5 h;omega
 exact h
theorem FK (C:Mem)(c:NineC C u m)(d:NineC C v n)(e:m<B9 ^ k)(f:n<B9 ^ k)(i:k<=1000000):Pur cx.P 190 [u,v] C fun w D=>NineC D w (m*n):=by
 obtain⟨a,h1,h2,h3,h4⟩:=c.get e;obtain⟨b,h5,g,j,h⟩:=d.get f;rw[<- h2,<- g];exact Jq C u v a b h4 h h1.1 h5.1 om_ om_
theorem wz (C:Mem)(a:Dig9 l)(b:Sl C 1 u (l.map cP)):Pur cx.P 252 [u] C fun w D=>NineC D w (bC l) :=
 (BJ C u l b).mono fun _c _d _e _ ⟨h1,h2⟩=>⟨h1,Fm l,iH a,iG l,h2⟩
theorem zx (C:Mem){d:Nat}(a:NineC C u m)(f:m<B9 ^ k)(g:d<B9)(p:k<=999999):Pur cx.P 279 [u,.int .u64 d] C fun w D=>NineC D w (m*d):=by
 obtain⟨A,n,c,rfl⟩:=a.form;refine Vi func279 10 U3 fun w0=>U1 1 [0,1] U<|Va 2 U fun R h=>Vy [cP d] U12 fun q _ _ i=>VC (wz _ (l:=[d]) (fun x j=>by rw[RK.1 j];exact g) i) U7 fl_ fun r _ _ o=>VC (FK (k:=k+1) _ a.m_ o (dG f om_) (by show d+B9*0<_;rw[SF];have:0<B9 ^ k:=T1 dc_;have h2:=Sa B9 this;omega) om_) U7 fl_ fun s _ _ b=>C6 1 [4] h U<|Vg U2<|⟨U, ?_⟩;have e:bC [d]=d:=by show d+B9*0=d;omega
 rw[e]at b;exact b
open Go Go.Jog Go.RowKit Go.Shelf
attribute [local go_sem] Oper.semAt_some
set_option maxRecDepth 100000 in
theorem Lx (l Bs b off len cap:Nat)(zs:Nat->Int)(hlen:len<1000000)(J:Nat->World->Prop)
  (hJ:∀ k W,J k W->W.cell? ⟨Bs,0,none⟩=some (.slice (some ⟨b,off,none⟩) len cap)/\∀ j,j<len->W.cell? ⟨b,off+j,none⟩=some (.int .u64 (zs j)))
  (hY:∀ k W,J k W->k<len->YieldAt Fence.wide 1 Tryz.prog l #[i_ ((len-1-k:Nat):Int),.int .u64 (zs (len-1-k))] W fun e W'=>e=.returned (.bool true)/\J (k+1) W')
  (W:World) (h0:J 0 W) :
  CallsIn Fence.wide 2 Tryz.prog 297 #[.func (.yield l) #[] #[],p_ Bs] W fun e W'=>(∃ v,e=.returned v)/\J len W':=by
 refine callsIn_of_wp func297 U trivial ?_ U;simp only[Tryz.ntmps297,Tw,RH,R5,Nat.reduceAdd,Nat.reduceSub,UP,UQ,List.push_toArray,List.append_toArray,Tq,Tg];have hBs:=(hJ 0 W h0).1
 gi_wp2
 gi_loopw [3] (fun i wr=>∃ k:Nat,k<=len/\i=i_ ((len:Int)-1-k)/\J k wr) (fun i _=>(intOf i+1).toNat)
 case atStart=>exact⟨0,Rv _,by simp,h0⟩
 case round =>
  obtain⟨k,hk,rfl,hJs⟩:=hrel;obtain⟨hB2,hcx⟩:=hJ k wr hJs;by_cases hlt:k<len
  ·obtain⟨fn,tmps,assign,body,hy,hR⟩:=hY k wr hJs hlt;have hcx':=hcx (len-1-k) om_;have e1:((len-1-k:Nat):Int)=(len:Int)-1-k:=by omega
   rw[e1]at hy
   gi_wp2
   refine hR.mono ?_;rintro e W3 ⟨rfl,hJ3⟩
   gi_wp2
   go_roundw
   case rel=>exact⟨k+1,by omega,by congr 1;omega,hJ3⟩
   case measure=>simp[intOf];omega
  obtain rfl:k=len:=by omega
  gi_wp2
  go_end0
  exact⟨⟨_,U⟩,hJs⟩
set_option maxRecDepth 100000 in
theorem yS (l Bs:Nat)(A:Option Addr)(cap:Nat)(J:Nat->World->Prop)(W:World)(hBs:W.cell? ⟨Bs,0,none⟩=some (.slice A 0 cap))(h0:J 0 W) :
  CallsIn Fence.wide 2 Tryz.prog 297 #[.func (.yield l) #[] #[],p_ Bs] W fun e W'=>(∃ v,e=.returned v)/\J 0 W':=by
 refine callsIn_of_wp func297 U trivial ?_ U;simp only[Tryz.ntmps297,Tw,RH,R5,Nat.reduceAdd,Nat.reduceSub,UP,UQ,List.push_toArray,List.append_toArray,Tq,Tg]
 gi_wp2
 gi_loopw [3] (fun i wr=>i=i_ (-1)/\J 0 wr) (fun _ _=>0)
 case atStart=>exact⟨rfl,h0⟩
 case round =>
  obtain⟨rfl,hJs⟩:=hrel
  gi_wp2
  go_end0
  exact⟨⟨_,U⟩,hJs⟩
def IN (xs:List Nat):List (Value × Value):=(List.range xs.length).map fun k=>(.int .i64 ((xs.length-1-k:Nat):Int),.int .u64 ((xs.getD (xs.length-1-k) 0:Nat):Int))
theorem fY (a:List Nat):(IN a).length=a.length:=by simp[IN]
theorem vQ {a:List Nat}(h:k<a.length):(IN a)[k]?=some (i_ ((a.length-1-k:Nat):Int),.int .u64 ((a.getD (a.length-1-k) 0:Nat):Int)):=by
 simp[IN,h]
theorem tQ (C:Mem)(b t:Nat)(v:Value)(a:List Nat)(q:C b=some (.cells ⟨[v]⟩ t (0,0)))(r:Sl C 1 v (a.map fun n:Nat=>[Value.int .u64 (n:Int)]))(s:a.length<1000000) :
  QK Tryz.prog 297 #[p_ b] C (IN a):=by
 intro l J W e D u h0;obtain⟨A,d,rfl,E,_,_,f⟩:=r;rw[au] at *;have g:∀ {W:World}{k:Nat},J k W->W.cell? ⟨b,0,none⟩=some (.slice A a.length d):=fun {W k} c=>by
  simp[World.cell?,e k W c b _ q]
 rw[fY];rcases Sz a.length with h|h
 ·have h1:=g h0;rw[h]at h1⊢;exact yS l b A d J W h1 h0
 obtain⟨w,rfl,i,_⟩:=f 0 _ (ai (by simpa using h));obtain⟨m,x,F⟩:=w;simp only at i;subst i;refine Lx l b m x a.length d (fun j=>((a.getD j 0:Nat):Int)) s J (fun k W c=>⟨g c,fun j y=>?_⟩) (fun k W c z=>u k _ W c (vQ z)) W h0;have h3:(a.map fun n:Nat=>[Value.int .u64 (n:Int)])[j]?=some [Value.int .u64 ((a.getD j 0:Nat):Int)]:=by
  simp[y]
 obtain⟨a2,h4,_,h5⟩:=f j _ h3;cases h4
 have o:=h5 0 _ rfl;rw[Addr.add_lit]at o;obtain⟨_,blk,G,fz,p,B⟩:=o;simp only at p;simp only[World.cell?,e k W c m _ p];simpa using B
theorem Dw (C:Mem)(A:Option Addr)(n c:Nat):Pur cx.P 254 [.slice A n c] C fun r a=>∃ b,r=.func (.func 297) #[] #[p_ b]/\a b=some (.cells ⟨[.slice A n c]⟩ 271 (0,0)):=by
 exact Vi func254 4 U3 fun w0=>Vd fun R d=>Vs U6 fun f=>C6 1 [1] d U<|U1 2 [2] U<|G.freeze 0 U fun g h e=>Vg U2<|⟨U,_,U,e⟩
abbrev qW (b n c:Nat):Value:=.slice (some ⟨b,0,none⟩) n c
theorem tj (C:Mem)(s:Str)(c:UInt8):Gives cx.P 232 [ae s,.int .u8 c.toNat] C (i_ (Lib.indexByte s c)):=by
 have h:=Gives.ofCalls (f:=232) (args:=[ae s,.int .u8 c.toNat]) (P:=cx.P) kr_ (fun w=>Any.stringslite_IndexByte Tryz.idxByte ⟨s.toArray⟩ (c.toNat:Int) w) C;simpa using h
theorem HD (C:Mem)(s:Str)(c:UInt8):Gives cx.P 275 [ae s,ae [c]] C (i_ (Lib.indexByte s c)):=by
 refine Vi func275 143 U3 fun w0=>U1 1 [0,1] U<|U1 3 [0,1,5] U<|Va 6 U fun R a=>VH U8<|C6 1 [0,1,5,16] a U<|G.cd (fun b=>?_) fun b=>?_
 ·refine U1 1 [4] U<|Vg U2<|⟨?_,U⟩;have h:([c]:Str)=s:=by simpa using b
  subst h;simp[Lib.indexByte]
 refine U1 3 [0,1,5,24] U<|G.cd (fun d=>?_) fun d=>?_
 ·exact Va 2 U fun R a=>VN U8 (fun _=>⟨by omega,(rfl:([c]:Str)[(0:Int).toNat]?=some c)⟩) U2<|Vl (tj _ s c) U7<|C6 1 [4] a U<|Vg U2<|⟨U,U⟩
 exact absurd d ak
theorem OI (C:Mem)(s:Str)(c:UInt8)(g:s.length<1000000):Gives cx.P 223 [ae s,ae [c]] C (.tuple #[ae (iS c s).1,ae ((iS c s).2.getD []),.bool (iS c s).2.isSome]):=by
 refine Vi func223 23 U3 fun w0=>U1 3 [0,1] U<|Va 2 U fun R b=>Vl (HD _ s c) U7<|C6 1 [0,1,7] b U<|U1 2 [0,1,7,12] U<|G.cd (fun d=>?_) fun d=>?_
 ·have h0:0<=Lib.indexByte s c:=by simpa using d
  obtain⟨a,post,h1,h2,h3⟩:=vD h0;have h:s.length=a.length+1+post.length:=by rw[h2];simp;omega
  rw[h1,h3];refine Vv [0,1,2,3,4,5,6,7,8,9,10,11] [] U kr_ fun R i b=>Ve 2 U<|V0 0 a.length U9 (fun _=>⟨.inl ⟨U,U⟩,.inr ⟨_,U⟩,.inl ⟨U,U⟩,by omega,by omega,Ro _⟩) U2<|Ve 4 U<|VI (((a.length+1:Nat):Int)) U4 ak om_ om_ U2<|V0 (a.length+1) s.length U9 (fun _=>⟨.inr ⟨_,U⟩,.inl ⟨U,U⟩,.inl ⟨U,U⟩,by omega,Ro _,Ro _⟩) U2<|C6 3 [4,5,6] b U<|Vo (G.dropAll (V2 U4 ?_));refine⟨?_,U⟩;have e:(s.take a.length).drop 0=a:=by rw[h2];simp
  have f:(s.take s.length).drop (a.length+1)=post:=by rw[Rz,h2];simp
  rw[e,f];rfl
 have h0:¬ 0<=Lib.indexByte s c:=by simpa using d
 rw[ry h0];refine U1 4 [4,5,6] U<|Vo (G.dropAll (V2 U4 ?_));exact⟨U,U⟩
theorem MK (C:Mem)(s:Str)(c:UInt8)(a:s.length<1000000):Gives cx.P 159 [ae s,ae [c]] C (.tuple #[ae (iS c s).1,ae ((iS c s).2.getD []),.bool (iS c s).2.isSome]):=by
 refine Vi func159 13 U3 fun w0=>U1 3 [0,1] U<|Va 2 U fun R b=>Vl (OI _ s c a) U7<|C6 6 [4,5,6] b U<|Vo (G.dropAll (V2 U4 ?_));exact⟨U,U⟩
theorem Ai (C:Mem)(s:Str)(c:UInt8):Gives cx.P 294 [ae s,ae [c]] C (.bool (ck c s).2):=by
 refine Vi func294 18 U3 fun w0=>U1 1 [0,1] U<|Va 9 U fun R d=>V0 0 1 U9 (fun e=>⟨.inl ⟨U,U⟩,.inr ⟨_,U⟩,.inl ⟨U,U⟩,by omega,(by have h:decide ((1:Int)<=(s.length:Int))=true:=e.1;simp at h;omega),Ro _⟩) U2<|Ve 2 U<|Vz U8<|C6 1 [4] d U<|Vg U2<|⟨?_,U⟩;cases s with
|nil=>rfl
|cons b s =>
  have h1:decide ((1:Int)<=((b::s).length:Nat))=true:=by simp;omega
  unfold ck;by_cases a:b=c
  ·subst a;simp;omega
  simp[a]
theorem Lg (C:Mem)(s:Str)(c:UInt8):Gives cx.P 276 [ae s,ae [c]] C (.tuple #[ae (ck c s).1,.bool (ck c s).2]):=by
 refine Vi func276 15 U3 fun w0=>U1 2 [0,1] U<|Va 2 U fun R d=>Vl (Ai _ s c) U7<|C6 1 [0,1,9] d U<|G.cd (fun a=>?_) fun a=>?_
 ·have h:¬ s.head?=some c:=fun h=>by unfold ck at a;rw[aM h]at a;cases a
  refine U1 3 [4,5] U<|Vo (G.dropAll (VA U3 ?_));unfold ck;rw[aF h];exact⟨U,U⟩
 have h:s.head?=some c:=RT fun h=>by unfold ck at a;rw[aF h]at a;cases a
 have e:1<=s.length:=by cases s with
 |nil=>cases h
 |cons b s=>simp
 refine Va 3 U fun R d=>V0 1 s.length U9 (fun _=>⟨.inr ⟨_,U⟩,.inl ⟨U,U⟩,.inl ⟨U,U⟩,by omega,Ro _,Ro _⟩) U2<|C6 2 [4,5] d U<|Vo (G.dropAll (VA U3 ?_));unfold ck;rw[aM h];refine⟨?_,U⟩;rw[Rz,List.drop_one];rfl
theorem Ir (C:Mem)(s:Str)(c:UInt8):Gives cx.P 224 [ae s,ae [c]] C (.tuple #[ae (ck c s).1,.bool (ck c s).2]):=by
 refine Vi func224 11 U3 fun w0=>U1 2 [0,1] U<|Va 2 U fun R a=>Vl (Lg _ s c) U7<|C6 4 [4,5] a U<|Vo (G.dropAll (VA U3 ?_));exact⟨U,U⟩
structure Tabs (C:Mem):Prop where
 pow : VarC cx.P C "internal/strconv.uint64pow10" (Lib.pow10Tab.map fun z => Value.int .u64 z).toArray
 db : VarC cx.P C "math/bits.deBruijn64tab" (Lib.deBruijn64tab.map fun z : Nat => Value.int .u8 (z : Int)).toArray
theorem Tabs.mono {C D:Mem}(h:Tabs C)(a:C.le D):Tabs D:=⟨h.pow.mono a,h.db.mono a⟩
theorem Tabs.m_ {D:Mem}(h:Tabs C)(a:C.le D:=by exact mup):Tabs D:=Tabs.mono h a
theorem Mx (C:Mem)(a:Tabs C)(n:Int)(b:-9223372036854775808<=n)(c:n<=9223372036854775807):Gives cx.P 169 [i_ n] C (ae (Lib.itoa n)) :=
 Oh Tryz.itoa n b c C a.pow kr_
structure FV where
 b:Bool
 A:Option Addr
 n:Nat
 c:Nat
 A2:Option Addr
 n2:Nat
 c2:Nat
theorem split_fn (C:Mem)(s:Str):Gives cx.P 172 [ae s] C (.tuple #[.bool (ck 45 s).2,ae (ck 45 s).1]):=by
 refine Vi func172 17 U3 fun w0=>U1 2 [0] U<|U1 2 [4] U<|Va 5 U fun R c=>VN (b:=s.headD 0) U8 (fun d=>⟨by omega,(by
  cases s with
 |nil=>exact Bool.noConfusion (show false=true from d.1)
 |cons b s=>rfl)⟩) U2 ?_
 refine Vc U6<|Vz U8<|Vf [4,13] c U<|G.cd (fun a=>?_) fun a=>?_
 ·have hh:s.head?=some 45:=by
   cases s with
  |nil=>cases a
  |cons b s =>
    have h1:b=45:=by
     refine Ur.1 ?_;show b.toNat=45;simp at a;omega
    rw[h1];rfl
  have e:1<=s.length:=by cases s with
  |nil=>cases hh
  |cons b s=>simp
  refine Vv [0,1,2,3] [] U kr_ fun R f c=>Vc U6<|V0 1 s.length U9 (fun _=>⟨.inr ⟨_,U⟩,.inl ⟨U,U⟩,.inl ⟨U,U⟩,by omega,Ro _,Ro _⟩) U2<|C6 2 [2,3] c U<|Vo (G.dropAll (VA U3 ?_));unfold ck;rw[aM hh];refine⟨?_,U⟩;rw[Rz,List.drop_one];rfl
 have hh:¬ s.head?=some 45:=by
  cases s with
 |nil=>simp
 |cons b s =>
   intro h;have h1:b=45:=by simpa using h
   subst h1;simp at a
 refine U1 3 [2,3] U<|Vo (G.dropAll (VA U3 ?_));unfold ck;rw[aF hh];exact⟨U,U⟩
def jA (s:Str):Bool:=(ck 45 s).1.all dT && !((ck 45 s).1 == []) && !((ck 45 s).1.head? == some 48 && ((ck 45 s).2 || decide (1<(ck 45 s).1.length)))
theorem Lt (C:Mem)(s:Str)(u:s.length<1000000):Gives cx.P 236 [ae s] C (.bool (jA s)):=by
 obtain⟨t,neg,g⟩:∃ t b,ck 45 s=(t,b):=⟨_,_,rfl⟩;have D:t.length<1000000:=by
  have:t=(ck 45 s).1:=by rw[g]
  rw[this];unfold ck;split
  ·simp;omega
  exact u
 have j:jA s=(t.all dT && !(t == []) && !(t.head? == some 48 && (neg || decide (1<t.length)))):=by unfold jA;rw[g]
 refine Vi func236 43 U3 fun w0=>U1 1 [0] U<|Va 1 U fun R a=>Vm (by have h:=split_fn C s;rw[g]at h;exact h) U7 fl_<|C6 5 [3,4] a U<|U1 1 [3,4,5] U<|G.loop (fun fr E v w=>∃ (i:Nat),(i<=t.length/\∀ c∈t.take i,dT c=true)/\fr=[(3,[],.bool neg),(4,[],ae t),(5,[],i_ i)]/\v=[]/\w=t.length-i) (hn_ [3,4,5] U) ⟨0,⟨Rv _,by simp⟩,U,U,U⟩ (fun fr F H m _ y=>?_);obtain⟨i,⟨I,k⟩,rfl,rfl,rfl⟩:=y;refine U1 4 [3,4,5,14] U<|G.cd (fun l=>?_) fun l=>?_
 ·have n:i<t.length:=by simpa using l
  obtain⟨c,e⟩:∃ c,t[i]?=some c:=⟨t[i],ai n⟩;refine Va 2 U fun R a=>VN U8 (fun _=>⟨by omega,e⟩) U2<|Ve 4 U<|VN U8 (fun _=>⟨by omega,e⟩) U2<|Vc U6<|VH U8<|Vf [3,4,5,26] a U<|G.cd (fun o=>?_) fun o=>?_
  ·have p:jA s=false:=by
    have h1:t.all dT=false:=by
     rw[TU];refine⟨c,aU e, ?_⟩;simp at o;unfold dT;simp;omega
    rw[j,h1];rfl
   exact U1 1 [2] U<|Vg U2<|⟨by rw[p],U⟩
  have z:dT c=true:=by
   simp at o;unfold dT;simp;omega
  refine Va 1 U fun R a=>Vh _ U U6<|C6 1 [3,4,5] a U<|Vn (m':=t.length-(i+1)) om_ mup (hn_ [3,4,5] U) ⟨i+1,⟨by omega,fun x q=>by
   rw[RR,e]at q;rcases RF.1 q with h|h
   ·exact k x h
   simp at h;subst h;exact z⟩,rfl,rfl,rfl⟩
 have n:t.length<=i:=by
  have:¬ i<t.length:=by simpa using l
  omega
 rw[RN n]at k;have r:t.all dT=true:=RI.2 k;refine Va 5 U fun R a=>VN (b:=t.headD 0) U8 (fun A=>⟨by omega,(by
  cases t with
 |nil=>exact Bool.noConfusion (show true=false from A.1)
 |cons b t=>rfl)⟩) U2 ?_
 refine Ve 7 U<|VH U8<|Vz U8<|VH U8<|Vf [42] a U<|G.cd (fun d=>?_) fun d=>?_
 ·have p:jA s=false:=by
   rw[j,r];cases t with
  |nil=>rfl
  |cons b t =>
    simp at d;rcases d with h|h
    ·omega
    have f:b=48:=Ur.1 (by have h1:=h.1;show b.toNat=48;omega);subst f;rcases h.2 with h2|h2
    ·simp[h2]
    have h3:t≠[]:=by rintro rfl;simp at h2
    simp[Sc.2 h3]
  exact U1 1 [2] U<|Vg U2<|⟨by rw[p],U⟩
 have B:jA s=true:=by
  rw[j,r];cases t with
 |nil=>simp at d
 |cons b t =>
   simp at d;simp;by_cases f:b=48
   ·subst f;have:=d.2;simp at this;exact .inr ⟨this.1,Sd om_⟩
   exact .inl f
 exact U1 1 [2] U<|Vg U2<|⟨by rw[B],U⟩
def bR (s:Str):Bool:=jA s && decide ((ck 45 s).1.length<=200)
theorem xl (C:Mem)(s:Str)(b:s.length<1000000):Gives cx.P 179 [ae s] C (.bool (bR s)):=by
 refine Vi func179 17 U3 fun w0=>U1 1 [0] U<|Va 1 U fun R a=>Vl (split_fn _ s) U7<|C6 5 [0,4] a U<|Va 1 U fun R a=>Vl (Lt _ s b) U7<|Ve 4 U<|Vz U8<|C6 1 [2] a U<|Vg U2<|⟨?_,U⟩;unfold bR;congr 2;rw[Sf];show(((ck 45 s).1.length:Nat):Int)<=200 ↔ _;omega
theorem mB (C:Mem)(s:Str)(c:UInt8):Gives cx.P 170 [ae s,.int .u8 c.toNat] C (i_ (Lib.indexByte s c)):=by
 exact Vi func170 8 U3 fun w0=>U1 1 [0,1] U<|Va 2 U fun R a=>Vl (tj _ s c) U7<|C6 1 [4] a U<|Vg U2<|⟨U,U⟩
theorem xE (C:Mem)(s:Str)(f:s.length<1000000):Gives cx.P 109 [ae s] C (.tuple #[ae (iS 47 s).1,ae ((iS 47 s).2.getD [49])]):=by
 refine Vi func109 17 U3 fun w0=>U1 2 [0] U<|Va 1 U fun R b=>Vl (mB _ s 47) U7<|C6 1 [0,4] b U<|U1 2 [0,4,8] U<|G.cd (fun c=>?_) fun c=>?_
 ·have h0:¬ 0<=Lib.indexByte s 47:=by
   have:Lib.indexByte s 47<0:=by simpa using c
   omega
  rw[ry h0];refine U1 3 [2,3] U<|Vo (G.dropAll (VA U3 ?_));exact⟨U,U⟩
 have h0:0<=Lib.indexByte s 47:=by
  have:¬ Lib.indexByte s 47<0:=by simpa using c
  omega
 obtain⟨a,post,h1,h2,h3⟩:=vD h0;have g:s.length=a.length+1+post.length:=by rw[h2];simp;omega
 rw[h1,h3];refine Vv [0,1,2,3,4,5,6,7,8] [] U kr_ fun R h b=>Ve 2 U<|V0 0 a.length U9 (fun _=>⟨.inl ⟨U,U⟩,.inr ⟨_,U⟩,.inl ⟨U,U⟩,by omega,by omega,Ro _⟩) U2<|Ve 2 U<|VI (((a.length+1:Nat):Int)) U4 om_ om_ om_ U2<|V0 (a.length+1) s.length U9 (fun _=>⟨.inr ⟨_,U⟩,.inl ⟨U,U⟩,.inl ⟨U,U⟩,by omega,Ro _,Ro _⟩) U2<|C6 2 [2,3] b U<|Vo (G.dropAll (VA U3 ?_));refine⟨?_,U⟩;have d:(s.take a.length).drop 0=a:=by rw[h2];simp
 have e:(s.take s.length).drop (a.length+1)=post:=by rw[Rz,h2];simp
 rw[d,e];rfl
theorem Dj (C:Mem)(v:Value)(l:List Nat)(d:Sl C 1 v (l.map aW)):Pur cx.P 233 [v] C fun u f=>Sl f 1 u ((yE l).map aW):=by
 obtain⟨p,c0,rfl,q,_⟩:=id d;simp only[au]at d q⊢;refine Vi func233 21 U3 fun w0=>U1 1 [0] U<|G.loop (fun fr f r s=>∃ (k:Nat)(A:Option Addr)(c:Nat),(k<=l.length/\Sl f 1 (.slice A k c) ((l.take k).map aW)/\ES l l.length=ES l k)/\fr=[(0,[],.slice A k c)]/\r=[]/\s=k+1) (hn_ [0] U) ⟨l.length,p,c0,⟨Ro _,by rw[Rz];exact d,U⟩,U,U,U⟩ (fun fr F H m _ t=>?_);obtain⟨k,A,c,⟨I,hs,i⟩,rfl,rfl,rfl⟩:=t;obtain⟨_,J,w,x,_⟩:=id hs;have K:=mx_
 have L:k<=c:=by
  rw[au,RE]at x;injection w with h1 h2 h3;omega
 have y:0<k->((l.take k).map aW)[((k:Int)-1).toNat]?=some (aW (gP l (k-1))):=fun h=>by
  rw[show((k:Int)-1).toNat=k-1 by omega,Rr,Sg,aM om_,ai (by omega:k-1<l.length)];unfold gP;rw[am,ai (by omega:k-1<l.length)];rfl
 refine Va 7 U fun R g=>Vh _ U U6<|D.index U10 (fun n=>⟨hs,(by have h:decide ((0:Int)<(k:Int))=true:=n.1;simp at h;omega),y (by have h:decide ((0:Int)<(k:Int))=true:=n.1;simp at h;omega)⟩) fl_ U fun M z=>VE U6 z U3<|Vc U6<|Vz U8<|Vf [0,14] g U<|G.cd (fun b=>?_) fun b=>?_
 ·have a:0<k/\gP l (k-1)=0:=by
   have:(0:Int)<(k:Int)/\((gP l (k-1):Nat):Int)=0:=by simpa using b
   omega
  refine Va 3 U fun R g=>VI (((k-1:Nat):Int)) U4 om_ om_ om_ U2<|VV 0 (k-1) c U12 (fun _=>⟨.inl ⟨U,U⟩,.inr ⟨_,U⟩,.inl ⟨U,U⟩,by omega,by omega,Ro _⟩) U2<|C6 1 [0] g U ?_;have o:=Sl.sub hs (l:=0) (h:=k-1) (m:=c) (Rv _) ap om_ (Ro _);have B:(((l.take k).map aW).take (k-1)).drop 0=(l.take (k-1)).map aW:=by
   rw[SE,<- TG,Uk,Sp om_]
  rw[B]at o;have E:ES l l.length=ES l (k-1):=by
   rw[i];obtain⟨j,rfl⟩:∃ j,k=j+1:=⟨k-1,by omega⟩;simp only[TH]at a⊢;rw[ES,aM];unfold gP at a;rw[am,ai om_]at a;rw[ai om_];exact congrArg some a.2
  refine Vn (m':=k-1+1) om_ mup (hn_ [0] U) ⟨k-1,_,c,⟨by omega,o.mono mup,E⟩,U,U,U⟩
 have a:¬ (0<k/\gP l (k-1)=0):=fun hh=>by
  have h1:(decide ((0:Int)<(k:Int)) && (((gP l (k-1):Nat):Int) == 0))=true:=by
   rw[hh.2];simp;omega
  rw[h1]at b;cases b
 refine U1 2 [2] U<|Vg U2<|⟨U, ?_⟩;have e:ES l k=k:=by
  cases k with
 |zero=>rfl
 |succ j =>
   simp only[TH]at a;rw[ES,aF];intro h;refine a ⟨by omega, ?_⟩;unfold gP;rw[am,h];rfl
 unfold yE;rw[i,e];exact hs
theorem vC (C:Mem)(v:Value)(l:List Nat)(b:l.length=n):Jog.Fn cx.P 233 [v] C [.arr v 3 1 n (l.map aW).flatten] fun u a c=>c=[]/\Sl a 1 u ((yE l).map aW) :=
 Jog.Fn.give (l.map aW) kr_ (by intro r hr;obtain⟨y,_,rfl⟩:=Rs.1 hr;rfl) (by rw[au,b]) (fun a _ hs=>Dj a v l hs)
def PieC (C:Mem)(v:Value)(n:Nat):Prop:=∃ l,Bp l/\bx l=n/\Sl C 1 v (l.map aW)
theorem CA (C:Mem)(s t:Value)(a b:List Nat)(d:Sl C 1 s (a.map aW))(f:Sl C 1 t (b.map aW))(n:Bp a)(o:Bp b):Gives cx.P 176 [s,t] C (.bool (decide (bx a<bx b))):=by
 have Q:=mx_
 obtain⟨A,c0,rfl,B,S,_⟩:=id d;obtain⟨D,E,rfl,F,T,_⟩:=id f;simp only[au]at d f B F⊢;refine Vi func176 41 U3 fun w0=>U1 1 [0,1] U<|U1 5 [0,1,10] U<|G.cd (fun g=>?_) fun g=>?_
 ·have V:a.length≠b.length:=fun e=>by
   rw[e]at g;simp at g
  refine U1 6 [4] U<|Vg U2<|⟨?_,U⟩;congr 1;rw[Sf];rcases RS a.length b.length with h|h
  ·have:=Ht n.1 o h;constructor
   ·intro _;exact this
   intro _;omega
  have:=Ht o.1 n om_;constructor <;> intro _ <;> omega
 have p:a.length=b.length:=by
  have:(a.length:Int)=b.length:=by simpa using g
  omega
 refine Va 2 U fun R c=>Vh _ U U6<|C6 1 [0,1,5] c U<|G.loop (fun fr W H I=>∃ (k:Nat),(k<=a.length/\a.drop k=b.drop k)/\fr=[(0,[],.slice A a.length c0),(1,[],.slice D b.length E),(5,[],i_ ((k:Int)-1))]/\H=[]/\I=k+1) (hn_ [0,1,5] U) ⟨a.length,⟨Ro _,by rw[SA,p,SA]⟩,U,U,U⟩ (fun fr X Y m _ J=>?_);obtain⟨k,⟨Z,i⟩,rfl,rfl,rfl⟩:=J;refine U1 2 [0,1,5,20] U<|G.cd (fun q=>?_) fun q=>?_
 ·have u:0<k:=by
   have:(0:Int)<=(k:Int)-1:=by simpa using q
   omega
  obtain⟨j,rfl⟩:∃ j,k=j+1:=⟨k-1,by omega⟩;obtain⟨x,l⟩:∃ x,a[j]?=some x:=⟨a[j],ai om_⟩;obtain⟨y,hy⟩:∃ y,b[j]?=some y:=⟨b[j],ai om_⟩;have v:(a.map aW)[(((j+1:Nat):Int)-1).toNat]?=some (aW x):=by
   rw[show(((j+1:Nat):Int)-1).toNat=j by omega,Rr,l];rfl
  have w:(b.map aW)[(((j+1:Nat):Int)-1).toNat]?=some (aW y):=by
   rw[show(((j+1:Nat):Int)-1).toNat=j by omega,Rr,hy];rfl
  refine Vv [0,1,2,3,4,5,6,7,8] [] U kr_ fun R K c=>Ve 2 U<|Vq d.m_ U10 om_ v fl_ fun aa L=>Vb L U8<|Ve 2 U<|Vq f.m_ U10 om_ w fl_ fun ab M=>Vb M U8<|C6 1 [0,1,5,31] c U<|G.cd (fun r=>?_) fun r=>?_
  ·have z:x≠y:=fun e=>by
    subst e;simp at r
   refine Vv [0,1,2,3,4,5,6,7,8,9] [] U kr_ fun R K c=>Ve 2 U<|Vq d.m_ U10 om_ v fl_ fun ac N=>Vb N U8<|Ve 2 U<|Vq f.m_ U10 om_ w fl_ fun ad O=>Vb O U8<|C6 2 [4] c U<|Vg U2<|⟨?_,U⟩;congr 1;rw[Sf];rcases RS x y with h|h
   ·have:=MN n.1 p l hy h i;constructor
    ·intro _;exact this
    intro _;omega
   have:=MN o.1 p.symm hy l om_ i.symm;constructor <;> intro _ <;> omega
  have z:x=y:=by
   have:(x:Int)=y:=by simpa using r
   omega
  refine Va 1 U fun R c=>Vh _ U U6<|C6 1 [0,1,5] c U ?_;rw[show((j+1:Nat):Int)-1-1=(j:Int)-1 by omega];refine Vn (m':=j+1) om_ mup (hn_ [0,1,5] U) ⟨j,⟨by omega,by
   rw[RP (by omega:j<a.length),RP (by omega:j<b.length),i,(aJ.1 l).2,(aJ.1 hy).2,z]⟩,rfl,rfl,rfl⟩
 have u:k=0:=by
  have:¬ (0:Int)<=(k:Int)-1:=by simpa using q
  omega
 subst u;refine U1 1 [4] U<|Vg U2<|⟨?_,U⟩;have:a=b:=by simpa using i
 subst this;simp
theorem Ip {s:Str}{a:Nat}{c:UInt8}(d:a<=i)(b:s[i]?=some c):bP (gS s a (i+1))=10*bP (gS s a i)+(c.toNat-48):=by
 have f:=(aJ.1 b).1;have e:gS s a (i+1)=gS s a i++[c]:=by
  unfold gS;rw[RR,b,SR,TY,RE,Sp om_,show a-i=0 by omega];rfl
 rw[e];unfold bP;rw[List.foldl_append];rfl
theorem Le (s:Str)(a:Nat):gS s a a=[]:=by
 unfold gS;rw[List.drop_eq_nil_iff,RE];omega
theorem Na (C:Mem)(s:Str)(g:∀ c∈s,dT c=true)(L:s.length<=100000):Pur cx.P 173 [ae s] C fun u D=>PieC D u (bP s):=by
 refine Vi func173 35 U3 fun w0=>U1 1 [0] U<|U1 1 [0,3] U<|U1 3 [0,3,4] U<|G.nilArr 3 1<|G.loop (fun fr B d k=>∃ (e j:Nat)(b:Int)(out:List Nat)(w:Value),((b=e/\e+4*j=s.length∨b<=0/\e=0)/\-4<=b/\b<=100000/\e<=s.length/\out.length=j/\j<=100000/\DigP out/\bx out=bP (s.drop e))/\fr=[(0,[],ae s),(3,[],w),(4,[],.int .i64 b)]/\d=[.arr w 3 1 j (out.map aW).flatten]/\k=e+1) (hn_ [0,3,4] U) ⟨s.length,0,(s.length:Int),[],_,⟨.inl ⟨U,U⟩,by omega,by omega,Ro _,U,by omega,(fun x E=>(by cases E)),by rw[SA];rfl⟩,U,U,U⟩ (fun fr M N m _ l=>?_);obtain⟨e,j,b,out,w,⟨q,O,Q,S,n,T,r,t⟩,rfl,rfl,rfl⟩:=l;refine U1 2 [0,3,4,10] U<|G.cd (fun f=>?_) fun f=>?_
 ·obtain⟨rfl,F⟩:b=e/\e+4*j=s.length:=by
   have h0:0<b:=by simpa using f
   rcases q with h|h
   ·exact h
   omega
  have v:0<e:=by
   have h0:(0:Int)<(e:Int):=by simpa using f
   omega
  refine U1 1 [0,3,4,5] U<|Va 1 U fun R a=>Vh _ U U6<|D.max (((e-4:Nat):Int)) U6 om_ U2<|C6 1 [0,3,4,5,6] a U ?_;rw[show(Value.int .i64 0)=.int .i64 ((bP (gS s (e-4) (e-4)):Nat):Int) by rw[Le];rfl];refine G.loop (fun fr B d k=>∃ (i:Nat),(e-4<=i/\i<=e)/\fr=[(0,[],ae s),(3,[],w),(4,[],.int .i64 (e:Int)),(5,[],.int .i64 (bP (gS s (e-4) i):Nat)),(6,[],.int .i64 i)]/\d=[.arr w 3 1 j (out.map aW).flatten]/\k=e-i) (hn_ [0,3,4,5,6] U) ⟨e-4,⟨Ro _,by omega⟩,U,U,U⟩ (fun fr V W m _ l=>?_);obtain⟨i,⟨H,X⟩,rfl,rfl,rfl⟩:=l;refine U1 3 [0,3,4,5,6,18] U<|G.cd (fun o=>?_) fun o=>?_
  ·have y:i<e:=by simpa using o
   obtain⟨c,p⟩:∃ c,s[i]?=some c:=⟨s[i]'om_,ai _⟩;have z:=g c (aU p);have Y:48<=c.toNat/\c.toNat<=57:=by unfold dT at z;simpa using z
   have Z:bP (gS s (e-4) i)<10000:=Iq g om_;refine Va 1 U fun R a=>VI (((10*bP (gS s (e-4) i):Nat):Int)) U4 om_ om_ om_ U2<|Ve 2 U<|VN U8 (fun _=>⟨by omega,p⟩) U2<|VO (c:=((c.toNat:Nat):Int)) U8 f_ fl_<|VI (((10*bP (gS s (e-4) i)+c.toNat:Nat):Int)) U4 om_ om_ om_ U2<|VI (((10*bP (gS s (e-4) i)+(c.toNat-48):Nat):Int)) U4 om_ om_ om_ U2<|C6 1 [0,3,4,5,6] a U<|Va 1 U fun R a=>Vh _ U U6<|C6 1 [0,3,4,5,6] a U ?_;rw[<- Ip H p];refine Vn (m':=e-(i+1)) om_ mup (hn_ [0,3,4,5,6] U) ⟨i+1,⟨by omega,by omega⟩,U,U,U⟩
  have y:i=e:=by
   have:¬ i<e:=by simpa using o
   omega
  subst y;refine Va 2 U fun R a=>Vy [aW (bP (gS s (i-4) i))] U12 fun aa _ _ I=>D.append (j:=0) U11 I U ax (by show(j+1)*8<=_;omega) fl_ fun A=>C6 1 [0,3,4] a U<|Va 1 U fun R a=>Vh _ U U6<|C6 1 [0,3,4] a U<|Vr (L':=[.arr A 3 1 (j+1) ((out++[bP (gS s (i-4) i)]).map aW).flatten]) (by simp[aW])<|Vn (m':=i-4+1) om_ mup (hn_ [0,3,4] U) ⟨i-4,j+1,(i:Int)-4,out++[bP (gS s (i-4) i)],A,⟨by
   rcases RS i 4 with h|h
   ·exact .inr ⟨by omega,by omega⟩
   exact .inl ⟨by omega,by omega⟩,by omega,by omega,by omega,by simp[n],by omega,r.snoc (Iq g om_),FL F n om_ t⟩,U,U,U⟩
 have v:e=0:=by
  have h0:¬ 0<b:=by simpa using f
  rcases q with h|h
  ·omega
  exact h.2
 refine VB [(1,3)] U fun R a=>Vc U6<|D.call (vC _ _ out n) U (.inr dc_) U6 (Rw _) fl_ (fun ab _ ac _ J=>?_);obtain⟨rfl,K⟩:=J;refine C6 1 [2] a U<|Vg U2<|⟨U,yE out,mR r, ?_,K⟩;rw[iF,t,v,SE]
theorem HA (C:Mem)(a:Tabs C)(n:Nat)(h:n<=1000000000000000000):Gives cx.P 169 [i_ n] C (ae (bk n)):=by
 have h1:=Mx C a (n:Int) om_ om_
 rwa [KN]at h1
theorem fT (C:Mem)(a:Tabs C)(z:Int)(b:-9223372036854775808<=z)(c:z<=9223372036854775807):Gives cx.P 169 [i_ z] C (ae (txt z)):=by
 have h:=Mx C a z b c
 rwa [KM]at h
theorem Oi (C:Mem)(a:Tabs C)(x:Nat)(b:x<10000):Gives cx.P 169 [i_ (10000+x:Nat)] C (ae (49::nh 4 x)):=by
 have h:=HA C a (10000+x) om_
 rwa [tenK b]at h
theorem dQ (h:n<10 ^ k)(a:0<k):(bk n).length<=k:=by
 apply RT;intro b;have h1:=pe (bl n).1 om_;rw[(bl n).2]at h1;have h2:10 ^ k<=10 ^ ((bk n).length-1):=RM dc_ om_;omega
theorem vB (h:DigP l):(bk (bx l)).length<=4*l.length+1:=by
 refine dQ ?_ om_;have h1:=nk h;rw[<- Mk]at h1;have h2:10 ^ (4*l.length)<=10 ^ (4*l.length+1):=RM dc_ om_;omega
theorem iQ (h:k<l.length):(l.map aW)[k]?=some (aW (gP l k))/\l[k]?=some (gP l k):=by
 have e:l[k]?=some (gP l k):=by
  unfold gP;rw[am,ai h];rfl
 exact⟨by rw[Rr,e];rfl,e⟩
theorem HP (C:Mem)(f:Tabs C)(v:Value)(l:List Nat)(b:Sl C 1 v (l.map aW))(g:Bp l)(N:l.length<=100000):Gives cx.P 234 [v] C (ae (bk (bx l))):=by
 obtain⟨s,c0,rfl,_⟩:=id b;simp only[au]at b⊢;have c:=g.1;refine Vi func234 34 U3 fun w0=>U1 1 [0] U<|U1 3 [0,8] U<|G.cd (fun d=>?_) fun d=>?_
 ·have h0:l=[]:=by
   have:(l.length:Int)=0:=by simpa using d
   exact Sd om_
  refine U1 1 [2] U<|Vg U2<|⟨?_,U⟩;rw[h0,show bk (bx [])=[48] by rw[bk];rfl];rfl
 have h0:0<l.length:=by
  have:¬ (l.length:Int)=0:=by simpa using d
  omega
 have t:(l.map aW)[((l.length:Int)-1).toNat]?=some (aW (gP l (l.length-1))):=by rw[show((l.length:Int)-1).toNat=l.length-1 by omega];exact(iQ om_).1
 have u:gP l (l.length-1)<10000:=HT c _;have w:bx (l.drop (l.length-1))=gP l (l.length-1):=by
  rw[RP om_,Uh om_];have h1:=(iQ (l:=l) (k:=l.length-1) om_).2;rw[(aJ.1 h1).2];simp[bx]
 have x:0<gP l (l.length-1):=by
  have h1:=(iQ (l:=l) (k:=l.length-1) om_).2;have h2:=g.2;rw[TJ,h1]at h2;rcases Sz (gP l (l.length-1)) with h|h
  ·rw[h]at h2;exact absurd rfl h2
  exact h
 refine Va 3 U fun R a=>Vh _ U U6<|Vq b.m_ U10 om_ t fl_ fun O y=>Vb y U8<|Vm (HA _ f.m_ (gP l (l.length-1)) om_) U7 fl_<|C6 1 [0,3] a U<|Va 2 U fun R a=>Vh _ U U6<|C6 1 [0,3,4] a U ?_;rw[show(l.length:Int)-2=((l.length-1:Nat):Int)-1 by omega];refine G.loop (fun fr Q z A=>∃ (k:Nat)(o:Str),(k<l.length/\wh o/\bP o=bx (l.drop k)/\0<bP o/\o.length<=25+4*(l.length-k))/\fr=[(0,[],.slice s l.length c0),(3,[],ae o),(4,[],i_ ((k:Int)-1))]/\z=[]/\A=k+1) (hn_ [0,3,4] U) ⟨l.length-1,bk (gP l (l.length-1)),⟨by omega,(bl _).1,by rw[(bl _).2,w],by rw[(bl _).2];exact x,by
  have h2:=dQ (k:=4) (n:=gP l (l.length-1)) u om_;omega⟩,rfl,rfl,rfl⟩ (fun fr S T m _ B=>?_)
 obtain⟨k,o,⟨V,i,p,D,W⟩,rfl,rfl,rfl⟩:=B;refine U1 2 [0,3,4,20] U<|G.cd (fun e=>?_) fun e=>?_
 ·have q:0<k:=by
   have:(0:Int)<=(k:Int)-1:=by simpa using e
   omega
  obtain⟨j,rfl⟩:∃ j,k=j+1:=⟨k-1,by omega⟩;rw[show((j+1:Nat):Int)-1=(j:Int) by omega];obtain⟨E,F⟩:=iQ (l:=l) (k:=j) om_;have r:=HT c j;have H:gP l j<10000:=r;have I:=(kZ 4 (gP l j) r).1;refine Va 2 U fun R a=>Vq b.m_ U10 om_ E fl_ fun X J=>Vb J U8<|VI (((10000+gP l j:Nat):Int)) U4 om_ om_ om_ U2<|Vl (Oi _ f.m_ _ H) U7<|C6 1 [0,3,4,5] a U<|Va 2 U fun R a=>V0 1 (49::nh 4 (gP l j)).length U9 (fun _=>⟨.inr ⟨_,U⟩,.inl ⟨U,U⟩,.inl ⟨U,U⟩,by simp,Ro _,Ro _⟩) U2<|VX U6 (fun _=>(by simp only[Th,RE,RH];omega)) U2<|C6 1 [0,3,4] a U<|Va 1 U fun R a=>Vh _ U U6<|C6 1 [0,3,4] a U ?_;rw[Rz,List.drop_one,List.tail_cons];obtain⟨K,L,M⟩:=HO c F i p D;refine Vn (m':=j+1) om_ mup (hn_ [0,3,4] U) ⟨j,o++nh 4 (gP l j),⟨by omega,K,L,M,by rw[Ru,I];omega⟩,U,U,U⟩
 have q:k=0:=by
  have:¬ (0:Int)<=(k:Int)-1:=by simpa using e
  omega
 subst q;refine U1 2 [2] U<|Vg U2<|⟨?_,U⟩;rw[pf i,p,SE]
def sgZ (m:Bool)(n:Nat):Int:=if m then -(n:Int) else n
theorem BH (m:Bool)(n:Nat)(h:m=true->0<n):txt (sgZ m n)=if m then 45::bk n else bk n:=by
 unfold txt sgZ;cases m with
|false=>simp
|true=>have:=h rfl;simp;omega
theorem nI (C:Mem)(e:Tabs C)(m:Bool)(v:Value)(l:List Nat)(i:Sl C 1 v (l.map aW))(j:DigP l)(k:l.length<=100000):Gives cx.P 174 [.bool m,v] C (ae (txt (sgZ m (bx l)))):=by
 have c:=mR j;have f:(yE l).length<=100000:=by unfold yE;rw[RE];omega
 have g:(yE l).length=0 ↔ bx l=0:=by rw[<- iF,Dr c,Uy]
 refine Vi func174 18 U3 fun w0=>U1 1 [0,1] U<|Va 1 U fun R a=>VJ (Dj _ _ l i) U7 (fun n _ _ d=>?_);obtain⟨o,p,rfl,_⟩:=id d;rw[au]at d;rw[au];refine C6 1 [0,1] a U<|Va 5 U fun R a=>Vz U8<|Vf [1,12] a U<|G.cd (fun b=>?_) fun b=>?_
 ·have hm:m=true/\0<bx l:=by
   simp at b;refine⟨b.1, ?_⟩;have h2:=b.2;rcases Sz (bx l) with h|h
   ·have:=g.2 h;omega
   exact h
  refine Va 1 U fun R a=>Vl (HP _ e.m_ _ (yE l) d.m_ c f) U7<|VX U6 (fun _=>(by have:=vB c.1;simp only[RH,R5];omega)) U2<|C6 1 [4] a U<|Vg U2<|⟨?_,U⟩;rw[BH m _ (fun _=>hm.2),aM hm.1,iF];rfl
 have hm:m=true->bx l=0:=fun h=>by
  rcases Sz (yE l).length with h0|h0
  ·exact g.1 h0
  exfalso;have h1:decide ((0:Int)<((yE l).length:Nat))=true:=RJ om_;rw[h,h1]at b;cases b
 refine Va 1 U fun R a=>Vl (HP _ e.m_ _ (yE l) d.m_ c f) U7<|C6 1 [4] a U<|Vg U2<|⟨?_,U⟩;rw[iF];congr 1;cases m with
|false=>rw[BH false _ (fun h=>by cases h)];rfl
|true=>rw[hm rfl];rfl
end Go.Proofs.YtfjcldheldflbaaGreatDoor
