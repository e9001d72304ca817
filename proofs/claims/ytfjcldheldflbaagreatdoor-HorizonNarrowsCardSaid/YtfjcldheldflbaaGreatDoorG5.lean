/- Laws that the proofs of this seat share, part 5. -/
import Derived.Test.YtfjcldheldflbaaGreatDoorG4
import Derived.Test.YtfjcldheldflbaaGreatDoorShelf
import Derived.Shelf.SlSortCmp.NoneTotal
import Derived.Shelf.Sort.Plain
import Derived.Shelf.Slices.In.SortNone
import Derived.Shelf.Strings.Split
import Derived.Sort.Walk0
import Derived.Shelf.SlSortCmp.Insertion
import Derived.Test.YtfjcldheldflbaaGreatDoorProg
import Derived.RangeFuncBox
import Derived.RangeFuncLeaves
import Derived.Shelf.Abstract
import Derived.WalkKit
import Derived.OwnWalkIn
import Derived.TacticsInMore
import Derived.LoopNIn
import Derived.LoopIn
set_option maxHeartbeats 4000000
namespace Go.Jog
open Go Go.Proofs Go.Shelf
section
variable {α:Type} [Inhabited α]
theorem sN (a:α->List Value)(k:Nat)(c:∀ x,(a x).length=k)(d:Array α):(Sort.flatK a k d).toList=(d.toList.map a).flatten:=by
 have hr:∀ r∈d.toList.map a,r.length=k:=fun r hr=>by
  obtain ⟨x,_,rfl⟩:=QE.1 hr;exact c x
 have g:=aH hr;apply List.ext_getElem?;intro q;by_cases b:q<d.size*k
 ·have i:0<k:=by
   rcases RM k with h | h
   ·rw [h] at b;simp at b
   exact h
  have e:q / k<d.size:=To (by rw [Rm];exact b);have h1:(d.toList.map a)[q / k]?=some (a d[q / k]!):=by
   rw [QD,Array.getElem?_toList,Array.getElem?_eq_getElem e];simp [e]
  have f:q % k<(a d[q / k]!).length:=by rw [c];exact Rj _ i
  have h2:=getElem?_flatten_rows hr h1 (aj f);have j:q / k*k+q % k=q:=by rw [Rm];exact Td q k
  rw [j] at h2;rw [h2];have h3:=Sort.get_flatK a k d q b;rw [Array.getElem?_toList,Array.getElem?_eq_getElem (by simpa using b)];rw [getElem!_pos (Sort.flatK a k d) q (by simpa using b)] at h3;rw [h3,getElem!_pos (a d[q / k]!) (q % k) f]
 rw [QJ ap,QJ (by rw [g];simp;omega)]
theorem Ka {a:Type}[Inhabited a](c:a->Value)(w:World)(m b:Nat)(F:Array a)(h:Array Obj){d:Array Value}{e:TypeId}{f:Nat × Nat}(g:w.heap[b]?=some (.cells d e f)) :
  (Sort.grow (Sort.putRow c (Sort.ahead w m) b 0 F) h).heap[b]?=some (.cells (Sort.putCells c 0 F d) e f):=by
 have i:=cQ g;rw [Sort.heap_grow_old _ _ (by simpa [Sort.ahead] using i)];simp [Sort.putRow,Sort.mapBlock,Sort.ahead,Th,g,Sort.onCells]
theorem kE {a:Type}[Inhabited a](c:a->Value)(w:World)(m b:Nat)(F:Array a)(d:Array Obj){q:Nat}(e:q<w.heap.size)(f:q≠b) :
  (Sort.grow (Sort.putRow c (Sort.ahead w m) b 0 F) d).heap[q]?=w.heap[q]?:=by
 rw [Sort.heap_grow_old _ _ (by simpa [Sort.ahead] using e)];simp [Sort.putRow,Sort.mapBlock,Sort.ahead,Th,Ne.symm f]
theorem um {b:Type}[Inhabited b](d:b->Value)(F:Array b)(c:Array Value)(h:F.size<=c.size):(Sort.putCells d 0 F c).toList.take F.size=F.toList.map d:=by
 apply List.ext_getElem?;intro q;rw [Rs];split
 ·rename_i a;simp only [Sort.putCells,Array.getElem?_toList,Array.getElem?_mapIdx,QD,QH,RK,true_and,a,SC,Ty];rw [Array.getElem?_eq_getElem (by omega:q<c.size),Array.getElem?_eq_getElem a];simp [a]
 rename_i a;rw [QJ ap]
theorem St.sorted {c:Type}[Inhabited c](b:c->Value){C:Mem}{w:World}{e s n g a m:Nat}{d:List Value}(j:Sep C [.arr (.slice (some ⟨g,0,none⟩) n a) e s n d] w)(F:Array c)(f:F.size=n*s)(i:Array Obj) :
  St w C [.arr (.slice (some ⟨g,0,none⟩) n a) e s n d] C [.arr (.slice (some ⟨g,0,none⟩) n a) e s n (F.toList.map b)] (Sort.grow (Sort.putRow b (Sort.ahead w m) g 0 F) i):=by
 have l:w.ownsRow 0 e s (.slice (some ⟨g,0,none⟩) n a) n d:=j.e _ (QC ..);obtain ⟨_,h1,h2,o,p,k,_⟩:=cS l;have r:n*s<=a*s:=Rq _ h1;refine St.turn (St.start j) ⟨by simpa using f,.inr ⟨g,a,_,Z,QH _,Ka b w m g F i p,h1,h2,by simpa [Sort.putCells] using k, ?_⟩⟩ ⟨Z,Z,Z,by simp [Sort.ahead],fun q t u=>kE b w m g F i t (fun h=>u (by simp [Value.ownBlock,h]))⟩ ?_ (.inl Z)
 ·rw [<- f];exact um b F o (by rw [f,k];exact r)
 show w.drawn<=w.drawn+m;omega
theorem D2 {w a:World}{C c:Mem}(h:St w C [] c [] a):∃ q os,a=Sort.grow (w.drewN q) os:=by
 refine ⟨a.drawn-w.drawn,(a.heap.toList.drop w.heap.size).toArray, ?_⟩;have h1:a.heap=w.heap++(a.heap.toList.drop w.heap.size).toArray:=by
  apply Array.ext_getElem?;intro k;rw [Array.getElem?_append];split
  ·rename_i b;exact h.ev.block k b (fun ⟨x,d,_⟩=>by cases d)
  rename_i b;simp only [R2,List.getElem?_drop,Array.getElem?_toList];congr 1;omega
 have h2:w.drawn+(a.drawn-w.drawn)=a.drawn:=by have:=h.ev.drawn;omega
 obtain ⟨i,j,l,m,op⟩:=a;have e:=h.ev.os;have f:=h.ev.tape;have g:=h.ev.output;simp only at h1 h2 e f g;simp only [Sort.grow,World.drewN];congr 1
 ·exact h2.symm
end
section
variable {P:Program} {ρ:Ren}
theorem M6 {a:Type}[Inhabited a]{l:List a}{d:Array a}(h:Sort.PermIn 0 l.toArray.size l.toArray d):d.toList.Perm l:=by
 obtain ⟨h1,_,h3⟩:=h;have b:d.extract 0 l.toArray.size=d:=by apply Sq;rw [<- h1];simp
 have c:l.toArray.extract 0 l.toArray.size=l.toArray:=by apply Sq;simp
 rw [b,c] at h3;simpa using h3
theorem Fl {a:Type}[Inhabited a]{b:a->a->Bool}{d:Array a}(h:Sort.SortedIn b 0 d.size d):d.toList.Pairwise fun x y=>b y x=false:=by
 rw [List.pairwise_iff_getElem];intro i j e c f;have:=h i j (QH _) f (by simpa using c);rw [getElem!_pos d j (by simpa using c),getElem!_pos d i (by simpa using e)] at this;simpa using this
theorem yO {r:Type}[Inhabited r](K:SlLaysF0.n6 P ρ){T:Tab}(L:od P T=true){d:TI}(M:T.get (ρ.t 24)=some d)(X:d.agg=true)(a:r->List Value)(A:∀ x,(a x).length=d.size)(i:∀ x,(a x).all lQ=true)
  (s:r->r->Int) (Y:Sort.SWO (ltOf s)) (g:FuncId) (p:List Value) (C:Mem) (aa:∀ x y B,C.le B->Gives P g ([.agg ⟨a x⟩,.agg ⟨a y⟩]++p) B (.int .i64 (s x y))) (v:Value) (e:TypeId) (l:List r) (ab:l.length<4611686018427387904)
  (ac:Enters P (ρ.f 6)=true) (ad:Enters P g=true) :
  Fn P (ρ.f 6) [v,.func (.func g) #[] ⟨p⟩] C [.arr v e d.size l.length (l.map a).flatten] fun u _al N=>∃ D:List r,u=.tuple #[]/\N=[.arr v e d.size l.length (D.map a).flatten]/\D.Perm l/\D.Pairwise (fun x y=>ltOf s y x=false):=by
 refine ⟨ac,fun w z=>?_⟩;have ae:w.ownsRow 0 e d.size v l.length (l.map a).flatten:=z.e _ (QC ..);rcases ae.2 with ⟨rfl,hz⟩ | ⟨b,O,E,rfl,_,F,h2,h3,h4,h5⟩
 ·have hl:l=[]:=Rt hz;subst hl;refine (AnyF.slices_SortFunc_none K none 0 (.func (.func g) #[] ⟨p⟩) w).mono fun Q w' ⟨i,h2⟩=>?_;subst h2;exact ⟨_,C,_,i,St.start z,[],Z,Z,QI _,List.Pairwise.nil⟩
 have af:b<w.heap.size:=cQ F;have ag:(Sort.flatK a d.size l.toArray).toList=(l.map a).flatten:=by rw [sN a _ A]
 have am:l.length*d.size<=O*d.size:=Rq _ h2;have hH:Sort.HoldsK a d.size w b 0 l.toArray:=by
  intro j G;simp only [Sort.size_flatK,SJ] at G;have R:j<E.size:=by omega
  have hc:(Sort.flatK a d.size l.toArray)[j]?=some E[j]:=by
   rw [<- Array.getElem?_toList,ag,<- h5,Rs,aJ G,Array.getElem?_toList,Array.getElem?_eq_getElem R]
  have hg:=getElem!_pos (Sort.flatK a d.size l.toArray) j (by simpa using G);have ah:=(SF.1 hc).2;refine ⟨?_, ?_⟩
  ·rw [RK,cell_of_row w b j E e (0,0) F,hg,ah];exact Array.getElem?_eq_getElem R
  simp [World.frozen?,F]
 have ai:CmpLays P g ⟨p⟩ a d.size s b 0 l.toArray.size w:=by
  intro m os dk an x y;have hW:Sep C [] (sortWorldK a d.size w b 0 m dk os):=⟨fun q o H=>by
    have S:=z.c q o H;unfold sortWorldK Sort.putRowK;rw [kE id w m b _ os (cQ S) (fun h=>by
     subst h;have:=z.n q ⟨_,QC ..,rfl⟩;rw [this] at H;cases H)]
    exact S,fun x I=>(by cases I),List.Pairwise.nil,fun k ⟨x,I,_⟩=>(by cases I)⟩
  have ea:(#[Value.agg (a x).toArray,Value.agg (a y).toArray]++(⟨p⟩:Array Value))=([Value.agg ⟨a x⟩,Value.agg ⟨a y⟩]++p).toArray:=by apply Sq;simp
  rw [ea];refine ((aa x y C (Mem.le.refl _)).2 _ hW).mono fun Q w' ⟨u,B,N,i,h2,h3,h4⟩=>?_;subst h3;subst h4;exact ⟨i,D2 h2⟩
 have aj:=AnyQ.slices_SortFunc K d.size (fun w=>by have:=G2 L M w;rwa [X] at this) (fun w=>ep L M w) a A (fun x u hu=>gD (QX.1 (i x) u hu)) s Y g ⟨p⟩ b 0 O l.toArray w (fun args w=>gc ad args w) ai hH af (by simpa using ab);refine aj.mono fun Q w' ⟨i,J,m,os,U,hs,ak⟩=>?_;subst ak;have V:J.size=l.length:=by simpa using U.1
 have W:=St.sorted (m:=m) id z (Sort.flatK a d.size J) (by simp [V]) os;simp only [List.map_id,sN a _ A] at W;exact ⟨_,C,_,i,W,J.toList,Z,Z,M6 U,Fl (by rw [V];simpa using hs)⟩
theorem xy (c:UInt8):∀ s:List UInt8,(c ∉ s/\Lib.index s [c]=-1)∨∃ a post,s=a++c::post/\c ∉ a/\Lib.index s [c]=a.length
 | []=>.inl ⟨by simp,by simp [Lib.index]⟩
 | b::s=>by
  by_cases d:b=c
  ·subst d;exact .inr ⟨[],s,Z,by simp,by simp [Lib.index]⟩
  have f:([c]:List UInt8).isPrefixOf (b::s)=false:=by simp [List.isPrefixOf,Ne.symm d]
  have e:Lib.index (b::s) [c]=if Lib.index s [c] == -1 then -1 else Lib.index s [c]+1:=by rw [Lib.index,f];simp
  rcases xy c s with ⟨h1,h2⟩ | ⟨a,post,h1,h2,h3⟩
  ·exact .inl ⟨by simp [Ne.symm d,h1],by rw [e,h2];rfl⟩
  refine .inr ⟨b::a,post,by simp [h1],by simp [Ne.symm d,h2], ?_⟩;rw [e,h3];have:¬ ((a.length:Int) == -1)=true:=by simp
  rw [aF this];simp
theorem rV (c:UInt8):∀ (k:Nat)(s:List UInt8),s.count c=k->Lib.splitK [c] 0 k s=cK c s
 | 0,s,h=>by
  rw [nK c s (List.count_eq_zero.1 h)];rfl
 | k+1,s,h=>by
  rcases xy c s with ⟨h1,_⟩ | ⟨a,post,h1,h2,h3⟩
  ·rw [List.count_eq_zero.2 h1] at h;omega
  have b:post.count c=k:=by
   rw [h1,List.count_append,List.count_eq_zero.2 h2,List.count_cons_self] at h;omega
  unfold Lib.splitK;rw [h3];have d:¬ ((a.length:Int) == -1)=true:=by simp
  rw [aF d];subst h1;have e:((a.length:Int).toNat+0)=a.length:=by simp
  have f:(a++c::post).drop ((a.length:Int).toNat+[c].length)=post:=by simp
  rw [e,f,rV c k post b,pe c a post h2];simp
theorem split_fn (k:Lays.n146 P ρ)(l:(P.info? (ρ.t 9)).map (fun i=>(i.zero,i.size,i.bytes))=some (some (.string ByteArray.empty),1,16))(C:Mem)(s:List UInt8)(c:UInt8){m:Int}(n:s.length<4294967281)(o:CCell C ⟨ρ.g 1,0,none⟩ (.int .i64 m))(q:Enters P (ρ.f 146)=true) :
  Pur P (ρ.f 146) [af s,af [c]] C fun v r=>Sl r 1 v ((cK c s).map fun p=>[af p]):=by
 refine ⟨q,fun w a=>?_⟩;have h:=Any.strings_Split k l ⟨s.toArray⟩ ⟨#[c]⟩ m w (by simpa [ByteArray.size] using n) (o.cell a) (by simp [ByteArray.size]);have x:Lib.countB ⟨s.toArray⟩ ⟨#[c]⟩=s.count c:=by
  show Lib.count s [c]=_;exact Lib.count_one c s
 have y:(Lib.splitB ⟨#[c]⟩ 0 (s.count c) ⟨s.toArray⟩).map (fun b=>b.data.toList)=cK c s:=by
  rw [Lib.splitB_data];exact rV c _ s Z
 have z:(Lib.splitB ⟨#[c]⟩ 0 (s.count c) ⟨s.toArray⟩).map Value.string=(cK c s).map af:=by
  rw [<- y,RC];apply List.map_congr_left;intro b _;obtain ⟨⟨b⟩⟩:=b;rfl
 rw [x,z] at h;refine h.mono fun D w' ⟨h1,A⟩=>?_;subst A;have h2:=(St.alloc (St.start a) (.cells ((cK c s).map af).toArray (ρ.t 9))).freeze;refine ⟨_,_,_,h1,h2.2,Z, ?_⟩;have d:=kz c s;have E:s.count c<=s.length:=List.count_le_length;have B:=Sl.ofBlock (C:=C.set w.heap.size (.cells ((cK c s).map af).toArray (ρ.t 9))) (c:=s.count c+1) (Mem.set_self C w.heap.size _) (rows:=(cK c s).map fun p=>[af p]) (s:=1) al (fun j u e=>by rw [eE] at e;simpa using e) (by simp [d]) (by simp only [maxLen];omega);simpa [d] using B
end
end Go.Jog
namespace Go.Jog
def Ly:List Nat->List Nat->Int
 | [],[]=>0
 | [],_::_=>-1
 | _::_,[]=>1
 | x::a,y::b=>if x<y then -1 else if y<x then 1 else Ly a b
end Go.Jog
namespace Go.Jog
open Go
theorem We {P:Program}{f:FuncId}{i:List Value}{C:Mem}{j:Value->Mem->List Ent->Prop}{Q:Value->Mem->Prop}(h:Fn P f i C [] j)
  (k:∀ v a c,j v a c->(c=[]/\Q v a)∨∃ u t s rows,c=[.arr u t s rows.length rows.flatten]/\(∀ r∈rows,r.length=s)/\∀ D,a.le D->Sl D s u rows->Q v D):Pur P f i C Q:=by
 refine ⟨h.1,fun w l=>(h.2 w l).mono ?_⟩;rintro e w' ⟨v,a,c,rfl,d,m⟩;rcases k _ _ _ m with ⟨rfl,g⟩ | ⟨u,t,s,rows,rfl,hr,g⟩
 ·exact ⟨v,a,[],Z,d,Z,g⟩
 obtain ⟨D,h1,h2,h3⟩:=St.freezeArr d hr rfl;exact ⟨v,D,[],Z,⟨h3.sep,h3.ev,fun b o n=>h1 b o (d.c0 b o n),h3.cn,h3.ln⟩,Z,g D h1 h2⟩
end Go.Jog
namespace Go.Jog
open Go
theorem VV {F:Fx}{d:Fr}{C:Mem}{L:List Ent}{p r b t:Nat}{k:List Value}{n:TypeId}{o:Nat × Nat}{f:TI}{x v:Value}(q:Ent.obj b (.cells ⟨k⟩ n o)∈L)(s:F.fn.results=#[.cell r t,.tmp p])
  (c:ev d [] (.tmp p)=some x) (u:ev d [] (.tmp r)=some (.pointer (some ⟨b,0,none⟩)))
  (y:F.cx.T.get t=some f) (z:cI f (k.take f.size)=some v) (h:F.post (.tuple #[v,x]) C []) (l:F.ends:=by exact ⟨fun _ _ _ h=>h,rfl⟩):G F [] .ret d C L:=fun _ a w g m=>by
 refine l.kq ?_;have i:=bM g (fun p c=>by cases c) c;have j:=bM g (fun p c=>by cases c) u;simp only [Act.eval] at i j;refine bodyPost_ret (v:=.tuple #[v,x]) ?_ (g.defers.trans l.2) ⟨_,C,[],Z,St.dropAll m,h⟩;have A:=fx (F:=F) y (m.sep.e _ q) z;simp only [RE] at i j;simp [results,s,i,j,asAddr,A]
end Go.Jog
namespace Go.Jog
structure Bq (A:List Arc3)(to n:Nat)(d:List Int)(qs:List Nat):Prop where
 rel:N8 A to n d
 que:∀ q∈qs,q<n/\0<=dAt d q
 srt:qs.Pairwise fun x y=>dAt d x<=dAt d y
 top:∀ q∈qs,∀ v,dAt d v<=dAt d q+1
 tight:∀ a∈A,a.up ∉ qs->N7 d a
structure Bi (A:List Arc3)(to n:Nat)(d:List Int)(h:Nat)(qs:List Nat)(T:Arc3->Prop):Prop where
 rel:N8 A to n d
 hh:h<n/\0<=dAt d h
 que:∀ q∈qs,q<n/\0<=dAt d q
 srt:qs.Pairwise fun x y=>dAt d x<=dAt d y
 topq:∀ q∈qs,dAt d h<=dAt d q
 top:∀ v,dAt d v<=dAt d h+1
 tight:∀ a∈A,a.up ∉ qs->a.up≠h->N7 d a
 tightT:∀ a∈A,a.up=h->T a->N7 d a
end Go.Jog
namespace Go.Proofs.YtfjcldheldflbaaGreatDoor
open Go.Proofs.Tryz
open Go Go.Jog
variable {C:Mem}{i k:Nat}{l:List Nat}{m n:Nat}{u v:Value}
def tab:Tab:=[(2,⟨.int .i64,1,8,[.int .i64],false⟩),
 (3,⟨.int .i64,1,8,[.int .i64],false⟩),
 (4,⟨.bool,1,1,[.bool],false⟩),
 (5,⟨.int .u8,1,1,[.int .u8],false⟩),
 (9,⟨.str,1,16,[.str],false⟩),
 (12,⟨.int .u64,1,8,[.int .u64],false⟩),
 (21,⟨.int .i32,1,4,[.int .i32],false⟩),
 (22,⟨.int .i8,1,1,[.int .i8],false⟩),
 (23,⟨.arr 2 22,2,2,[.int .i8,.int .i8],true⟩),
 (25,⟨.struct [(5,0),(23,1),(4,3)],4,4,[.int .u8,.int .i8,.int .i8,.bool],true⟩),
 (26,⟨.arr 6 22,6,6,[.int .i8,.int .i8,.int .i8,.int .i8,.int .i8,.int .i8],true⟩),
 (28,⟨.struct [(26,0),(4,6)],7,7,[.int .i8,.int .i8,.int .i8,.int .i8,.int .i8,.int .i8,.bool],true⟩),
 (29,⟨.slice 138,1,24,[.slice],false⟩),
 (31,⟨.struct [(25,0),(28,4),(29,11)],12,40,[.int .u8,.int .i8,.int .i8,.bool,.int .i8,.int .i8,.int .i8,.int .i8,.int .i8,.int .i8,.bool,.slice],true⟩),
 (32,⟨.str,1,16,[.str],false⟩),
 (34,⟨.struct [(32,0),(32,1)],2,32,[.str,.str],true⟩),
 (36,⟨.slice 34,1,24,[.slice],false⟩),
 (37,⟨.slice 65,1,24,[.slice],false⟩),
 (39,⟨.struct [(36,0),(37,1)],2,48,[.slice,.slice],true⟩),
 (40,⟨.slice 32,1,24,[.slice],false⟩),
 (41,⟨.slice 32,1,24,[.slice],false⟩),
 (42,⟨.slice 121,1,24,[.slice],false⟩),
 (43,⟨.slice 126,1,24,[.slice],false⟩),
 (45,⟨.struct [(39,0),(41,2),(42,3),(43,4)],5,120,[.slice,.slice,.slice,.slice,.slice],true⟩),
 (47,⟨.slice 140,1,24,[.slice],false⟩),
 (50,⟨.int .i64,1,8,[.int .i64],false⟩),
 (57,⟨.slice 3,1,24,[.slice],false⟩),
 (60,⟨.arr 3 32,3,48,[.str,.str,.str],true⟩),
 (61,⟨.arr 3 32,3,48,[.str,.str,.str],true⟩),
 (64,⟨.arr 3 3,3,24,[.int .i64,.int .i64,.int .i64],true⟩),
 (65,⟨.arr 3 3,3,24,[.int .i64,.int .i64,.int .i64],true⟩),
 (68,⟨.struct [(40,0)],1,24,[.slice],true⟩),
 (70,⟨.struct [(3,0),(32,1),(40,2),(68,3),(40,4)],5,96,[.int .i64,.str,.slice,.slice,.slice],true⟩),
 (74,⟨.struct [(3,0),(47,1),(40,2)],3,56,[.int .i64,.slice,.slice],true⟩),
 (82,⟨.slice 41,1,24,[.slice],false⟩),
 (90,⟨.arr 2 28,14,14,[.int .i8,.int .i8,.int .i8,.int .i8,.int .i8,.int .i8,.bool,.int .i8,.int .i8,.int .i8,.int .i8,.int .i8,.int .i8,.bool],true⟩),
 (104,⟨.struct [(82,0),(32,1),(68,2)],3,64,[.slice,.str,.slice],true⟩),
 (113,⟨.struct [(5,0),(5,1),(5,2)],3,3,[.int .u8,.int .u8,.int .u8],true⟩),
 (116,⟨.func,1,8,[.func],false⟩),
 (121,⟨.struct [(9,0),(32,1),(32,2)],3,48,[.str,.str,.str],true⟩),
 (124,⟨.struct [(32,0),(32,1),(32,2)],3,48,[.str,.str,.str],true⟩),
 (126,⟨.struct [(3,0),(9,1),(34,2),(32,4),(9,5),(9,6),(124,7)],10,152,[.int .i64,.str,.str,.str,.str,.str,.str,.str,.str,.str],true⟩),
 (127,⟨.slice 142,1,24,[.slice],false⟩),
 (135,⟨.arr 2 5,2,2,[.int .u8,.int .u8],true⟩),
 (136,⟨.arr 3 22,3,3,[.int .i8,.int .i8,.int .i8],true⟩),
 (138,⟨.struct [(5,0),(23,1),(135,3),(5,5),(136,6)],9,9,[.int .u8,.int .i8,.int .i8,.int .u8,.int .u8,.int .u8,.int .i8,.int .i8,.int .i8],true⟩),
 (140,⟨.struct [(40,0),(32,1)],2,40,[.slice,.str],true⟩),
 (142,⟨.struct [(3,0),(140,1)],3,48,[.int .i64,.slice,.str],true⟩),
 (144,⟨.arr 2 32,2,32,[.str,.str],true⟩),
 (152,⟨.arr 3 34,6,96,[.str,.str,.str,.str,.str,.str],true⟩),
 (160,⟨.slice 163,1,24,[.slice],false⟩),
 (163,⟨.arr 2 3,2,16,[.int .i64,.int .i64],true⟩),
 (174,⟨.func,1,8,[.func],false⟩),
 (181,⟨.slice 9,1,24,[.slice],false⟩),
 (188,⟨.str,1,16,[.str],false⟩),
 (196,⟨.struct [(3,0),(3,1)],2,16,[.int .i64,.int .i64],true⟩),
 (203,⟨.slice 5,1,24,[.slice],false⟩),
 (206,⟨.arr 3 9,3,48,[.str,.str,.str],true⟩),
 (211,⟨.int .u64,1,8,[.int .u64],false⟩),
 (214,⟨.map 34 4,1,8,[.map],false⟩),
 (221,⟨.ptr 231,1,8,[.ptr],false⟩),
 (228,⟨.struct [(32,0),(40,1)],2,40,[.str,.slice],true⟩),
 (229,⟨.slice 228,1,24,[.slice],false⟩),
 (231,⟨.struct [(3,0),(57,1),(229,2),(57,3),(228,4)],6,120,[.int .i64,.slice,.slice,.slice,.str,.slice],true⟩),
 (234,⟨.map 163 3,1,8,[.map],false⟩),
 (271,⟨.slice 285,1,24,[.slice],false⟩),
 (273,⟨.struct [(4,0),(271,1)],2,32,[.bool,.slice],true⟩),
 (278,⟨.struct [(34,0),(32,2)],3,48,[.str,.str,.str],true⟩),
 (279,⟨.arr 3 278,9,144,[.str,.str,.str,.str,.str,.str,.str,.str,.str],true⟩),
 (281,⟨.func,1,8,[.func],false⟩),
 (282,⟨.int .u32,1,4,[.int .u32],false⟩),
 (285,⟨.int .u64,1,8,[.int .u64],false⟩),
 (288,⟨.map 3 4,1,8,[.map],false⟩),
 (297,⟨.func,1,8,[.func],false⟩),
 (300,⟨.func,1,8,[.func],false⟩),
 (301,⟨.slice 40,1,24,[.slice],false⟩),
 (303,⟨.func,1,8,[.func],false⟩),
 (317,⟨.iface,1,16,[.iface],false⟩),
 (324,⟨.map 9 4,1,8,[.map],false⟩),
 (326,⟨.map 3 32,1,8,[.map],false⟩),
 (332,⟨.func,1,8,[.func],false⟩),
 (342,⟨.ptr 344,1,8,[.ptr],false⟩),
 (344,⟨.struct [(342,0),(203,1)],2,32,[.ptr,.slice],true⟩),
 (347,⟨.func,1,8,[.func],false⟩),
 (351,⟨.map 3 3,1,8,[.map],false⟩),
 (352,⟨.func,1,8,[.func],false⟩),
 (379,⟨.ptr 5,1,8,[.ptr],false⟩),
 (380,⟨.ptr 228,1,8,[.ptr],false⟩),
 (385,⟨.ptr 3,1,8,[.ptr],false⟩),
 (387,⟨.int .i64,1,8,[.int .i64],false⟩),
 (390,⟨.ptr 409,1,8,[.ptr],false⟩),
 (393,⟨.arr 24 5,24,24,[.int .u8,.int .u8,.int .u8,.int .u8,.int .u8,.int .u8,.int .u8,.int .u8,.int .u8,.int .u8,.int .u8,.int .u8,.int .u8,.int .u8,.int .u8,.int .u8,.int .u8,.int .u8,.int .u8,.int .u8,.int .u8,.int .u8,.int .u8,.int .u8],true⟩),
 (398,⟨.func,1,8,[.func],false⟩),
 (409,⟨.struct [(9,0),(9,1),(317,2)],3,48,[.str,.str,.iface],true⟩),
 (412,⟨.arr 20 285,20,160,[.int .u64,.int .u64,.int .u64,.int .u64,.int .u64,.int .u64,.int .u64,.int .u64,.int .u64,.int .u64,.int .u64,.int .u64,.int .u64,.int .u64,.int .u64,.int .u64,.int .u64,.int .u64,.int .u64,.int .u64],true⟩),
 (414,⟨.ptr 416,1,8,[.ptr],false⟩),
 (416,⟨.struct [(9,0)],1,16,[.str],true⟩),
 (417,⟨.arr 32 5,32,32,[.int .u8,.int .u8,.int .u8,.int .u8,.int .u8,.int .u8,.int .u8,.int .u8,.int .u8,.int .u8,.int .u8,.int .u8,.int .u8,.int .u8,.int .u8,.int .u8,.int .u8,.int .u8,.int .u8,.int .u8,.int .u8,.int .u8,.int .u8,.int .u8,.int .u8,.int .u8,.int .u8,.int .u8,.int .u8,.int .u8,.int .u8,.int .u8],true⟩),
 (421,⟨.arr 0 16,0,0,[],true⟩)]
noncomputable def cx:Cx:={ P:=Tryz.prog,T:=tab,mixed:=by kernel_rfl,hT:=by kernel_rfl }
abbrev Str:=List UInt8
/-! ### The model -/
structure Rel where
 kind:Int
 upper:Str
 lower:Str
 deriving DecidableEq,Inhabited
def qg (b:UInt8):Bool:=(decide (97<=(b.toNat:Int)) && decide ((b.toNat:Int)<=122)) || (decide (65<=(b.toNat:Int)) && decide ((b.toNat:Int)<=90))
def ye (b:UInt8):Bool:=(decide (48<=(b.toNat:Int)) && decide ((b.toNat:Int)<=57)) || ((b.toNat:Int) == 95)
def jR (k:Nat)(b:UInt8):Bool:=qg b || (!(k == 0) && ye b)
def ie:Nat->Str->Bool
 | _,[]=>true
 | k,b::s=>jR k b && ie (k+1) s
def cY (s:Str):Bool:=!(s == []) && decide (s.length<=32) && ie 0 s
theorem pS:∀ {s:Str}{k i:Nat}{b:UInt8},s[i]?=some b->jR (k+i) b=false->ie k s=false
 | [],k,i,b,h,_=>by simp at h
 | c::s,k,0,b,h,a=>by
  simp at h;subst h;simp only [Sh] at a;simp [ie,a]
 | c::s,k,i+1,b,h,a=>by
  have:=pS (k:=k+1) (by simpa using h) (by rw [show k+1+i=k+(i+1) by omega];exact a);simp [ie,this]
theorem nO:∀ {s:Str}{k:Nat},(∀ i b,s[i]?=some b->jR (k+i) b=true)->ie k s=true
 | [],k,_=>rfl
 | c::s,k,h=>by
  have h0:=h 0 c al;simp only [Sh] at h0;have h1:=nO (s:=s) (k:=k+1) (fun i b a=>by
   have:=h (i+1) b (by simpa using a)
   rwa [show k+(i+1)=k+1+i by omega] at this)
  simp [ie,h0,h1]
/-! ### IsName -/
set_option maxRecDepth 100000 in
theorem io (C:Mem)(s:Str)(D:s.length<1000000):Gives cx.P 285 [af s] C (.bool (cY s)):=by
 refine Ur func285 57 U3 fun w0=>?_;refine Uh 1 [0,2] Z ?_;refine Ui 6 Z fun R a=>?_;refine UN U8 ?_;refine Un [0,13] a Z ?_;refine G.cond Z (fun h=>?_) (fun h=>?_)
 ·refine Uh 1 [2] Z ?_;refine Up U2 ?_;refine ⟨?_,Z⟩;congr 1;simp only [SA,Sj,QK] at h;unfold cY;rcases h with h | h
  ·have:s=[]:=h;simp [this]
  have h2:¬ s.length<=32:=by omega
  simp [h2]
 simp only [Sr,Sv,Q7] at h;have q:s≠[]:=h.1;have r:s.length<=32:=by have:=h.2;omega
 refine Ui 1 Z fun R a=>?_;refine Wt Z Z Z Z Z Z Z Z Z Z (by simp only [maxLen];omega) fl_ (fun E _ _ g=>?_);have t:=g;obtain ⟨A,c,rfl,_⟩:=t;refine C6 2 [15,16,17] a Z ?_;refine G.loop (fun fr u j m=>∃ k:Nat,k<=s.length/\(∀ i b,i<k->s[i]?=some b->jR (0+i) b=true)/\fr=[(15,[],.slice A (s.map fun b=>[Value.int .u8 b.toNat]).length c),(16,[],.int .i64 (s.map fun b=>[Value.int .u8 b.toNat]).length),(17,[],.int .i64 k)]/\j=[]/\m=s.length-k) (m:=s.length) (hn_ [15,16,17] Z) ⟨0,QH _,fun i b v=>by omega,Z,Z,Z⟩ (fun fr u j m l w=>?_);obtain ⟨k,F,n,rfl,rfl,rfl⟩:=w;refine Uh 1 [15,16,17,18] Z ?_;refine G.cond Z (fun h=>?_) (fun h=>?_)
 ·simp only [ar,QK] at h;have x:k<s.length:=by omega
  obtain ⟨b,d⟩:∃ b,s[k]?=some b:=⟨s[k],aj x⟩;have y:=g.mono l;refine Ui 1 Z fun R a=>?_;refine Uy y U10 om_ (row:=[.int .u8 b.toNat]) (by simp [d]) fl_ (fun H z=>?_);refine Uj z U8 ?_;refine C6 2 [3,4,15,16,17] a Z ?_;refine Ui 5 Z fun R a=>?_;refine UJ U8 ?_;refine Um 6 Z ?_;refine UJ U8 ?_;refine UN U8 ?_;refine Uk U6 ?_;refine VC [E_ 3 _,E_ 4 _,(5,[],.bool (qg b)),E_ 15 _,E_ 16 _,E_ 17 _] a ?_;refine Ui 5 Z fun R a=>?_;refine UJ U8 ?_;refine Um 3 Z ?_;refine UN U8 ?_;refine Uk U6 ?_;refine VC [E_ 3 _,E_ 5 _,(6,[],.bool (ye b)),E_ 15 _,E_ 16 _,E_ 17 _] a ?_;refine Ui 8 Z fun R a=>?_;refine UN U8 ?_;refine UJ U8 ?_;refine VC [E_ 15 _,E_ 16 _,E_ 17 _,(55,[],.bool (!(qg b) && (((k:Int) == 0) || !(ye b))))] a ?_;have o:(!(qg b) && (((k:Int) == 0) || !(ye b)))=!(jR (0+k) b):=by
   have e:((k:Int) == 0)=(0+k == 0):=by
    rw [RK];by_cases p:k=0
    ·subst p;rfl
    have:¬ (k:Int)=0:=by omega
    rw [Sv.2 this,Sv.2 p]
   unfold jR;rw [e];cases qg b <;> cases ye b <;> cases (0+k == 0) <;> rfl
  refine G.cond Z (fun h=>?_) (fun h=>?_)
  ·rw [o] at h;refine Uh 1 [2] Z ?_;refine Up U2 ?_;refine ⟨?_,Z⟩;have:=pS (k:=0) d (by simpa using h);simp [cY,this]
  rw [o] at h;refine Ul fun R a=>?_;refine UQ ((k+1:Nat):Int) U4 om_ om_ om_ U2 ?_;refine C6 1 [15,16,17] a Z ?_;refine Uw (m':=s.length-(k+1)) om_ l (hn_ [15,16,17] Z) ⟨k+1,by omega, ?_,Z,Z,Z⟩;intro i B v f;rcases Q1 i k with h1 | h1
  ·exact n i B h1 f
  have:i=k:=by omega
  subst this;rw [d] at f;cases f
  simpa using h
 simp only [ar,Q7] at h;refine Uh 1 [2] Z ?_;refine Up U2 ?_;refine ⟨?_,Z⟩;have:=nO (s:=s) (k:=0) (fun i b d=>n i b (by have:=(aL.1 d).1;omega) d);simp [cY,this,q,r]
set_option maxRecDepth 100000
structure ArcE where
 lower:Str
 upper:Str
 deriving DecidableEq,Inhabited
theorem Py (a b:Str):(a == b)=decide (a=b):=by by_cases h:a=b <;> simp [h]
set_option maxRecDepth 100000
def LR (a b:Int):Int:=if a<b then -1 else if a=b then 0 else 1
/-! ### Comparisons -/
structure TotC {α:Type}(f:α->α->Int):Prop where
 eq:∀ x y,f x y=0 ↔ x=y
 sym:∀ x y,f x y<0 ↔ 0<f y x
 trans:∀ x y z,f x y<0->f y z<0->f x z<0
section
variable {α:Type} {f:α->α->Int}
variable [DecidableEq α]
def ins (f:α->α->Int)(x:α):List α->List α
 | []=>[x]
 | y::l=>if f y x<0 then y::ins f x l else if y=x then y::l else x::y::l
end
def oy (x:Int):List Value:=[.int .i64 x]
def aT (i:Nat):List Value:=[.int .i64 i]
abbrev PV (b:Nat):Value:=.pointer (some ⟨b,0,none⟩)
abbrev N4 (b:Nat)(q:Option Addr)(v:Value):Ent:=.obj b (.cells ⟨[.pointer q,v]⟩ 344 (0,0))
abbrev u8s (s:Str):List Value:=s.map fun c=>Value.int .u8 c.toNat
abbrev N5 (v:Value)(s:Str):Ent:=.arr v 5 1 s.length (u8s s)
theorem tk (C:Mem)(b:Nat)(q:Option Addr)(v:Value)(g:q=none∨q=some ⟨b,0,none⟩):Jog.Fn cx.P 296 [PV b] C [N4 b q v] fun _ _ d=>d=[N4 b (some ⟨b,0,none⟩) v]:=by
 refine Ur func296 20 U3 fun w0=>Uz (L':=[.obj b (.cells ⟨[.pointer q,v]⟩ 344 (0,0))]) Z<|Ui 3 Z fun R a=>Uo ag U9<|WD (e:=344) Z Z Z Z Z kr_ kr_ Z Z<|Un [0,6] a Z<|G.cd (fun c=>?_) fun c=>?_
 ·have h:q=none:=by simpa using c
  subst h;refine Ui 2 Z fun R a=>Ws (t:=344) Z Z Z Z Z ag kr_ kr_ kr_ al fl_<|Wv (fn:=Tryz.f323) Z Z Z Z Z func323 kr_ kr_ kr_ kr_ fl_<|WH (t:=344) Z Z Z Z Z ag kr_ kr_ kr_ kr_ fl_<|Um 2 Z<|Us (j:=0) U12<|Vp [] trivial (a _ _ _ Z ?_);refine Vv Z ?_;rfl
 have i:q=some ⟨b,0,none⟩:=by
  rcases g with rfl | rfl
  ·simp at c
  rfl
 subst i;refine Ui 3 Z fun R a=>Uo ag U9<|Uk U6<|Wr (e:=344) Z Z Z Z Z Z kr_ kr_ Z Z<|Un [19] a Z<|G.cd (fun f=>?_) fun f=>?_
 ·cases f
 refine Vv Z ?_;rfl
theorem vR (C:Mem)(b:Nat)(q:Option Addr)(v:Value)(s:Str)(c:UInt8)(i:q=none∨q=some ⟨b,0,none⟩)(m:s.length<=1000000000):Jog.Fn cx.P 253 [PV b,.int .u8 c.toNat] C [N4 b q v,N5 v s] fun _ _ a=>∃ h,a=[N4 b (some ⟨b,0,none⟩) h,N5 h (s++[c])]:=by
 refine Ur func253 17 U3 fun w0=>Uz (L':=[.obj b (.cells ⟨[.pointer q,v]⟩ 344 (0,0)),.arr v 5 1 s.length (u8s s)]) Z<|Uh 1 [0,1] Z<|UI [(1,3)] Z fun R d=>Uk U6<|D.call (tk _ b q v i) Z (.inr dc_) U6 (QI _) fl_ fun n _ o _ k=>Un [0,1] d Z ?_;subst k;refine Uz (L':=[.obj b (.cells ⟨[.pointer (some ⟨b,0,none⟩),v]⟩ 344 (0,0)),.arr v 5 1 s.length (u8s s)]) Z<|Ui 4 Z fun R d=>Uo ag U9<|Uk U6<|UF [[.int .u8 c.toNat]] U12 fun p _ _ l=>UP (j:=1) U11 l Z ax (by simp only [QA];omega) fl_ fun e f g=>Um 2 Z<|Us (j:=1) U12<|Vp [] trivial (d _ _ _ Z ?_);refine Uh 1 [4] Z<|G.perm (L':=[.obj b (.cells ⟨[.pointer (some ⟨b,0,none⟩),.slice e f g]⟩ 344 (0,0)),.arr (.slice e f g) 5 1 (s.length+1) (u8s s++[Value.int .u8 c.toNat])]) (QI _)<|Uv (UV Z Z ?_);exact ⟨.slice e f g,by simp [N5,u8s]⟩
theorem ku (C:Mem)(b:Nat)(q:Option Addr)(v:Value)(s t:Str)(e:q=none∨q=some ⟨b,0,none⟩)(g:s.length+t.length<=1000000000):Jog.Fn cx.P 256 [PV b,af t] C [N4 b q v,N5 v s] fun _ _ a=>∃ d,a=[N4 b (some ⟨b,0,none⟩) d,N5 d (s++t)]:=by
 refine Ur func256 19 U3 fun w0=>Uz (L':=[.obj b (.cells ⟨[.pointer q,v]⟩ 344 (0,0)),.arr v 5 1 s.length (u8s s)]) Z<|Uh 2 [0,1] Z<|UI [(1,3)] Z fun R c=>Uk U6<|D.call (tk _ b q v e) Z (.inr dc_) U6 (QI _) fl_ fun h _ i _ f=>Un [0,1] c Z ?_;subst f;refine Uz (L':=[.obj b (.cells ⟨[.pointer (some ⟨b,0,none⟩),v]⟩ 344 (0,0)),.arr v 5 1 s.length (u8s s)]) Z<|Ui 4 Z fun R c=>Uo ag U9<|Uk U6<|Wo (j:=1) Z Z Z Z Z Z Z Z Z Z Z Z Z Z Z om_ fl_ fun A2 n2 c2=>Um 2 Z<|Us (j:=1) U12<|Un [1] c Z<|Uh 4 [4,5] Z<|G.perm (L':=[.obj b (.cells ⟨[.pointer (some ⟨b,0,none⟩),.slice A2 n2 c2]⟩ 344 (0,0)),.arr (.slice A2 n2 c2) 5 1 (s.length+t.length) (u8s s++t.map fun b=>Value.int .u8 b.toNat)]) (QI _)<|Uv (UH U3 ?_);exact ⟨.slice A2 n2 c2,by simp [N5,u8s]⟩
theorem El (C:Mem)(b:Nat)(q:Option Addr)(v:Value)(s:Str)(a:s≠[])(g:s.length<=1000000000):Jog.Fn cx.P 257 [PV b] C [N4 b q v,N5 v s] fun u _ c=>u=af s/\c=[]:=by
 refine Ur func257 14 U3 fun w0=>Uz (L':=[.obj b (.cells ⟨[.pointer q,v]⟩ 344 (0,0)),.arr v 5 1 s.length (u8s s)]) Z<|G.form ae (fun d h=>?_);have i:=Rn.2 a;rcases d with ⟨h1,h2⟩ | ⟨g0,c0,rfl,k,l⟩
 ·omega
 exact Uh 1 [0] Z<|UD [0,1,2,3,4,5,6,7,8,9,10,11] [(4,0)] Z kr_ fun R m f=>Um 3 Z<|Uo ag U9<|Wq Z Z Z Z Z om_ Z Z<|Um 3 Z<|Uo ag U9<|Uk U6<|Wp (j:=1) (e:=5) Z Z Z Z kr_ kr_ Z Z Z a om_ fl_<|C6 1 [2] f Z<|Up U2<|⟨Z,Z⟩
def cN (x:Nat):List Value:=[.int .u64 x]
theorem eL (x:Nat):(cN x).length=1:=rfl
def NineC (C:Mem)(v:Value)(n:Nat):Prop:=∃ l,yH l/\bB l=n/\Sl C 1 v (l.map cN)
theorem NineC.mono {C D:Mem}{v:Value}{n:Nat}(h:NineC C v n)(a:C.le D):NineC D v n:=by
 obtain ⟨l,h1,h2,h3⟩:=h;exact ⟨l,h1,h2,h3.mono a⟩
theorem NineC.m_ {D:Mem}(h:NineC C v n)(a:C.le D:=by exact mup):NineC D v n:=NineC.mono h a
theorem Ba (C:Mem)(v:Value)(l:List Nat)(d:Sl C 1 v (l.map cN)):Pur cx.P 252 [v] C fun u f=>Sl f 1 u ((EN l).map cN):=by
 obtain ⟨p,c0,rfl,q,_⟩:=id d;simp only [ar] at d q ⊢;refine Ur func252 21 U3 fun w0=>Uh 1 [0] Z<|G.loop (fun fr f r s=>∃ (k:Nat)(A:Option Addr)(c:Nat),(k<=l.length/\Sl f 1 (.slice A k c) ((l.take k).map cN)/\nC l l.length=nC l k)/\fr=[(0,[],.slice A k c)]/\r=[]/\s=k+1) (hn_ [0] Z) ⟨l.length,p,c0,⟨Qz _,by rw [QM];exact d,Z⟩,Z,Z,Z⟩ (fun fr F H m _ t=>?_);obtain ⟨k,A,c,⟨I,hs,i⟩,rfl,rfl,rfl⟩:=t;obtain ⟨_,J,w,x,_⟩:=id hs;have K:maxLen<=9223372036854775807:=by simp [maxLen]
 have L:k<=c:=by
  rw [ar,QO] at x;injection w with h1 h2 h3;omega
 have y:0<k->((l.take k).map cN)[((k:Int)-1).toNat]?=some (cN (g9 l (k-1))):=fun h=>by
  rw [show ((k:Int)-1).toNat=k-1 by omega,QD,Rs,aJ om_,aj (by omega:k-1<l.length)];unfold g9;rw [am,aj (by omega:k-1<l.length)];rfl
 refine Ui 7 Z fun R g=>Uq _ Z U6<|D.index U10 (fun n=>⟨hs,(by have h:decide ((0:Int)<(k:Int))=true:=n.1;simp at h;omega),y (by have h:decide ((0:Int)<(k:Int))=true:=n.1;simp at h;omega)⟩) fl_ Z fun M z=>UM U6 z U3<|Uk U6<|UJ U8<|Un [0,14] g Z<|G.cd (fun b=>?_) fun b=>?_
 ·have a:0<k/\g9 l (k-1)=0:=by
   have:(0:Int)<(k:Int)/\((g9 l (k-1):Nat):Int)=0:=by simpa using b
   omega
  refine Ui 3 Z fun R g=>UQ (((k-1:Nat):Int)) U4 om_ om_ om_ U2<|Vg 0 (k-1) c U12 (fun _=>⟨.inl ⟨Z,Z⟩,.inr ⟨_,Z⟩,.inl ⟨Z,Z⟩,by omega,by omega,Qz _⟩) U2<|C6 1 [0] g Z ?_;have o:=Sl.sub hs (l:=0) (h:=k-1) (m:=c) (QH _) ap om_ (Qz _);have B:(((l.take k).map cN).take (k-1)).drop 0=(l.take (k-1)).map cN:=by
   rw [RR,<- SH,TL,RD om_]
  rw [B] at o;have E:nC l l.length=nC l (k-1):=by
   rw [i];obtain ⟨j,rfl⟩:∃ j,k=j+1:=⟨k-1,by omega⟩;simp only [SS] at a ⊢;rw [nC,aJ];unfold g9 at a;rw [am,aj om_] at a;rw [aj om_];exact congrArg some a.2
  refine Uw (m':=k-1+1) om_ mup (hn_ [0] Z) ⟨k-1,_,c,⟨by omega,o.mono mup,E⟩,Z,Z,Z⟩
 have a:¬ (0<k/\g9 l (k-1)=0):=fun hh=>by
  have h1:(decide ((0:Int)<(k:Int)) && (((g9 l (k-1):Nat):Int) == 0))=true:=by
   rw [hh.2];simp;omega
  rw [h1] at b;cases b
 refine Uh 2 [2] Z<|Up U2<|⟨Z, ?_⟩;have e:nC l k=k:=by
  cases k with
  | zero=>rfl
  | succ j =>
   simp only [SS] at a;rw [nC,aF];intro h;refine a ⟨by omega, ?_⟩;unfold g9;rw [am,h];rfl
 unfold EN;rw [i,e];exact hs
theorem gw (C:Mem)(v:Value)(l:List Nat)(b:l.length=n):Jog.Fn cx.P 252 [v] C [.arr v 285 1 n (l.map cN).flatten] fun u a c=>c=[]/\Sl a 1 u ((EN l).map cN) :=
 Jog.Fn.give (l.map cN) kr_ (by intro r hr;obtain ⟨y,_,rfl⟩:=QE.1 hr;rfl) (by rw [ar,b]) (fun a _ hs=>Ba a v l hs)
def jO (m n:Nat):Int:=if m<n then -1 else if n<m then 1 else 0
theorem je :jO m n<0 ↔ m<n:=by unfold jO;split <;> (try split) <;> omega
theorem Gi :0<jO m n ↔ n<m:=by unfold jO;split <;> (try split) <;> omega
theorem Gh (C:Mem)(w z:Value)(a b:List Nat)(d:Sl C 1 w (a.map cN))(f:Sl C 1 z (b.map cN))(n:yH a)(o:yH b):Gives cx.P 221 [w,z] C (.int .i64 (jO (bB a) (bB b))):=by
 have Y:maxLen<=9223372036854775807:=by simp [maxLen]
 obtain ⟨F,c0,rfl,H,aa,_⟩:=id d;obtain ⟨I,J,rfl,K,ab,_⟩:=id f;simp only [ar] at d f H K ⊢;refine Ur func221 41 U3 fun w0=>Uh 1 [0,1] Z<|Uh 5 [0,1,10] Z<|G.cd (fun g=>?_) fun g=>?_
 ·have ac:a.length≠b.length:=fun e=>by
   rw [e] at g;simp at g
  refine Uh 5 [15] Z<|G.cd (fun p=>?_) fun p=>?_
  ·have q:a.length<b.length:=by
    have:(a.length:Int)<b.length:=by simpa using p
    omega
   exact Uh 1 [4] Z<|Up U2<|⟨by rw [show jO (bB a) (bB b)=-1 from aJ (uK n.1 o q)],Z⟩
  have q:b.length<a.length:=by
   have:¬ (a.length:Int)<b.length:=by simpa using p
   omega
  have r:=uK o.1 n q;exact Uh 1 [4] Z<|Up U2<|⟨by rw [show jO (bB a) (bB b)=1 from by unfold jO;rw [aF om_,aJ r]],Z⟩
 have s:a.length=b.length:=by
  have:(a.length:Int)=b.length:=by simpa using g
  omega
 refine Ui 2 Z fun R c=>Uq _ Z U6<|C6 1 [0,1,5] c Z<|G.loop (fun fr C' L M=>∃ (k:Nat),(k<=a.length/\a.drop k=b.drop k)/\fr=[(0,[],.slice F a.length c0),(1,[],.slice I b.length J),(5,[],.int .i64 ((k:Int)-1))]/\L=[]/\M=k+1) (hn_ [0,1,5] Z) ⟨a.length,⟨Qz _,by rw [RN,s,RN]⟩,Z,Z,Z⟩ (fun fr ad ae m _ N=>?_);obtain ⟨k,⟨hk,i⟩,rfl,rfl,rfl⟩:=N;refine Uh 2 [0,1,5,20] Z<|G.cd (fun t=>?_) fun t=>?_
 ·have A:0<k:=by
   have:(0:Int)<=(k:Int)-1:=by simpa using t
   omega
  obtain ⟨j,rfl⟩:∃ j,k=j+1:=⟨k-1,by omega⟩;obtain ⟨x,l⟩:∃ x,a[j]?=some x:=⟨a[j],aj om_⟩;obtain ⟨y,hy⟩:∃ y,b[j]?=some y:=⟨b[j],aj om_⟩;have B:(a.map cN)[(((j+1:Nat):Int)-1).toNat]?=some (cN x):=by
   rw [show (((j+1:Nat):Int)-1).toNat=j by omega,QD,l];rfl
  have D:(b.map cN)[(((j+1:Nat):Int)-1).toNat]?=some (cN y):=by
   rw [show (((j+1:Nat):Int)-1).toNat=j by omega,QD,hy];rfl
  refine UD [0,1,2,3,4,5,6,7,8] [] Z kr_ fun R O c=>Um 2 Z<|Uy d.m_ U10 om_ B fl_ fun af Q=>Uj Q U8<|Um 2 Z<|Uy f.m_ U10 om_ D fl_ fun ag S=>Uj S U8<|C6 1 [0,1,5,31] c Z<|G.cd (fun u=>?_) fun u=>?_
  ·have E:x≠y:=fun h=>by
    subst h;simp at u
   refine UD [0,1,2,3,4,5,6,7,8] [] Z kr_ fun R O c=>Um 2 Z<|Uy d.m_ U10 om_ B fl_ fun ah T=>Uj T U8<|Um 2 Z<|Uy f.m_ U10 om_ D fl_ fun ai U=>Uj U U8<|C6 1 [40] c Z<|G.cd (fun v=>?_) fun v=>?_
   ·have E:x<y:=by
     have:(x:Int)<y:=by simpa using v
     omega
    exact Uh 1 [4] Z<|Up U2<|⟨by rw [show jO (bB a) (bB b)=-1 from aJ (LV n.1 s l hy E i)],Z⟩
   have V:y<x:=by
    have:¬ (x:Int)<y:=by simpa using v
    omega
   have r:=LV o.1 s.symm hy l V i.symm;exact Uh 1 [4] Z<|Up U2<|⟨by rw [show jO (bB a) (bB b)=1 from by unfold jO;rw [aF om_,aJ r]],Z⟩
  have W:x=y:=by
   have:(x:Int)=y:=by simpa using u
   omega
  refine Ui 1 Z fun R c=>Uq _ Z U6<|C6 1 [0,1,5] c Z ?_;rw [show ((j+1:Nat):Int)-1-1=(j:Int)-1 by omega];refine Uw (m':=j+1) om_ mup (hn_ [0,1,5] Z) ⟨j,⟨by omega,by
   rw [Q0 (by omega:j<a.length),Q0 (by omega:j<b.length),i,(aL.1 l).2,(aL.1 hy).2,W]⟩,rfl,rfl,rfl⟩
 have A:k=0:=by
  have:¬ (0:Int)<=(k:Int)-1:=by simpa using t
  omega
 subst A;refine Uh 1 [4] Z<|Up U2 ?_;have X:a=b:=by simpa using i
 subst X;exact ⟨by rw [show jO (bB a) (bB a)=0 from by unfold jO;rw [aF om_,aF om_]],Z⟩
theorem xI (h:i<l.length):l[i]?=some (g9 l i):=by rw [aj h,zz (aj h)]
theorem jq (h:i<l.length):(l.map cN)[i]?=some (cN (g9 l i)):=by rw [QD,xI h];rfl
theorem LG (h:l.length<=i):g9 l i=0:=by
 unfold g9;rw [am,QJ h];rfl
theorem B9v:B9=1000000000:=rfl
theorem M3 (C:Mem)(E F:Value)(a b:List Nat)(q:Sl C 1 E (a.map cN))(r:Sl C 1 F (b.map cN))(H:Dig9 a)(I:Dig9 b)(O:a.length<=10000000)(Q:b.length<=10000000) :
  Pur cx.P 220 [E,F] C fun u k=>NineC k u (bB a+bB b):=by
 obtain ⟨A0,c0,rfl,_⟩:=id q;obtain ⟨B0,d0,rfl,_⟩:=id r;simp only [ar] at q r ⊢;have hB:=B9v;refine Ur func220 53 U3 fun w0=>Uh 1 [0,1] Z<|Uh 5 [0,1,13] Z<|G.cut (fun fr k l o=>∃ (e lb:List Nat)(A:Option Addr)(c:Nat)(B:Option Addr)(d:Nat),(Sl k 1 (.slice A e.length c) (e.map cN)/\Sl k 1 (.slice B lb.length d) (lb.map cN)/\lb.length<=e.length/\bB e+bB lb=bB a+bB b/\Dig9 e/\Dig9 lb/\e.length<=10000000)/\fr=[(0,[],.slice A e.length c),(1,[],.slice B lb.length d)]/\l=[]) ?_ (fun fr _ ai o _ p=>?_)
 ·refine G.cd (fun t=>?_) fun t=>?_
  ·have S:a.length<b.length:=by
    have:(a.length:Int)<b.length:=by simpa using t
    omega
   refine Uh 4 [0,1] Z<|Ux 0 (Mem.le.refl _) (hn_ [0,1] Z) ⟨b,a,_,_,_,_,⟨r.mono mup,q.mono mup,by omega,by omega,I,H,Q⟩,Z,Z⟩
  have S:¬ a.length<b.length:=fun h=>by
   have:(a.length:Int)<b.length:=by omega
   simp [this] at t
  refine Ux 0 (Mem.le.refl _) (hn_ [0,1] Z) ⟨a,b,_,_,_,_,⟨q.mono mup,r.mono mup,by omega,Z,H,I,O⟩,Z,Z⟩
 obtain ⟨e ,lb ,A ,c ,B ,d,⟨T,U,V,W,X,Y,aj⟩,rfl,rfl⟩:=p;refine Ui 2 Z fun R g=>Uq _ Z U6<|Vl U9 (QH _) (by show 8*(e.length+1)<=281474976710656;omega) (by simp only [maxLen];omega) fl_ fun ak=>C6 1 [0,1,5] g Z<|Uh 1 [0,1,5,6] Z<|Uh 3 [1,5,6,20,21,22] Z<|G.loop (fun fr k l o=>∃ (i:Nat)(out:List Nat)(f:Nat)(w:Value),(i<=e.length/\out.length=i/\Dig9 out/\f<=1/\bB out+B9 ^ i*f=bB (e.take i)+bB (lb.take i))/\fr=[(1,[],.slice B lb.length d),(5,[],w),(6,[],.int .u64 f),(20,[],.slice A e.length c),(21,[],.int .i64 e.length),(22,[],.int .i64 i)]/\l=[.arr w 285 1 i (out.map cN).flatten]/\o=e.length-i) (hn_ [1,5,6,20,21,22] Z) ⟨0,[],0,_,⟨QH _,Z,(fun x hx=>(by cases hx)),by omega,Z⟩,Z,Z,Z⟩ (fun fr al am m _ p=>?_);obtain ⟨i,out,f,w,⟨hi,s,J,K,L⟩,rfl,rfl,rfl⟩:=p;refine Uh 1 [1,5,6,20,21,22,23] Z<|G.cd (fun v=>?_) fun v=>?_
 ·have y:i<e.length:=by simpa using v
  have aa:=kW X i;have ab:=kW Y i;refine Ui 1 Z fun R g=>Uy T.m_ U10 om_ (jq (i:=i) y) fl_ fun an ac=>Uj ac U8<|C6 2 [1,5,6,7,8,20,21,22] g Z<|Ui 2 Z fun R g=>D.int (((f+g9 e i:Nat):Int)) U4 (by rw [IntKind.wrap_u64];omega) U2<|C6 1 [1,5,6,7,20,21,22] g Z<|Uh 4 [1,5,6,7,20,21,22,33] Z<|G.cut (fun fr k l o=>(True)/\fr=[(1,[],.slice B lb.length d),(5,[],w),(6,[],.int .u64 ((f+g9 e i+g9 lb i:Nat):Int)),(20,[],.slice A e.length c),(21,[],.int .i64 e.length),(22,[],.int .i64 i)]/\l=[.arr w 285 1 i (out.map cN).flatten]) ?_ (fun fr _ ao o _ p=>?_)
  ·refine G.cd (fun z=>?_) fun z=>?_
   ·have ad:i<lb.length:=by simpa using z
    refine Ui 3 Z fun R g=>Uy U.m_ U10 om_ (jq (i:=i) ad) fl_ fun ap ae=>Uj ae U8<|D.int (((f+g9 e i+g9 lb i:Nat):Int)) U4 (by rw [IntKind.wrap_u64];omega) U2<|C6 1 [1,5,6,20,21,22] g Z<|Ux 0 (Mem.le.refl _) (hn_ [1,5,6,20,21,22] Z) ⟨trivial,Z,Z⟩
   have hz:g9 lb i=0:=LG (by have h:¬ i<lb.length:=(by simpa using z);omega);refine Ux 0 (Mem.le.refl _) (hn_ [1,5,6,20,21,22] Z) ⟨trivial,by rw [hz];rfl,Z⟩
  obtain ⟨aq,rfl,rfl⟩:=p;refine Ui 2 Z fun R g=>Vc (f+g9 e i+g9 lb i) (B9) U6 om_ U2<|UF [cN ((f+g9 e i+g9 lb i) % B9)] U12 fun au _ _ af=>D.append (j:=0) U11 af Z ax (by show (i+1)*8<=_;omega) fl_ fun M=>C6 1 [1,5,6,20,21,22] g Z<|Ui 1 Z fun R g=>Vn (f+g9 e i+g9 lb i) (B9) U6 om_ (.inr ⟨Z,by omega⟩) U2<|C6 1 [1,5,6,20,21,22] g Z<|Ul fun R g=>Uq _ Z U6<|C6 1 [1,5,6,20,21,22] g Z ?_;have N:f+g9 e i+g9 lb i=g9 e i+g9 lb i+f:=by omega
  refine Uz (L':=[.arr M 285 1 (i+1) ((out++[(g9 e i+g9 lb i+f) % B9]).map cN).flatten]) (by rw [N];simp [cN]) ?_;rw [N];refine Uw (m':=e.length-(i+1)) om_ mup (hn_ [1,5,6,20,21,22] Z) ⟨i+1,out++[(g9 e i+g9 lb i+f) % B9],(g9 e i+g9 lb i+f) / B9,M,⟨by omega,by simp [s],J.snoc (Rj _ dc_),H0 aa ab K,Ic s L⟩,Z,Z,Z⟩
 have y:i=e.length:=by
  have:¬ i<e.length:=by simpa using v
  omega
 refine UI [(4,3)] Z fun R g=>Um 2 Z<|UF [cN f] U12 fun av _ _ ag=>D.append (j:=0) U11 ag Z ax (by show (i+1)*8<=_;omega) fl_ fun aw=>D.call (gw _ _ (out++[f]) (n:=i+1) (by simp [s])) Z (.inr dc_) U6 (by rw [Rh,Ro];exact QI _) fl_ (fun ay _ az _ ah=>?_);obtain ⟨rfl,hu⟩:=ah;refine C6 1 [4] g Z<|Up U2<|⟨Z,EN (out++[f]),iD (J.snoc (Rw K dc_)), ?_,hu⟩;rw [iC,iT,s,L,y,QM,Rf V,W]
theorem JT (C:Mem)(H I:Value)(a b:List Nat)(q:Sl C 1 H (a.map cN))(r:Sl C 1 I (b.map cN))(L:Dig9 a)(J:Dig9 b)(ac:a.length<=10000000)(M:b.length<=a.length)(ad:bB b<=bB a) :
  Pur cx.P 222 [H,I] C fun u k=>NineC k u (bB a-bB b):=by
 obtain ⟨s,c0,rfl,_⟩:=id q;obtain ⟨t,v,rfl,_⟩:=id r;simp only [ar] at q r ⊢;have N:=B9v;refine Ur func222 45 U3 fun w0=>Uh 1 [0,1] Z<|Ui 2 Z fun R d=>Vl U9 (QH _) (by show 8*a.length<=281474976710656;omega) (by simp only [maxLen];omega) fl_ fun ae=>C6 1 [0,1,5] d Z<|Uh 1 [0,1,5,6] Z<|Uh 3 [1,5,6,13,14,15] Z<|G.loop (fun fr k e f=>∃ (i:Nat)(out:List Nat)(c:Nat)(w:Value),(i<=a.length/\out.length=i/\Dig9 out/\c<=1/\bB out+bB (b.take i)=bB (a.take i)+B9 ^ i*c)/\fr=[(1,[],.slice t b.length v),(5,[],w),(6,[],.int .u64 c),(13,[],.slice s a.length c0),(14,[],.int .i64 a.length),(15,[],.int .i64 i)]/\e=[.arr w 285 1 i (out.map cN).flatten]/\f=a.length-i) (hn_ [1,5,6,13,14,15] Z) ⟨0,[],0,_,⟨QH _,Z,(fun x O=>(by cases O)),by omega,Z⟩,Z,Z,Z⟩ (fun fr af ag m _ g=>?_);obtain ⟨i,out,c,w,⟨hi,l,y,z,o⟩,rfl,rfl,rfl⟩:=g;refine Uh 1 [1,5,6,13,14,15,16] Z<|G.cd (fun A=>?_) fun A=>?_
 ·have p:i<a.length:=by simpa using A
  have Q:=kW L i;have S:=kW J i;refine Ui 1 Z fun R d=>Uy q.m_ U10 om_ (jq (i:=i) p) fl_ fun ah T=>Uj T U8<|C6 2 [1,5,6,7,8,13,14,15] d Z<|Uh 2 [1,5,7,8,9,13,14,15] Z<|Uh 4 [1,5,7,8,9,13,14,15,24] Z<|G.cut (fun fr k e f=>(True)/\fr=[(1,[],.slice t b.length v),(5,[],w),(8,[],.int .u64 (g9 a i)),(9,[],.int .u64 ((c+g9 b i:Nat):Int)),(13,[],.slice s a.length c0),(14,[],.int .i64 a.length),(15,[],.int .i64 i)]/\e=[.arr w 285 1 i (out.map cN).flatten]) ?_ (fun fr _ ai f _ g=>?_)
  ·refine G.cd (fun B=>?_) fun B=>?_
   ·have U:i<b.length:=by simpa using B
    refine Ui 3 Z fun R d=>Uy r.m_ U10 om_ (jq (i:=i) U) fl_ fun aj V=>Uj V U8<|D.int (((c+g9 b i:Nat):Int)) U4 (by rw [IntKind.wrap_u64];omega) U2<|C6 1 [1,5,8,9,13,14,15] d Z<|Ux 0 (Mem.le.refl _) (hn_ [1,5,8,9,13,14,15] Z) ⟨trivial,Z,Z⟩
   have W:g9 b i=0:=LG (by have h:¬ i<b.length:=(by simpa using B);omega);refine Ux 0 (Mem.le.refl _) (hn_ [1,5,8,9,13,14,15] Z) ⟨trivial,by rw [W];rfl,Z⟩
  obtain ⟨ak,rfl,rfl⟩:=g;refine Uh 1 [1,5,6,8,9,13,14,15] Z<|Uh 3 [1,5,6,8,9,13,14,15,33] Z<|G.cut (fun fr k e f=>(True)/\fr=[(1,[],.slice t b.length v),(5,[],w),(6,[],.int .u64 ((vP (g9 a i) (g9 b i) c:Nat):Int)),(8,[],.int .u64 ((g9 a i+B9*vP (g9 a i) (g9 b i) c:Nat):Int)),(9,[],.int .u64 ((c+g9 b i:Nat):Int)),(13,[],.slice s a.length c0),(14,[],.int .i64 a.length),(15,[],.int .i64 i)]/\e=[.arr w 285 1 i (out.map cN).flatten]) ?_ (fun fr _ al f _ g=>?_)
  ·refine G.cd (fun E=>?_) fun E=>?_
   ·have F:vP (g9 a i) (g9 b i) c=1:=by
     have:(g9 a i:Int)<((c+g9 b i:Nat):Int):=by simpa using E
     unfold vP;rw [aJ om_]
    refine Ui 1 Z fun R d=>D.int (((g9 a i+B9*1:Nat):Int)) U4 (by rw [IntKind.wrap_u64];omega) U2<|C6 2 [1,5,6,8,9,13,14,15] d Z<|Ux 0 (Mem.le.refl _) (hn_ [1,5,6,8,9,13,14,15] Z) ⟨trivial,by rw [F];rfl,Z⟩
   have F:vP (g9 a i) (g9 b i) c=0:=by
    have:¬ (g9 a i:Int)<((c+g9 b i:Nat):Int):=by simpa using E
    unfold vP;rw [aF om_]
   refine Ux 0 (Mem.le.refl _) (hn_ [1,5,6,8,9,13,14,15] Z) ⟨trivial,by rw [F];rfl,Z⟩
  obtain ⟨am,rfl,rfl⟩:=g;refine Ui 3 Z fun R d=>?_;have an:vP (g9 a i) (g9 b i) c<=1:=H4 _ _ _;have X:c+g9 b i<=g9 a i+B9*vP (g9 a i) (g9 b i) c:=by
   unfold vP;split <;> omega
  refine D.int (((HC (g9 a i) (g9 b i) c:Nat):Int)) U4 (by rw [IntKind.wrap_u64];unfold HC;rw [N] at X ⊢;omega) U2<|UF [cN (HC (g9 a i) (g9 b i) c)] U12 fun ao _ _ Y=>D.append (j:=0) U11 Y Z ax (by show (i+1)*8<=_;omega) fl_ fun K=>C6 1 [1,5,6,13,14,15] d Z<|Ul fun R d=>Uq _ Z U6<|C6 1 [1,5,6,13,14,15] d Z<|Uz (L':=[.arr K 285 1 (i+1) ((out++[HC (g9 a i) (g9 b i) c]).map cN).flatten]) (by simp [cN])<|Uw (m':=a.length-(i+1)) om_ mup (hn_ [1,5,6,13,14,15] Z) ⟨i+1,out++[HC (g9 a i) (g9 b i) c],vP (g9 a i) (g9 b i) c,K,⟨by omega,by simp [l],y.snoc (NM Q S z),H4 _ _ _,Fi J z l o⟩,Z,Z,Z⟩
 have p:i=a.length:=by
  have:¬ i<a.length:=by simpa using A
  omega
 refine UI [(1,3)] Z fun R d=>Uk U6<|D.call (gw _ _ out (n:=i) l) Z (.inr dc_) U6 (QI _) fl_ (fun ap _ aq _ aa=>?_);obtain ⟨rfl,hu⟩:=aa;refine C6 1 [4] d Z<|Up U2<|⟨Z,EN out,iD y, ?_,hu⟩;rw [p,QM,Rf M] at o;have h0:=iU y;rw [l,p] at h0;have ab:c=0:=by
  rcases Nat.le_one_iff_eq_zero_or_eq_one.1 z with h | h
  ·exact h
  rw [h,RY] at o;omega
 rw [ab,Uf] at o;rw [iC];omega
abbrev qU (g c n:Nat):Value:=.slice (some ⟨g,0,none⟩) n c
theorem EO (n:Nat):kG ([.int .u64 0]:List Value) n=((List.replicate n 0).map cN).flatten:=by
 rw [fa,Ta];rfl
theorem qC {j z:Nat}(h:i≠j):g9 (l.set i z) j=g9 l j:=by
 unfold g9;rw [am,am,TC h]
theorem Cp (n j:Nat):g9 (List.replicate n 0) j=0:=by
 unfold g9;rw [am,RZ];split <;> rfl
theorem IM (C:Mem)(T U:Value)(a b:List Nat)(w:Sl C 1 T (a.map cN))(y:Sl C 1 U (b.map cN))(ah:Dig9 a)(aj:Dig9 b)(aw:a.length<=1000000)(ax:b.length<=1000000) :
  Pur cx.P 190 [T,U] C fun u s=>NineC s u (bB a*bB b):=by
 obtain ⟨A,c0,rfl,_⟩:=id w;obtain ⟨t,v,rfl,_⟩:=id y;simp only [ar] at w y ⊢;have hB:=B9v;obtain ⟨N,hN⟩:∃ N,a.length+b.length+1=N:=⟨_,rfl⟩;refine Ur func190 79 U3 fun w0=>Uh 1 [0,1] Z<|Ui 4 Z fun R d=>UQ (((a.length+b.length:Nat):Int)) U4 om_ om_ om_ U2<|UQ (((N:Nat):Int)) U4 om_ om_ om_ U2<|Vl U9 (Qz _) (by show 8*N<=281474976710656;omega) (by simp only [maxLen];omega) fl_ fun f=>C6 1 [0,1,5] d Z<|Uh 3 [1,5,19,20,21] Z<|Uz (L':=[.arr (qU f N N) 285 1 N ((List.replicate N 0).map cN).flatten]) (by rw [<- EO];rfl)<|G.loop (fun fr s g n=>∃ (i:Nat)(o:List Nat),(i<=a.length/\o.length=N/\Dig9 o/\bB o=bB (a.take i)*bB b/\∀ j,i+b.length<=j->g9 o j=0)/\fr=[(1,[],.slice t b.length v),(5,[],qU f N N),(19,[],.slice A a.length c0),(20,[],.int .i64 a.length),(21,[],.int .i64 i)]/\g=[.arr (qU f N N) 285 1 N (o.map cN).flatten]/\n=a.length-i) (hn_ [1,5,19,20,21] Z) ⟨0,List.replicate N 0,⟨QH _,Rb,(fun x l=>by rw [Sz l];decide),by rw [rS (fun x l=>Sz l)];simp [bB],fun j _=>Cp _ j⟩,Z,Z,Z⟩ (fun fr ay az m _ p=>?_);obtain ⟨i,o,⟨hi,V,W,X,hz⟩,rfl,rfl,rfl⟩:=p;refine Uh 1 [1,5,19,20,21,22] Z<|G.cd (fun B=>?_) fun B=>?_
 ·have E:i<a.length:=by simpa using B
  have l:=kW ah i;refine Ui 1 Z fun R d=>Uy w.m_ U10 om_ (jq (i:=i) E) fl_ fun aA ak=>Uj ak U8<|C6 2 [1,5,6,7,19,20,21] d Z<|Uh 1 [1,5,6,7,8,19,20,21] Z<|Uh 3 [1,5,6,7,8,19,20,21,26,27,28] Z<|G.loop (fun fr s g n=>∃ (k:Nat)(q:List Nat)(c:Nat),(k<=b.length/\q.length=N/\Dig9 q/\c<B9/\bB q+B9 ^ (i+k)*c=bB o+B9 ^ i*(g9 a i*bB (b.take k))/\∀ j,i+b.length<=j->g9 q j=0)/\fr=[(1,[],.slice t b.length v),(5,[],qU f N N),(6,[],.int .i64 i),(7,[],.int .u64 (g9 a i)),(8,[],.int .u64 c),(19,[],.slice A a.length c0),(20,[],.int .i64 a.length),(21,[],.int .i64 i),(26,[],.slice t b.length v),(27,[],.int .i64 b.length),(28,[],.int .i64 k)]/\g=[.arr (qU f N N) 285 1 N (q.map cN).flatten]/\n=b.length-k) (hn_ [1,5,6,7,8,19,20,21,26,27,28] Z) ⟨0,o,0,⟨QH _,V,W,by decide,by simp [bB],hz⟩,Z,Z,Z⟩ (fun fr aB aC m _ p=>?_);obtain ⟨k,q,c,⟨hk,F,H,I,J,K⟩,rfl,rfl,rfl⟩:=p;refine Uh 1 [1,5,6,7,8,19,20,21,26,27,28,29] Z<|G.cd (fun L=>?_) fun L=>?_
  ·have M:k<b.length:=by simpa using L
   have hy:=kW aj k;have Y:=kW H (i+k);have aa:q[i+k]?=some (g9 q (i+k)):=xI om_;have al:=sr I l hy Y;rw [show B9*B9=1000000000000000000 from rfl] at al;refine Ui 1 Z fun R d=>Uy y.m_ U10 om_ (jq (i:=k) M) fl_ fun aD am=>Uj am U8<|C6 2 [1,5,6,7,8,9,10,19,20,21,26,27,28] d Z<|Ui 4 Z fun R d=>UQ (((i+k:Nat):Int)) U4 om_ om_ om_ U2<|UL ((i+k)*1) U10 ai U2<|U1 ag U6 (fun _=>(by rw [eg eL aa];rfl)) U2<|Um 2 Z<|D.int (((g9 a i*g9 b k:Nat):Int)) U4 (by rw [<- Ra,IntKind.wrap_u64];omega) U2<|D.int (((g9 q (i+k)+g9 a i*g9 b k:Nat):Int)) U4 (by rw [IntKind.wrap_u64];omega) U2<|D.int (((c+g9 a i*g9 b k+g9 q (i+k):Nat):Int)) U4 (by rw [IntKind.wrap_u64];omega) U2<|C6 1 [1,5,6,7,8,9,19,20,21,26,27,28] d Z<|Ui 3 Z fun R d=>UQ (((i+k:Nat):Int)) U4 om_ om_ om_ U2<|Uk U6<|Vc (c+g9 a i*g9 b k+g9 q (i+k)) (B9) U6 om_ U2<|UL ((i+k)*1) U10 ai U2<|UO (j:=0) U11 (by show (i+k)*1+1<=_;rw [bR eL,F];omega)<|Un [1,5,6,7,8,19,20,21,26,27,28] d Z<|Ui 1 Z fun R d=>Vn (c+g9 a i*g9 b k+g9 q (i+k)) (B9) U6 om_ (.inr ⟨Z,by omega⟩) U2<|C6 1 [1,5,6,7,8,19,20,21,26,27,28] d Z<|Ul fun R d=>Uq _ Z U6<|C6 1 [1,5,6,7,8,19,20,21,26,27,28] d Z<|Uz (L':=[.arr (qU f N N) 285 1 N ((q.set (i+k) ((c+g9 a i*g9 b k+g9 q (i+k)) % B9)).map cN).flatten]) (by rw [<- bK eL _ (by omega:i+k<q.length)];rfl)<|Uw (m':=b.length-(k+1)) om_ mup (hn_ [1,5,6,7,8,19,20,21,26,27,28] Z) ⟨k+1,q.set (i+k) ((c+g9 a i*g9 b k+g9 q (i+k)) % B9),(c+g9 a i*g9 b k+g9 q (i+k)) / B9,⟨by omega,by simp [F],H.set (Rj _ dc_),HZ I l hy Y,Gv aa Z J,fun j r=>by rw [qC om_];exact K j r⟩,Z,Z,Z⟩
  have M:k=b.length:=by
   have:¬ k<b.length:=by simpa using L
   omega
  refine Ui 3 Z fun R d=>UQ (((i+b.length:Nat):Int)) U4 om_ om_ om_ U2<|C6 1 [1,5,8,11,19,20,21] d Z<|G.loop (fun fr s g n=>∃ (m:Nat)(e:List Nat)(c2:Nat),(i+b.length<=m/\m<=i+b.length+1/\e.length=N/\Dig9 e/\c2<B9/\(m=i+b.length+1->c2=0)/\(m=i+b.length->g9 e m=0)/\bB e+B9 ^ m*c2=bB o+B9 ^ i*(g9 a i*bB b)/\∀ j,i+b.length+1<=j->g9 e j=0)/\fr=[(1,[],.slice t b.length v),(5,[],qU f N N),(8,[],.int .u64 c2),(11,[],.int .i64 m),(19,[],.slice A a.length c0),(20,[],.int .i64 a.length),(21,[],.int .i64 i)]/\g=[.arr (qU f N N) 285 1 N (e.map cN).flatten]/\n=2-(m-(i+b.length))) (hn_ [1,5,8,11,19,20,21] Z) ⟨i+b.length,q,c,⟨Qz _,by omega,F,H,I,fun h=>by omega,fun _=>K _ (Qz _),by rw [M,QM] at J;exact J,fun j r=>K j om_⟩,Z,Z,Z⟩ (fun fr aE aF m _ p=>?_);obtain ⟨m,e,c2,⟨aG,aH,O,ab,Q,an,ao,ac,ad⟩,rfl,rfl,rfl⟩:=p;refine Uh 2 [1,5,8,11,19,20,21,60] Z<|G.cd (fun h60=>?_) fun h60=>?_
  ·have ae:0<c2:=by
    have:(0:Int)<(c2:Int):=by simpa using h60
    omega
   have ap:m=i+b.length:=by
    rcases Q1 m (i+b.length+1) with h | h
    ·omega
    have:=an om_;omega
   have S:=ao ap;have af:e[m]?=some (g9 e m):=xI om_;refine Ui 3 Z fun R d=>UL (m*1) U10 ai U2<|U1 ag U6 (fun _=>(by rw [eg eL af];rfl)) U2<|D.int (((c2+g9 e m:Nat):Int)) U4 (by rw [IntKind.wrap_u64];omega) U2<|C6 1 [1,5,8,11,19,20,21] d Z<|Ui 3 Z fun R d=>Vc (c2+g9 e m) (B9) U6 om_ U2<|UL (m*1) U10 ai U2<|UO (j:=0) U11 (by show m*1+1<=_;rw [bR eL,O];omega)<|Un [1,5,8,11,19,20,21] d Z<|Ui 1 Z fun R d=>Vn (c2+g9 e m) (B9) U6 om_ (.inr ⟨Z,by omega⟩) U2<|C6 1 [1,5,8,11,19,20,21] d Z<|Ui 1 Z fun R d=>Uq _ Z U6<|C6 1 [1,5,8,11,19,20,21] d Z ?_;have aq:(c2+g9 e m) % B9=c2:=by rw [S,Sh];exact TA Q
   have au:(c2+g9 e m) / B9=0:=by rw [S,Sh];exact S3 Q
   refine Uz (L':=[.arr (qU f N N) 285 1 N ((e.set m c2).map cN).flatten]) (by rw [aq,<- bK eL _ (by omega:m<e.length)];rfl) ?_;rw [au];refine Uw (m':=2-(m+1-(i+b.length))) om_ mup (hn_ [1,5,8,11,19,20,21] Z) ⟨m+1,e.set m c2,0,⟨by omega,by omega,by simp [O],ab.set Q,by decide,fun _=>rfl,fun h=>by omega,by
    have h1:=tT (z:=c2) af;rw [S] at h1;omega,fun j r=>by rw [qC om_];exact ad j r⟩,rfl,rfl,rfl⟩
  have ae:c2=0:=by
   have:¬ (0:Int)<(c2:Int):=by simpa using h60
   omega
  refine Ul fun R d=>Uq _ Z U6<|C6 1 [1,5,19,20,21] d Z<|Uw (m':=a.length-(i+1)) om_ mup (hn_ [1,5,19,20,21] Z) ⟨i+1,e,⟨by omega,O,ab,by
   rw [ae,Uf,Sh] at ac;rw [mT,Sd,<- X,Sg];exact ac,fun j r=>ad j om_⟩,Z,Z,Z⟩
 have E:i=a.length:=by
  have:¬ i<a.length:=by simpa using B
  omega
 refine UI [(1,3)] Z fun R d=>Uk U6<|D.call (gw _ _ o V) Z (.inr dc_) U6 (QI _) fl_ (fun aI _ aJ _ av=>?_);obtain ⟨rfl,hu⟩:=av;refine C6 1 [4] d Z<|Up U2<|⟨Z,EN o,iD W, ?_,hu⟩;rw [iC,X,E,QM]
theorem tw (h:yH l)(a:bB l<B9 ^ m):l.length<=m:=by
 rcases Q1 m l.length with h1 | h1
 ·have h2:=vA h om_;have h3:B9 ^ m<=B9 ^ (l.length-1):=QZ dc_ om_;omega
 exact h1
theorem NineC.get (h:NineC C v n)(a:n<B9 ^ m):∃ l,yH l/\bB l=n/\l.length<=m/\Sl C 1 v (l.map cN):=by
 obtain ⟨l,h1,h2,h3⟩:=h;exact ⟨l,h1,h2,tw h1 (by rw [h2];exact a),h3⟩
theorem NineC.zero (C:Mem):NineC C (.slice none 0 0) 0:=⟨[],⟨(fun x a=>(by cases a)),by simp⟩,rfl,Sl.nil C 1⟩
theorem NineC.form (h:NineC C v n):∃ A m c,v=.slice A m c:=by
 obtain ⟨l,_,_,A,c,h,_⟩:=h;exact ⟨A,_,c,h⟩
theorem dG (h:m<B9 ^ n)(a:n<=k):m<B9 ^ k:=RI h (QZ dc_ a)
theorem pN (C:Mem)(c:NineC C u m)(d:NineC C v n):Gives cx.P 221 [u,v] C (.int .i64 (jO m n)):=by
 obtain ⟨a,h1,h2,h3⟩:=c;obtain ⟨b,h4,h5,e⟩:=d;rw [<- h2,<- h5];exact Gh C u v a b h3 e h1 h4
theorem Ls (C:Mem)(c:NineC C u m)(d:NineC C v n)(e:m<B9 ^ k)(f:n<B9 ^ k)(i:k<=1000000):Pur cx.P 220 [u,v] C fun w D=>NineC D w (m+n):=by
 obtain ⟨a,h1,h2,h3,h4⟩:=c.get e;obtain ⟨b,h5,g,j,h⟩:=d.get f;rw [<- h2,<- g];exact M3 C u v a b h4 h h1.1 h5.1 om_ om_
theorem uF (C:Mem)(c:NineC C u m)(d:NineC C v n)(e:m<B9 ^ k)(i:n<=m)(j:k<=1000000):Pur cx.P 222 [u,v] C fun w D=>NineC D w (m-n):=by
 obtain ⟨a,h1,h2,h3,h4⟩:=c.get e;obtain ⟨b,h5,f,g⟩:=d;rw [<- h2,<- f];refine JT C u v a b h4 g h1.1 h5.1 om_ ?_ om_;rcases Q1 a.length b.length with h | h
 ·have:=uK h1.1 h5 h;omega
 exact h
theorem E9 (C:Mem)(c:NineC C u m)(d:NineC C v n)(e:m<B9 ^ k)(f:n<B9 ^ k)(i:k<=1000000):Pur cx.P 190 [u,v] C fun w D=>NineC D w (m*n):=by
 obtain ⟨a,h1,h2,h3,h4⟩:=c.get e;obtain ⟨b,h5,g,j,h⟩:=d.get f;rw [<- h2,<- g];exact IM C u v a b h4 h h1.1 h5.1 om_ om_
theorem wc (C:Mem)(a:Dig9 l)(b:Sl C 1 u (l.map cN)):Pur cx.P 252 [u] C fun w D=>NineC D w (bB l) :=
 (Ba C u l b).mono fun _c _d _e _ ⟨h1,h2⟩=>⟨h1,EN l,iD a,iC l,h2⟩
theorem yQ (C:Mem){d:Nat}(a:NineC C u m)(f:m<B9 ^ k)(g:d<B9)(p:k<=999999):Pur cx.P 279 [u,.int .u64 d] C fun w D=>NineC D w (m*d):=by
 obtain ⟨A,n,c,rfl⟩:=a.form;refine Ur func279 10 U3 fun w0=>Uh 1 [0,1] Z<|Ui 2 Z fun R h=>UF [cN d] U12 fun q _ _ i=>UK (wc _ (l:=[d]) (fun x j=>by rw [QY.1 j];exact g) i) U7 fl_ fun r _ _ o=>UK (E9 (k:=k+1) _ a.m_ o (dG f om_) (by show d+B9*0<_;rw [RX];have:0<B9 ^ k:=S7 dc_;have h2:=Rq B9 this;omega) om_) U7 fl_ fun s _ _ b=>C6 1 [4] h Z<|Up U2<|⟨Z, ?_⟩;have e:bB [d]=d:=by show d+B9*0=d;omega
 rw [e] at b;exact b
open Go Go.Jog Go.RowKit Go.Shelf
attribute [local go_sem] Oper.semAt_some
set_option maxRecDepth 100000 in
theorem KO (l Bs b off len cap:Nat)(zs:Nat->Int)(hlen:len<1000000)(J:Nat->World->Prop)
  (hJ:∀ k W,J k W->W.cell? ⟨Bs,0,none⟩=some (.slice (some ⟨b,off,none⟩) len cap)/\∀ j,j<len->W.cell? ⟨b,off+j,none⟩=some (.int .u64 (zs j)))
  (hY:∀ k W,J k W->k<len->YieldAt Fence.wide 1 Tryz.prog l #[.int .i64 ((len-1-k:Nat):Int),.int .u64 (zs (len-1-k))] W fun e W'=>e=.returned (.bool true)/\J (k+1) W')
  (W:World) (h0:J 0 W) :
  CallsIn Fence.wide 2 Tryz.prog 297 #[.func (.yield l) #[] #[],.pointer (some ⟨Bs,0,none⟩)] W fun e W'=>(∃ v,e=.returned v)/\J len W':=by
 refine callsIn_of_wp func297 Z trivial ?_ Z;simp only [Tryz.ntmps297,SJ,QT,Re,Nat.reduceAdd,Nat.reduceSub,T4,T5,List.push_toArray,List.append_toArray,SK,Su];have hBs:=(hJ 0 W h0).1
 gi_wp2
 gi_loopw [3] (fun i wr=>∃ k:Nat,k<=len/\i=.int .i64 ((len:Int)-1-k)/\J k wr) (fun i _=>(intOf i+1).toNat)
 case atStart=>exact ⟨0,QH _,by simp,h0⟩
 case round =>
  obtain ⟨k,hk,rfl,hJs⟩:=hrel;obtain ⟨hB2,hcx⟩:=hJ k wr hJs;by_cases hlt:k<len
  ·obtain ⟨fn,tmps,assign,body,hy,hR⟩:=hY k wr hJs hlt;have hcx':=hcx (len-1-k) om_;have e1:((len-1-k:Nat):Int)=(len:Int)-1-k:=by omega
   rw [e1] at hy
   gi_wp2
   refine hR.mono ?_;rintro e W3 ⟨rfl,hJ3⟩
   gi_wp2
   go_roundw
   case rel=>exact ⟨k+1,by omega,by congr 1;omega,hJ3⟩
   case measure=>simp [intOf];omega
  obtain rfl:k=len:=by omega
  gi_wp2
  go_end0
  exact ⟨⟨_,Z⟩,hJs⟩
set_option maxRecDepth 100000 in
theorem yw (l Bs:Nat)(A:Option Addr)(cap:Nat)(J:Nat->World->Prop)(W:World)(hBs:W.cell? ⟨Bs,0,none⟩=some (.slice A 0 cap))(h0:J 0 W) :
  CallsIn Fence.wide 2 Tryz.prog 297 #[.func (.yield l) #[] #[],.pointer (some ⟨Bs,0,none⟩)] W fun e W'=>(∃ v,e=.returned v)/\J 0 W':=by
 refine callsIn_of_wp func297 Z trivial ?_ Z;simp only [Tryz.ntmps297,SJ,QT,Re,Nat.reduceAdd,Nat.reduceSub,T4,T5,List.push_toArray,List.append_toArray,SK,Su]
 gi_wp2
 gi_loopw [3] (fun i wr=>i=.int .i64 (-1)/\J 0 wr) (fun _ _=>0)
 case atStart=>exact ⟨rfl,h0⟩
 case round =>
  obtain ⟨rfl,hJs⟩:=hrel
  gi_wp2
  go_end0
  exact ⟨⟨_,Z⟩,hJs⟩
def H9 (xs:List Nat):List (Value × Value):=(List.range xs.length).map fun k=>(.int .i64 ((xs.length-1-k:Nat):Int),.int .u64 ((xs.getD (xs.length-1-k) 0:Nat):Int))
theorem fS (a:List Nat):(H9 a).length=a.length:=by simp [H9]
theorem vC {a:List Nat}(h:k<a.length):(H9 a)[k]?=some (.int .i64 ((a.length-1-k:Nat):Int),.int .u64 ((a.getD (a.length-1-k) 0:Nat):Int)):=by
 simp [H9,h]
theorem tx (C:Mem)(b t:Nat)(v:Value)(a:List Nat)(q:C b=some (.cells ⟨[v]⟩ t (0,0)))(r:Sl C 1 v (a.map fun n:Nat=>[Value.int .u64 (n:Int)]))(s:a.length<1000000) :
  PX Tryz.prog 297 #[.pointer (some ⟨b,0,none⟩)] C (H9 a):=by
 intro l J W e D u h0;obtain ⟨A,d,rfl,E,_,_,f⟩:=r;rw [ar] at *;have g:∀ {W:World}{k:Nat},J k W->W.cell? ⟨b,0,none⟩=some (.slice A a.length d):=fun {W k} c=>by
  simp [World.cell?,e k W c b _ q]
 rw [fS];rcases RM a.length with h | h
 ·have h1:=g h0;rw [h] at h1 ⊢;exact yw l b A d J W h1 h0
 obtain ⟨w,rfl,i,_⟩:=f 0 _ (aj (by simpa using h));obtain ⟨m,x,F⟩:=w;simp only at i;subst i;refine KO l b m x a.length d (fun j=>((a.getD j 0:Nat):Int)) s J (fun k W c=>⟨g c,fun j y=>?_⟩) (fun k W c z=>u k _ W c (vC z)) W h0;have h3:(a.map fun n:Nat=>[Value.int .u64 (n:Int)])[j]?=some [Value.int .u64 ((a.getD j 0:Nat):Int)]:=by
  simp [y]
 obtain ⟨a2,h4,_,h5⟩:=f j _ h3;cases h4
 have o:=h5 0 _ rfl;rw [Addr.add_lit] at o;obtain ⟨_,blk,G,fz,p,B⟩:=o;simp only at p;simp only [World.cell?,e k W c m _ p];simpa using B
theorem CT (C:Mem)(A:Option Addr)(n c:Nat):Pur cx.P 254 [.slice A n c] C fun r a=>∃ b,r=.func (.func 297) #[] #[.pointer (some ⟨b,0,none⟩)]/\a b=some (.cells ⟨[.slice A n c]⟩ 271 (0,0)):=by
 exact Ur func254 4 U3 fun w0=>Ul fun R d=>UC U6 fun f=>C6 1 [1] d Z<|Uh 2 [2] Z<|G.freeze 0 Z fun g h e=>Up U2<|⟨Z,_,Z,e⟩
abbrev qW (b n c:Nat):Value:=.slice (some ⟨b,0,none⟩) n c
theorem sJ (C:Mem)(s:Str)(c:UInt8):Gives cx.P 232 [af s,.int .u8 c.toNat] C (.int .i64 (Lib.indexByte s c)):=by
 have h:=Gives.ofCalls (f:=232) (args:=[af s,.int .u8 c.toNat]) (P:=cx.P) kr_ (fun w=>Any.stringslite_IndexByte Tryz.idxByte ⟨s.toArray⟩ (c.toNat:Int) w) C;simpa using h
theorem G4 (C:Mem)(s:Str)(c:UInt8):Gives cx.P 275 [af s,af [c]] C (.int .i64 (Lib.indexByte s c)):=by
 refine Ur func275 143 U3 fun w0=>Uh 1 [0,1] Z<|Uh 3 [0,1,5] Z<|Ui 6 Z fun R a=>UN U8<|C6 1 [0,1,5,16] a Z<|G.cd (fun b=>?_) fun b=>?_
 ·refine Uh 1 [4] Z<|Up U2<|⟨?_,Z⟩;have h:([c]:Str)=s:=by simpa using b
  subst h;simp [Lib.indexByte]
 refine Uh 3 [0,1,5,24] Z<|G.cd (fun d=>?_) fun d=>?_
 ·exact Ui 2 Z fun R a=>UZ U8 (fun _=>⟨by omega,(rfl:([c]:Str)[(0:Int).toNat]?=some c)⟩) U2<|Ut (sJ _ s c) U7<|C6 1 [4] a Z<|Up U2<|⟨Z,Z⟩
 exact absurd d al
theorem NR (C:Mem)(s:Str)(c:UInt8)(g:s.length<1000000):Gives cx.P 223 [af s,af [c]] C (.tuple #[af (iP c s).1,af ((iP c s).2.getD []),.bool (iP c s).2.isSome]):=by
 refine Ur func223 23 U3 fun w0=>Uh 3 [0,1] Z<|Ui 2 Z fun R b=>Ut (G4 _ s c) U7<|C6 1 [0,1,7] b Z<|Uh 2 [0,1,7,12] Z<|G.cd (fun d=>?_) fun d=>?_
 ·have h0:0<=Lib.indexByte s c:=by simpa using d
  obtain ⟨a,post,h1,h2,h3⟩:=CG h0;have h:s.length=a.length+1+post.length:=by rw [h2];simp;omega
  rw [h1,h3];refine UD [0,1,2,3,4,5,6,7,8,9,10,11] [] Z kr_ fun R i b=>Um 2 Z<|Vf 0 a.length U9 (fun _=>⟨.inl ⟨Z,Z⟩,.inr ⟨_,Z⟩,.inl ⟨Z,Z⟩,by omega,by omega,Qz _⟩) U2<|Um 4 Z<|UQ (((a.length+1:Nat):Int)) U4 al om_ om_ U2<|Vf (a.length+1) s.length U9 (fun _=>⟨.inr ⟨_,Z⟩,.inl ⟨Z,Z⟩,.inl ⟨Z,Z⟩,by omega,Qz _,Qz _⟩) U2<|C6 3 [4,5,6] b Z<|Uv (G.dropAll (Vi U4 ?_));refine ⟨?_,Z⟩;have e:(s.take a.length).drop 0=a:=by rw [h2];simp
  have f:(s.take s.length).drop (a.length+1)=post:=by rw [QM,h2];simp
  rw [e,f];rfl
 have h0:¬ 0<=Lib.indexByte s c:=by simpa using d
 rw [yi h0];refine Uh 4 [4,5,6] Z<|Uv (G.dropAll (Vi U4 ?_));exact ⟨Z,Z⟩
theorem LQ (C:Mem)(s:Str)(c:UInt8)(a:s.length<1000000):Gives cx.P 159 [af s,af [c]] C (.tuple #[af (iP c s).1,af ((iP c s).2.getD []),.bool (iP c s).2.isSome]):=by
 refine Ur func159 13 U3 fun w0=>Uh 3 [0,1] Z<|Ui 2 Z fun R b=>Ut (NR _ s c a) U7<|C6 6 [4,5,6] b Z<|Uv (G.dropAll (Vi U4 ?_));exact ⟨Z,Z⟩
theorem zx (C:Mem)(s:Str)(c:UInt8):Gives cx.P 294 [af s,af [c]] C (.bool (cJ c s).2):=by
 refine Ur func294 18 U3 fun w0=>Uh 1 [0,1] Z<|Ui 9 Z fun R d=>Vf 0 1 U9 (fun e=>⟨.inl ⟨Z,Z⟩,.inr ⟨_,Z⟩,.inl ⟨Z,Z⟩,by omega,(by have h:decide ((1:Int)<=(s.length:Int))=true:=e.1;simp at h;omega),Qz _⟩) U2<|Um 2 Z<|UJ U8<|C6 1 [4] d Z<|Up U2<|⟨?_,Z⟩;cases s with
 | nil=>rfl
 | cons b s =>
  have h1:decide ((1:Int)<=((b::s).length:Nat))=true:=by simp;omega
  unfold cJ;by_cases a:b=c
  ·subst a;simp;omega
  simp [a]
theorem KA (C:Mem)(s:Str)(c:UInt8):Gives cx.P 276 [af s,af [c]] C (.tuple #[af (cJ c s).1,.bool (cJ c s).2]):=by
 refine Ur func276 15 U3 fun w0=>Uh 2 [0,1] Z<|Ui 2 Z fun R d=>Ut (zx _ s c) U7<|C6 1 [0,1,9] d Z<|G.cd (fun a=>?_) fun a=>?_
 ·have h:¬ s.head?=some c:=fun h=>by unfold cJ at a;rw [aJ h] at a;cases a
  refine Uh 3 [4,5] Z<|Uv (G.dropAll (UH U3 ?_));unfold cJ;rw [aF h];exact ⟨Z,Z⟩
 have h:s.head?=some c:=Q5 fun h=>by unfold cJ at a;rw [aF h] at a;cases a
 have e:1<=s.length:=by cases s with
  | nil=>cases h
  | cons b s=>simp
 refine Ui 3 Z fun R d=>Vf 1 s.length U9 (fun _=>⟨.inr ⟨_,Z⟩,.inl ⟨Z,Z⟩,.inl ⟨Z,Z⟩,by omega,Qz _,Qz _⟩) U2<|C6 2 [4,5] d Z<|Uv (G.dropAll (UH U3 ?_));unfold cJ;rw [aJ h];refine ⟨?_,Z⟩;rw [QM,List.drop_one];rfl
theorem HL (C:Mem)(s:Str)(c:UInt8):Gives cx.P 224 [af s,af [c]] C (.tuple #[af (cJ c s).1,.bool (cJ c s).2]):=by
 refine Ur func224 11 U3 fun w0=>Uh 2 [0,1] Z<|Ui 2 Z fun R a=>Ut (KA _ s c) U7<|C6 4 [4,5] a Z<|Uv (G.dropAll (UH U3 ?_));exact ⟨Z,Z⟩
structure Tabs (C:Mem):Prop where
 pow : VarC cx.P C "internal/strconv.uint64pow10" (Lib.pow10Tab.map fun z => Value.int .u64 z).toArray
 db : VarC cx.P C "math/bits.deBruijn64tab" (Lib.deBruijn64tab.map fun z : Nat => Value.int .u8 (z : Int)).toArray
theorem Tabs.mono {C D:Mem}(h:Tabs C)(a:C.le D):Tabs D:=⟨h.pow.mono a,h.db.mono a⟩
theorem Tabs.m_ {D:Mem}(h:Tabs C)(a:C.le D:=by exact mup):Tabs D:=Tabs.mono h a
theorem LF (C:Mem)(a:Tabs C)(n:Int)(b:-9223372036854775808<=n)(c:n<=9223372036854775807):Gives cx.P 169 [.int .i64 n] C (af (Lib.itoa n)) :=
 Ns Tryz.itoa n b c C a.pow kr_
structure FV where
 b:Bool
 A:Option Addr
 n:Nat
 c:Nat
 A2:Option Addr
 n2:Nat
 c2:Nat
theorem split_fn (C:Mem)(s:Str):Gives cx.P 172 [af s] C (.tuple #[.bool (cJ 45 s).2,af (cJ 45 s).1]):=by
 refine Ur func172 17 U3 fun w0=>Uh 2 [0] Z<|Uh 2 [4] Z<|Ui 5 Z fun R c=>UZ (b:=s.headD 0) U8 (fun d=>⟨by omega,(by
  cases s with
  | nil=>exact Bool.noConfusion (show false=true from d.1)
  | cons b s=>rfl)⟩) U2 ?_
 refine Uk U6<|UJ U8<|Un [4,13] c Z<|G.cd (fun a=>?_) fun a=>?_
 ·have hh:s.head?=some 45:=by
   cases s with
   | nil=>cases a
   | cons b s =>
    have h1:b=45:=by
     refine T0.1 ?_;show b.toNat=45;simp at a;omega
    rw [h1];rfl
  have e:1<=s.length:=by cases s with
   | nil=>cases hh
   | cons b s=>simp
  refine UD [0,1,2,3] [] Z kr_ fun R f c=>Uk U6<|Vf 1 s.length U9 (fun _=>⟨.inr ⟨_,Z⟩,.inl ⟨Z,Z⟩,.inl ⟨Z,Z⟩,by omega,Qz _,Qz _⟩) U2<|C6 2 [2,3] c Z<|Uv (G.dropAll (UH U3 ?_));unfold cJ;rw [aJ hh];refine ⟨?_,Z⟩;rw [QM,List.drop_one];rfl
 have hh:¬ s.head?=some 45:=by
  cases s with
  | nil=>simp
  | cons b s =>
   intro h;have h1:b=45:=by simpa using h
   subst h1;simp at a
 refine Uh 3 [2,3] Z<|Uv (G.dropAll (UH U3 ?_));unfold cJ;rw [aF hh];exact ⟨Z,Z⟩
def yr (s:Str):Bool:=(cJ 45 s).1.all eG && !((cJ 45 s).1 == []) && !((cJ 45 s).1.head? == some 48 && ((cJ 45 s).2 || decide (1<(cJ 45 s).1.length)))
def cH (s:Str):Bool:=yr s && decide ((cJ 45 s).1.length<=200)
theorem uO (C:Mem)(s:Str)(c:UInt8):Gives cx.P 170 [af s,.int .u8 c.toNat] C (.int .i64 (Lib.indexByte s c)):=by
 exact Ur func170 8 U3 fun w0=>Uh 1 [0,1] Z<|Ui 2 Z fun R a=>Ut (sJ _ s c) U7<|C6 1 [4] a Z<|Up U2<|⟨Z,Z⟩
theorem Gc (C:Mem)(s:Str)(f:s.length<1000000):Gives cx.P 109 [af s] C (.tuple #[af (iP 47 s).1,af ((iP 47 s).2.getD [49])]):=by
 refine Ur func109 17 U3 fun w0=>Uh 2 [0] Z<|Ui 1 Z fun R b=>Ut (uO _ s 47) U7<|C6 1 [0,4] b Z<|Uh 2 [0,4,8] Z<|G.cd (fun c=>?_) fun c=>?_
 ·have h0:¬ 0<=Lib.indexByte s 47:=by
   have:Lib.indexByte s 47<0:=by simpa using c
   omega
  rw [yi h0];refine Uh 3 [2,3] Z<|Uv (G.dropAll (UH U3 ?_));exact ⟨Z,Z⟩
 have h0:0<=Lib.indexByte s 47:=by
  have:¬ Lib.indexByte s 47<0:=by simpa using c
  omega
 obtain ⟨a,post,h1,h2,h3⟩:=CG h0;have g:s.length=a.length+1+post.length:=by rw [h2];simp;omega
 rw [h1,h3];refine UD [0,1,2,3,4,5,6,7,8] [] Z kr_ fun R h b=>Um 2 Z<|Vf 0 a.length U9 (fun _=>⟨.inl ⟨Z,Z⟩,.inr ⟨_,Z⟩,.inl ⟨Z,Z⟩,by omega,by omega,Qz _⟩) U2<|Um 2 Z<|UQ (((a.length+1:Nat):Int)) U4 om_ om_ om_ U2<|Vf (a.length+1) s.length U9 (fun _=>⟨.inr ⟨_,Z⟩,.inl ⟨Z,Z⟩,.inl ⟨Z,Z⟩,by omega,Qz _,Qz _⟩) U2<|C6 2 [2,3] b Z<|Uv (G.dropAll (UH U3 ?_));refine ⟨?_,Z⟩;have d:(s.take a.length).drop 0=a:=by rw [h2];simp
 have e:(s.take s.length).drop (a.length+1)=post:=by rw [QM,h2];simp
 rw [d,e];rfl
theorem CF (C:Mem)(v:Value)(l:List Nat)(d:Sl C 1 v (l.map aT)):Pur cx.P 233 [v] C fun u f=>Sl f 1 u ((yg l).map aT):=by
 obtain ⟨p,c0,rfl,q,_⟩:=id d;simp only [ar] at d q ⊢;refine Ur func233 21 U3 fun w0=>Uh 1 [0] Z<|G.loop (fun fr f r s=>∃ (k:Nat)(A:Option Addr)(c:Nat),(k<=l.length/\Sl f 1 (.slice A k c) ((l.take k).map aT)/\Ef l l.length=Ef l k)/\fr=[(0,[],.slice A k c)]/\r=[]/\s=k+1) (hn_ [0] Z) ⟨l.length,p,c0,⟨Qz _,by rw [QM];exact d,Z⟩,Z,Z,Z⟩ (fun fr F H m _ t=>?_);obtain ⟨k,A,c,⟨I,hs,i⟩,rfl,rfl,rfl⟩:=t;obtain ⟨_,J,w,x,_⟩:=id hs;have K:maxLen<=9223372036854775807:=by simp [maxLen]
 have L:k<=c:=by
  rw [ar,QO] at x;injection w with h1 h2 h3;omega
 have y:0<k->((l.take k).map aT)[((k:Int)-1).toNat]?=some (aT (gP l (k-1))):=fun h=>by
  rw [show ((k:Int)-1).toNat=k-1 by omega,QD,Rs,aJ om_,aj (by omega:k-1<l.length)];unfold gP;rw [am,aj (by omega:k-1<l.length)];rfl
 refine Ui 7 Z fun R g=>Uq _ Z U6<|D.index U10 (fun n=>⟨hs,(by have h:decide ((0:Int)<(k:Int))=true:=n.1;simp at h;omega),y (by have h:decide ((0:Int)<(k:Int))=true:=n.1;simp at h;omega)⟩) fl_ Z fun M z=>UM U6 z U3<|Uk U6<|UJ U8<|Un [0,14] g Z<|G.cd (fun b=>?_) fun b=>?_
 ·have a:0<k/\gP l (k-1)=0:=by
   have:(0:Int)<(k:Int)/\((gP l (k-1):Nat):Int)=0:=by simpa using b
   omega
  refine Ui 3 Z fun R g=>UQ (((k-1:Nat):Int)) U4 om_ om_ om_ U2<|Vg 0 (k-1) c U12 (fun _=>⟨.inl ⟨Z,Z⟩,.inr ⟨_,Z⟩,.inl ⟨Z,Z⟩,by omega,by omega,Qz _⟩) U2<|C6 1 [0] g Z ?_;have o:=Sl.sub hs (l:=0) (h:=k-1) (m:=c) (QH _) ap om_ (Qz _);have B:(((l.take k).map aT).take (k-1)).drop 0=(l.take (k-1)).map aT:=by
   rw [RR,<- SH,TL,RD om_]
  rw [B] at o;have E:Ef l l.length=Ef l (k-1):=by
   rw [i];obtain ⟨j,rfl⟩:∃ j,k=j+1:=⟨k-1,by omega⟩;simp only [SS] at a ⊢;rw [Ef,aJ];unfold gP at a;rw [am,aj om_] at a;rw [aj om_];exact congrArg some a.2
  refine Uw (m':=k-1+1) om_ mup (hn_ [0] Z) ⟨k-1,_,c,⟨by omega,o.mono mup,E⟩,Z,Z,Z⟩
 have a:¬ (0<k/\gP l (k-1)=0):=fun hh=>by
  have h1:(decide ((0:Int)<(k:Int)) && (((gP l (k-1):Nat):Int) == 0))=true:=by
   rw [hh.2];simp;omega
  rw [h1] at b;cases b
 refine Uh 2 [2] Z<|Up U2<|⟨Z, ?_⟩;have e:Ef l k=k:=by
  cases k with
  | zero=>rfl
  | succ j =>
   simp only [SS] at a;rw [Ef,aF];intro h;refine a ⟨by omega, ?_⟩;unfold gP;rw [am,h];rfl
 unfold yg;rw [i,e];exact hs
theorem vk (C:Mem)(v:Value)(l:List Nat)(b:l.length=n):Jog.Fn cx.P 233 [v] C [.arr v 3 1 n (l.map aT).flatten] fun u a c=>c=[]/\Sl a 1 u ((yg l).map aT) :=
 Jog.Fn.give (l.map aT) kr_ (by intro r hr;obtain ⟨y,_,rfl⟩:=QE.1 hr;rfl) (by rw [ar,b]) (fun a _ hs=>CF a v l hs)
def PieC (C:Mem)(v:Value)(n:Nat):Prop:=∃ l,AE l/\bx l=n/\Sl C 1 v (l.map aT)
theorem BN (C:Mem)(s t:Value)(a b:List Nat)(d:Sl C 1 s (a.map aT))(f:Sl C 1 t (b.map aT))(n:AE a)(o:AE b):Gives cx.P 176 [s,t] C (.bool (decide (bx a<bx b))):=by
 have Q:maxLen<=9223372036854775807:=by simp [maxLen]
 obtain ⟨A,c0,rfl,B,S,_⟩:=id d;obtain ⟨D,E,rfl,F,T,_⟩:=id f;simp only [ar] at d f B F ⊢;refine Ur func176 41 U3 fun w0=>Uh 1 [0,1] Z<|Uh 5 [0,1,10] Z<|G.cd (fun g=>?_) fun g=>?_
 ·have U:a.length≠b.length:=fun e=>by
   rw [e] at g;simp at g
  refine Uh 6 [4] Z<|Up U2<|⟨?_,Z⟩;congr 1;rw [Ry];rcases Q1 a.length b.length with h | h
  ·have:=GR n.1 o h;constructor
   ·intro _;exact this
   intro _;omega
  have:=GR o.1 n om_;constructor <;> intro _ <;> omega
 have p:a.length=b.length:=by
  have:(a.length:Int)=b.length:=by simpa using g
  omega
 refine Ui 2 Z fun R c=>Uq _ Z U6<|C6 1 [0,1,5] c Z<|G.loop (fun fr V H I=>∃ (k:Nat),(k<=a.length/\a.drop k=b.drop k)/\fr=[(0,[],.slice A a.length c0),(1,[],.slice D b.length E),(5,[],.int .i64 ((k:Int)-1))]/\H=[]/\I=k+1) (hn_ [0,1,5] Z) ⟨a.length,⟨Qz _,by rw [RN,p,RN]⟩,Z,Z,Z⟩ (fun fr W X m _ J=>?_);obtain ⟨k,⟨Y,i⟩,rfl,rfl,rfl⟩:=J;refine Uh 2 [0,1,5,20] Z<|G.cd (fun q=>?_) fun q=>?_
 ·have u:0<k:=by
   have:(0:Int)<=(k:Int)-1:=by simpa using q
   omega
  obtain ⟨j,rfl⟩:∃ j,k=j+1:=⟨k-1,by omega⟩;obtain ⟨x,l⟩:∃ x,a[j]?=some x:=⟨a[j],aj om_⟩;obtain ⟨y,hy⟩:∃ y,b[j]?=some y:=⟨b[j],aj om_⟩;have v:(a.map aT)[(((j+1:Nat):Int)-1).toNat]?=some (aT x):=by
   rw [show (((j+1:Nat):Int)-1).toNat=j by omega,QD,l];rfl
  have w:(b.map aT)[(((j+1:Nat):Int)-1).toNat]?=some (aT y):=by
   rw [show (((j+1:Nat):Int)-1).toNat=j by omega,QD,hy];rfl
  refine UD [0,1,2,3,4,5,6,7,8] [] Z kr_ fun R K c=>Um 2 Z<|Uy d.m_ U10 om_ v fl_ fun aa L=>Uj L U8<|Um 2 Z<|Uy f.m_ U10 om_ w fl_ fun ab M=>Uj M U8<|C6 1 [0,1,5,31] c Z<|G.cd (fun r=>?_) fun r=>?_
  ·have z:x≠y:=fun e=>by
    subst e;simp at r
   refine UD [0,1,2,3,4,5,6,7,8,9] [] Z kr_ fun R K c=>Um 2 Z<|Uy d.m_ U10 om_ v fl_ fun ac N=>Uj N U8<|Um 2 Z<|Uy f.m_ U10 om_ w fl_ fun ad O=>Uj O U8<|C6 2 [4] c Z<|Up U2<|⟨?_,Z⟩;congr 1;rw [Ry];rcases Q1 x y with h | h
   ·have:=LU n.1 p l hy h i;constructor
    ·intro _;exact this
    intro _;omega
   have:=LU o.1 p.symm hy l om_ i.symm;constructor <;> intro _ <;> omega
  have z:x=y:=by
   have:(x:Int)=y:=by simpa using r
   omega
  refine Ui 1 Z fun R c=>Uq _ Z U6<|C6 1 [0,1,5] c Z ?_;rw [show ((j+1:Nat):Int)-1-1=(j:Int)-1 by omega];refine Uw (m':=j+1) om_ mup (hn_ [0,1,5] Z) ⟨j,⟨by omega,by
   rw [Q0 (by omega:j<a.length),Q0 (by omega:j<b.length),i,(aL.1 l).2,(aL.1 hy).2,z]⟩,rfl,rfl,rfl⟩
 have u:k=0:=by
  have:¬ (0:Int)<=(k:Int)-1:=by simpa using q
  omega
 subst u;refine Uh 1 [4] Z<|Up U2<|⟨?_,Z⟩;have:a=b:=by simpa using i
 subst this;simp
theorem HJ {s:Str}{a:Nat}{c:UInt8}(d:a<=i)(b:s[i]?=some c):bP (gK s a (i+1))=10*bP (gK s a i)+(c.toNat-48):=by
 have f:=(aL.1 b).1;have e:gK s a (i+1)=gK s a i++[c]:=by
  unfold gK;rw [Q4,b,R5,Tq,QO,RD om_,show a-i=0 by omega];rfl
 rw [e];unfold bP;rw [List.foldl_append];rfl
theorem Ky (s:Str)(a:Nat):gK s a a=[]:=by
 unfold gK;rw [List.drop_eq_nil_iff,QO];omega
theorem Mm (C:Mem)(s:Str)(g:∀ c∈s,eG c=true)(L:s.length<=100000):Pur cx.P 173 [af s] C fun u D=>PieC D u (bP s):=by
 refine Ur func173 35 U3 fun w0=>Uh 1 [0] Z<|Uh 1 [0,3] Z<|Uh 3 [0,3,4] Z<|G.nilArr 3 1<|G.loop (fun fr B d k=>∃ (e j:Nat)(b:Int)(out:List Nat)(w:Value),((b=e/\e+4*j=s.length∨b<=0/\e=0)/\-4<=b/\b<=100000/\e<=s.length/\out.length=j/\j<=100000/\DigP out/\bx out=bP (s.drop e))/\fr=[(0,[],af s),(3,[],w),(4,[],.int .i64 b)]/\d=[.arr w 3 1 j (out.map aT).flatten]/\k=e+1) (hn_ [0,3,4] Z) ⟨s.length,0,(s.length:Int),[],_,⟨.inl ⟨Z,Z⟩,by omega,by omega,Qz _,Z,by omega,(fun x E=>(by cases E)),by rw [RN];rfl⟩,Z,Z,Z⟩ (fun fr M N m _ l=>?_);obtain ⟨e,j,b,out,w,⟨q,O,Q,S,n,T,r,t⟩,rfl,rfl,rfl⟩:=l;refine Uh 2 [0,3,4,10] Z<|G.cd (fun f=>?_) fun f=>?_
 ·obtain ⟨rfl,F⟩:b=e/\e+4*j=s.length:=by
   have h0:0<b:=by simpa using f
   rcases q with h | h
   ·exact h
   omega
  have v:0<e:=by
   have h0:(0:Int)<(e:Int):=by simpa using f
   omega
  refine Uh 1 [0,3,4,5] Z<|Ui 1 Z fun R a=>Uq _ Z U6<|D.max (((e-4:Nat):Int)) U6 om_ U2<|C6 1 [0,3,4,5,6] a Z ?_;rw [show (Value.int .i64 0)=.int .i64 ((bP (gK s (e-4) (e-4)):Nat):Int) by rw [Ky];rfl];refine G.loop (fun fr B d k=>∃ (i:Nat),(e-4<=i/\i<=e)/\fr=[(0,[],af s),(3,[],w),(4,[],.int .i64 (e:Int)),(5,[],.int .i64 (bP (gK s (e-4) i):Nat)),(6,[],.int .i64 i)]/\d=[.arr w 3 1 j (out.map aT).flatten]/\k=e-i) (hn_ [0,3,4,5,6] Z) ⟨e-4,⟨Qz _,by omega⟩,Z,Z,Z⟩ (fun fr U V m _ l=>?_);obtain ⟨i,⟨H,W⟩,rfl,rfl,rfl⟩:=l;refine Uh 3 [0,3,4,5,6,18] Z<|G.cd (fun o=>?_) fun o=>?_
  ·have y:i<e:=by simpa using o
   obtain ⟨c,p⟩:∃ c,s[i]?=some c:=⟨s[i]'om_,aj _⟩;have z:=g c (aX p);have X:48<=c.toNat/\c.toNat<=57:=by unfold eG at z;simpa using z
   have Y:bP (gK s (e-4) i)<10000:=HK g om_;refine Ui 1 Z fun R a=>UQ (((10*bP (gK s (e-4) i):Nat):Int)) U4 om_ om_ om_ U2<|Um 2 Z<|UZ U8 (fun _=>⟨by omega,p⟩) U2<|UU (c:=((c.toNat:Nat):Int)) U8 (by rw [IntKind.wrap_i64];omega) fl_<|UQ (((10*bP (gK s (e-4) i)+c.toNat:Nat):Int)) U4 om_ om_ om_ U2<|UQ (((10*bP (gK s (e-4) i)+(c.toNat-48):Nat):Int)) U4 om_ om_ om_ U2<|C6 1 [0,3,4,5,6] a Z<|Ui 1 Z fun R a=>Uq _ Z U6<|C6 1 [0,3,4,5,6] a Z ?_;rw [<- HJ H p];refine Uw (m':=e-(i+1)) om_ mup (hn_ [0,3,4,5,6] Z) ⟨i+1,⟨by omega,by omega⟩,Z,Z,Z⟩
  have y:i=e:=by
   have:¬ i<e:=by simpa using o
   omega
  subst y;refine Ui 2 Z fun R a=>UF [aT (bP (gK s (i-4) i))] U12 fun aa _ _ I=>D.append (j:=0) U11 I Z ax (by show (j+1)*8<=_;omega) fl_ fun A=>C6 1 [0,3,4] a Z<|Ui 1 Z fun R a=>Uq _ Z U6<|C6 1 [0,3,4] a Z<|Uz (L':=[.arr A 3 1 (j+1) ((out++[bP (gK s (i-4) i)]).map aT).flatten]) (by simp [aT])<|Uw (m':=i-4+1) om_ mup (hn_ [0,3,4] Z) ⟨i-4,j+1,(i:Int)-4,out++[bP (gK s (i-4) i)],A,⟨by
   rcases Q1 i 4 with h | h
   ·exact .inr ⟨by omega,by omega⟩
   exact .inl ⟨by omega,by omega⟩,by omega,by omega,by omega,by simp [n],by omega,r.snoc (HK g om_),Fa F n om_ t⟩,Z,Z,Z⟩
 have v:e=0:=by
  have h0:¬ 0<b:=by simpa using f
  rcases q with h | h
  ·omega
  exact h.2
 refine UI [(1,3)] Z fun R a=>Uk U6<|D.call (vk _ _ out n) Z (.inr dc_) U6 (QI _) fl_ (fun ab _ ac _ J=>?_);obtain ⟨rfl,K⟩:=J;refine C6 1 [2] a Z<|Up U2<|⟨Z,yg out,mG r, ?_,K⟩;rw [iB,t,v,RR]
theorem G1 (C:Mem)(a:Tabs C)(n:Nat)(h:n<=1000000000000000000):Gives cx.P 169 [.int .i64 n] C (af (bj n)):=by
 have h1:=LF C a (n:Int) om_ om_
 rwa [J7] at h1
theorem fO (C:Mem)(a:Tabs C)(z:Int)(b:-9223372036854775808<=z)(c:z<=9223372036854775807):Gives cx.P 169 [.int .i64 z] C (af (txt z)):=by
 have h:=LF C a z b c
 rwa [J6] at h
theorem Nt (C:Mem)(a:Tabs C)(x:Nat)(b:x<10000):Gives cx.P 169 [.int .i64 (10000+x:Nat)] C (af (49::mQ 4 x)):=by
 have h:=G1 C a (10000+x) om_
 rwa [tenK b] at h
theorem dR (h:n<10 ^ k)(a:0<k):(bj n).length<=k:=by
 apply Q5;intro b;have h1:=oD (bk n).1 om_;rw [(bk n).2] at h1;have h2:10 ^ k<=10 ^ ((bj n).length-1):=QZ dc_ om_;omega
theorem vj (h:DigP l):(bj (bx l)).length<=4*l.length+1:=by
 refine dR ?_ om_;have h1:=mS h;rw [<- Lo] at h1;have h2:10 ^ (4*l.length)<=10 ^ (4*l.length+1):=QZ dc_ om_;omega
theorem iM (h:k<l.length):(l.map aT)[k]?=some (aT (gP l k))/\l[k]?=some (gP l k):=by
 have e:l[k]?=some (gP l k):=by
  unfold gP;rw [am,aj h];rfl
 exact ⟨by rw [QD,e];rfl,e⟩
theorem Hb (C:Mem)(f:Tabs C)(v:Value)(l:List Nat)(b:Sl C 1 v (l.map aT))(g:AE l)(N:l.length<=100000):Gives cx.P 234 [v] C (af (bj (bx l))):=by
 obtain ⟨s,c0,rfl,_⟩:=id b;simp only [ar] at b ⊢;have c:=g.1;refine Ur func234 34 U3 fun w0=>Uh 1 [0] Z<|Uh 3 [0,8] Z<|G.cd (fun d=>?_) fun d=>?_
 ·have h0:l=[]:=by
   have:(l.length:Int)=0:=by simpa using d
   exact Rt om_
  refine Uh 1 [2] Z<|Up U2<|⟨?_,Z⟩;rw [h0,show bj (bx [])=[48] by rw [bj];rfl];rfl
 have h0:0<l.length:=by
  have:¬ (l.length:Int)=0:=by simpa using d
  omega
 have t:(l.map aT)[((l.length:Int)-1).toNat]?=some (aT (gP l (l.length-1))):=by rw [show ((l.length:Int)-1).toNat=l.length-1 by omega];exact (iM om_).1
 have u:gP l (l.length-1)<10000:=He c _;have w:bx (l.drop (l.length-1))=gP l (l.length-1):=by
  rw [Q0 om_,Tw om_];have h1:=(iM (l:=l) (k:=l.length-1) om_).2;rw [(aL.1 h1).2];simp [bx]
 have x:0<gP l (l.length-1):=by
  have h1:=(iM (l:=l) (k:=l.length-1) om_).2;have h2:=g.2;rw [SU,h1] at h2;rcases RM (gP l (l.length-1)) with h | h
  ·rw [h] at h2;exact absurd rfl h2
  exact h
 refine Ui 3 Z fun R a=>Uq _ Z U6<|Uy b.m_ U10 om_ t fl_ fun O y=>Uj y U8<|Uu (G1 _ f.m_ (gP l (l.length-1)) om_) U7 fl_<|C6 1 [0,3] a Z<|Ui 2 Z fun R a=>Uq _ Z U6<|C6 1 [0,3,4] a Z ?_;rw [show (l.length:Int)-2=((l.length-1:Nat):Int)-1 by omega];refine G.loop (fun fr Q z A=>∃ (k:Nat)(o:Str),(k<l.length/\vQ o/\bP o=bx (l.drop k)/\0<bP o/\o.length<=25+4*(l.length-k))/\fr=[(0,[],.slice s l.length c0),(3,[],af o),(4,[],.int .i64 ((k:Int)-1))]/\z=[]/\A=k+1) (hn_ [0,3,4] Z) ⟨l.length-1,bj (gP l (l.length-1)),⟨by omega,(bk _).1,by rw [(bk _).2,w],by rw [(bk _).2];exact x,by
  have h2:=dR (k:=4) (n:=gP l (l.length-1)) u om_;omega⟩,rfl,rfl,rfl⟩ (fun fr S T m _ B=>?_)
 obtain ⟨k,o,⟨U,i,p,D,V⟩,rfl,rfl,rfl⟩:=B;refine Uh 2 [0,3,4,20] Z<|G.cd (fun e=>?_) fun e=>?_
 ·have q:0<k:=by
   have:(0:Int)<=(k:Int)-1:=by simpa using e
   omega
  obtain ⟨j,rfl⟩:∃ j,k=j+1:=⟨k-1,by omega⟩;rw [show ((j+1:Nat):Int)-1=(j:Int) by omega];obtain ⟨E,F⟩:=iM (l:=l) (k:=j) om_;have r:=He c j;have H:gP l j<10000:=r;have I:=(kP 4 (gP l j) r).1;refine Ui 2 Z fun R a=>Uy b.m_ U10 om_ E fl_ fun W J=>Uj J U8<|UQ (((10000+gP l j:Nat):Int)) U4 om_ om_ om_ U2<|Ut (Nt _ f.m_ _ H) U7<|C6 1 [0,3,4,5] a Z<|Ui 2 Z fun R a=>Vf 1 (49::mQ 4 (gP l j)).length U9 (fun _=>⟨.inr ⟨_,Z⟩,.inl ⟨Z,Z⟩,.inl ⟨Z,Z⟩,by simp,Qz _,Qz _⟩) U2<|Vb U6 (fun _=>(by simp only [SE,QO,QT];omega)) U2<|C6 1 [0,3,4] a Z<|Ui 1 Z fun R a=>Uq _ Z U6<|C6 1 [0,3,4] a Z ?_;rw [QM,List.drop_one,List.tail_cons];obtain ⟨K,L,M⟩:=Ha c F i p D;refine Uw (m':=j+1) om_ mup (hn_ [0,3,4] Z) ⟨j,o++mQ 4 (gP l j),⟨by omega,K,L,M,by rw [QG,I];omega⟩,Z,Z,Z⟩
 have q:k=0:=by
  have:¬ (0:Int)<=(k:Int)-1:=by simpa using e
  omega
 subst q;refine Uh 2 [2] Z<|Up U2<|⟨?_,Z⟩;rw [oE i,p,RR]
def sgZ (m:Bool)(n:Nat):Int:=if m then -(n:Int) else n
theorem AY (m:Bool)(n:Nat)(h:m=true->0<n):txt (sgZ m n)=if m then 45::bj n else bj n:=by
 unfold txt sgZ;cases m with
 | false=>simp
 | true=>have:=h rfl;simp;omega
theorem nq (C:Mem)(e:Tabs C)(m:Bool)(v:Value)(l:List Nat)(i:Sl C 1 v (l.map aT))(j:DigP l)(k:l.length<=100000):Gives cx.P 174 [.bool m,v] C (af (txt (sgZ m (bx l)))):=by
 have c:=mG j;have f:(yg l).length<=100000:=by unfold yg;rw [QO];omega
 have g:(yg l).length=0 ↔ bx l=0:=by rw [<- iB,CO c,TN]
 refine Ur func174 18 U3 fun w0=>Uh 1 [0,1] Z<|Ui 1 Z fun R a=>UR (CF _ _ l i) U7 (fun n _ _ d=>?_);obtain ⟨o,p,rfl,_⟩:=id d;rw [ar] at d;rw [ar];refine C6 1 [0,1] a Z<|Ui 5 Z fun R a=>UJ U8<|Un [1,12] a Z<|G.cd (fun b=>?_) fun b=>?_
 ·have hm:m=true/\0<bx l:=by
   simp at b;refine ⟨b.1, ?_⟩;have h2:=b.2;rcases RM (bx l) with h | h
   ·have:=g.2 h;omega
   exact h
  refine Ui 1 Z fun R a=>Ut (Hb _ e.m_ _ (yg l) d.m_ c f) U7<|Vb U6 (fun _=>(by have:=vj c.1;simp only [QT,Re];omega)) U2<|C6 1 [4] a Z<|Up U2<|⟨?_,Z⟩;rw [AY m _ (fun _=>hm.2),aJ hm.1,iB];rfl
 have hm:m=true->bx l=0:=fun h=>by
  rcases RM (yg l).length with h0 | h0
  ·exact g.1 h0
  exfalso;have h1:decide ((0:Int)<((yg l).length:Nat))=true:=QV om_;rw [h,h1] at b;cases b
 refine Ui 1 Z fun R a=>Ut (Hb _ e.m_ _ (yg l) d.m_ c f) U7<|C6 1 [4] a Z<|Up U2<|⟨?_,Z⟩;rw [iB];congr 1;cases m with
 | false=>rw [AY false _ (fun h=>by cases h)];rfl
 | true=>rw [hm rfl];rfl
end Go.Proofs.YtfjcldheldflbaaGreatDoor
