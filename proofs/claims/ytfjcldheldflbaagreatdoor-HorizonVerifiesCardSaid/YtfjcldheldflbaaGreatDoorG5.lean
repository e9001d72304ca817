import Derived.Test.YtfjcldheldflbaaGreatDoorG4
import Derived.Test.YtfjcldheldflbaaGreatDoorShelf
import Derived.Shelf.SlSortCmp.NoneTotal
import Derived.Shelf.Slices.In.SortNone
import Derived.Shelf.Strings.Split
import Derived.Test.YtfjcldheldflbaaGreatDoorProg
import Derived.RangeFuncBox
set_option maxHeartbeats 4000000
namespace Go.Jog
open Go Go.Proofs Go.Shelf
section
variable {α:Type} [Inhabited α]
theorem tT (a:α->List Value)(k:Nat)(c:∀x,(a x).length=k)(d:Array α):(Sort.flatK a k d).toList=(d.toList.map a).flatten:=by
 have hr:∀r∈d.toList.map a,r.length=k:=λr hr=>by
  obtain⟨x,_,rfl⟩:=SL.1 hr;exact c x
 have g:=aQ hr;apply List.ext_getElem?;intro q;by_cases b:q<d.size*k
 .have i:0<k:=by
   rcases TY k with h|h
   .rw[h]at b;simp at b
   exact h
  have e:q / k<d.size:=VB (by rw[Tt];exact b);have h1:(d.toList.map a)[q / k]?=some (a d[q / k]!):=by
   rw[SI,Array.getElem?_toList,Array.getElem?_eq_getElem e];simp[e]
  have f:q % k<(a d[q / k]!).length:=by rw[c];exact Ts _ i
  have h2:=getElem?_flatten_rows hr h1 (aj f);have j:q / k*k+q % k=q:=by rw[Tt];exact Vt q k
  rw[j]at h2;rw[h2];have h3:=Sort.get_flatK a k d q b;rw[Array.getElem?_toList,Array.getElem?_eq_getElem (by simpa using b)];rw[getElem!_pos (Sort.flatK a k d) q (by simpa using b)]at h3;rw[h3,getElem!_pos (a d[q / k]!) (q % k) f]
 rw[SR ap,SR (by rw[g];simp;omega)]
theorem LH {a:Type}[Inhabited a](c:a->Value)(w:World)(m b:Nat)(F:Array a)(h:Array Obj){d:Array Value}{e:TypeId}{f:Nat × Nat}(g:w.heap[b]?=some (.cells d e f)) :
  (Sort.grow (Sort.putRow c (Sort.ahead w m) b 0 F) h).heap[b]?=some (.cells (Sort.putCells c 0 F d) e f):=by
 have i:=cZ g;rw[Sort.heap_grow_old _ _ (by simpa [Sort.ahead] using i)];simp[Sort.putRow,Sort.mapBlock,Sort.ahead,Vx,g,Sort.onCells]
theorem kU {a:Type}[Inhabited a](c:a->Value)(w:World)(m b:Nat)(F:Array a)(d:Array Obj){q:Nat}(e:q<w.heap.size)(f:q≠b) :
  (Sort.grow (Sort.putRow c (Sort.ahead w m) b 0 F) d).heap[q]?=w.heap[q]?:=by
 rw[Sort.heap_grow_old _ _ (by simpa [Sort.ahead] using e)];simp[Sort.putRow,Sort.mapBlock,Sort.ahead,Vx,Ne.symm f]
theorem uW {b:Type}[Inhabited b](d:b->Value)(F:Array b)(c:Array Value)(h:F.size<=c.size):(Sort.putCells d 0 F c).toList.take F.size=F.toList.map d:=by
 apply List.ext_getElem?;intro q;rw[TA];split
 .rename_i a;simp only[Sort.putCells,Array.getElem?_toList,Array.getElem?_mapIdx,SI,SM,TX,true_and,a,UK,VK];rw[Array.getElem?_eq_getElem (by omega:q<c.size),Array.getElem?_eq_getElem a];simp[a]
 rename_i a;rw[SR ap]
theorem St.sorted {c:Type}[Inhabited c](b:c->Value){C:Mem}{w:World}{e s n g a m:Nat}{d:List Value}(j:Sep C [.arr (s_ g n a) e s n d] w)(F:Array c)(f:F.size=n*s)(i:Array Obj) :
  St w C [.arr (s_ g n a) e s n d] C [.arr (s_ g n a) e s n (F.toList.map b)] (Sort.grow (Sort.putRow b (Sort.ahead w m) g 0 F) i):=by
 have l:w.ownsRow 0 e s (s_ g n a) n d:=j.e _ (SK ..);let⟨_,h1,h2,o,p,k,_⟩:=cP l;have r:n*s<=a*s:=To _ h1;refine St.turn (St.start j) ⟨by simpa using f,.inr ⟨g,a,_,U,SM _,LH b w m g F i p,h1,h2,by simpa [Sort.putCells] using k, ?_⟩⟩ ⟨U,U,U,by simp[Sort.ahead],λq t u=>kU b w m g F i t (λh=>u (by simp[Value.ownBlock,h]))⟩ ?_ (.inl U)
 .rw[<- f];exact uW b F o (by rw[f,k];exact r)
 show w.drawn<=w.drawn+m;omega
theorem Fs {w a:World}{C c:Mem}(h:St w C [] c [] a):∃q os,a=Sort.grow (w.drewN q) os:=by
 refine⟨a.drawn-w.drawn,(a.heap.toList.drop w.heap.size).toArray, ?_⟩;have h1:a.heap=w.heap++(a.heap.toList.drop w.heap.size).toArray:=by
  apply Array.ext_getElem?;intro k;rw[Array.getElem?_append];split
  .rename_i b;exact h.ev.block k b (λ⟨x,d,_⟩=>by cases d)
  rename_i b;simp only[T9,List.getElem?_drop,Array.getElem?_toList];congr 1;omega
 have h2:w.drawn+(a.drawn-w.drawn)=a.drawn:=by have:=h.ev.drawn;omega
 let⟨hp,i,j,l,op⟩:=a;have e:=h.ev.os;have f:=h.ev.tape;have g:=h.ev.output;simp only at h1 h2 e f g;simp only[Sort.grow,World.drewN];congr 1
 .exact h2.symm
end
section
variable {P:Program} {ρ:Ren}
theorem OW {a:Type}[Inhabited a]{l:List a}{d:Array a}(h:Sort.PermIn 0 l.toArray.size l.toArray d):d.toList.Perm l:=by
 let⟨h1,_,h3⟩:=h;have b:d.extract 0 l.toArray.size=d:=by apply Uz;rw[<- h1];simp
 have c:l.toArray.extract 0 l.toArray.size=l.toArray:=by apply Uz;simp
 rw[b,c]at h3;simpa using h3
theorem GN {a:Type}[Inhabited a]{b:a->a->Bool}{d:Array a}(h:Sort.SortedIn b 0 d.size d):d.toList.Pairwise λx y=>b y x=false:=by
 rw[List.pairwise_iff_getElem];intro i j e c f;have:=h i j (SM _) f (by simpa using c);rw[getElem!_pos d j (by simpa using c),getElem!_pos d i (by simpa using e)]at this;simpa using this
theorem zW {r:Type}[Inhabited r](K:SlLaysF0.n6 P ρ){T:Tab}(L:oZ P T=true){d:TI}(M:T.get (ρ.t 24)=some d)(X:d.agg=true)(a:r->List Value)(A:∀x,(a x).length=d.size)(i:∀x,(a x).all kS=true)
  (s:r->r->Int) (Y:Sort.SWO (ltOf s)) (g:FuncId) (p:List Value) (C:Mem) (Z:∀x y B,C.le B->Gives P g ([.agg ⟨a x⟩,.agg ⟨a y⟩]++p) B (i_ (s x y))) (v:Value) (e:TypeId) (l:List r) (aa:l.length<4611686018427387904)
  (ab:Enters P (ρ.f 6)=true) (ac:Enters P g=true) :
  Fn P (ρ.f 6) [v,.func (.func g) #[] ⟨p⟩] C [.arr v e d.size l.length (l.map a).flatten] λu _ak N=>∃D:List r,u=.tuple #[]/\N=[.arr v e d.size l.length (D.map a).flatten]/\D.Perm l/\D.Pairwise (λx y=>ltOf s y x=false):=by
 refine⟨ab,λw z=>?_⟩;have ad:w.ownsRow 0 e d.size v l.length (l.map a).flatten:=z.e _ (SK ..);rcases ad.2 with⟨rfl,hz⟩|⟨b,O,E,rfl,_,F,h2,h3,h4,h5⟩
 .have hl:l=[]:=Ty hz;subst hl;refine(AnyF.slices_SortFunc_none K none 0 (.func (.func g) #[] ⟨p⟩) w).mono λQ w' ⟨i,h2⟩=>?_;subst h2;exact⟨_,C,_,i,St.start z,[],U,U,SQ _,List.Pairwise.nil⟩
 have ae:b<w.heap.size:=cZ F;have af:(Sort.flatK a d.size l.toArray).toList=(l.map a).flatten:=by rw[tT a _ A]
 have al:l.length*d.size<=O*d.size:=To _ h2;have hH:Sort.HoldsK a d.size w b 0 l.toArray:=by
  intro j G;simp only[Sort.size_flatK,Uu]at G;have R:j<E.size:=by omega
  have hc:(Sort.flatK a d.size l.toArray)[j]?=some E[j]:=by
   rw[<- Array.getElem?_toList,af,<- h5,TA,aL G,Array.getElem?_toList,Array.getElem?_eq_getElem R]
  have hg:=getElem!_pos (Sort.flatK a d.size l.toArray) j (by simpa using G);have ag:=(UJ.1 hc).2;refine⟨?_, ?_⟩
  .rw[TX,cell_of_row w b j E e (0,0) F,hg,ag];exact Array.getElem?_eq_getElem R
  simp[World.frozen?,F]
 have ah:CmpLays P g ⟨p⟩ a d.size s b 0 l.toArray.size w:=by
  intro m os dk am x y;have hW:Sep C [] (sortWorldK a d.size w b 0 m dk os):=⟨λq o H=>by
    have S:=z.c q o H;unfold sortWorldK Sort.putRowK;rw[kU id w m b _ os (cZ S) (λh=>by
     subst h;have:=z.n q ⟨_,SK ..,rfl⟩;rw[this]at H;cases H)]
    exact S,λx I=>(by cases I),List.Pairwise.nil,λk ⟨x,I,_⟩=>(by cases I)⟩
  have ea:(#[Value.agg (a x).toArray,Value.agg (a y).toArray]++(⟨p⟩:Array Value))=([Value.agg ⟨a x⟩,Value.agg ⟨a y⟩]++p).toArray:=by apply Uz;simp
  rw[ea];refine((Z x y C l_).2 _ hW).mono λQ w' ⟨u,B,N,i,h2,h3,h4⟩=>?_;subst h3;subst h4;exact⟨i,Fs h2⟩
 have ai:=AnyQ.slices_SortFunc K d.size (λw=>by have:=Iv L M w;rwa [X]at this) (λw=>eD L M w) a A (λx u hu=>fW (S3.1 (i x) u hu)) s Y g ⟨p⟩ b 0 O l.toArray w (λargs w=>gv ac args w) ah hH ae (by simpa using aa);refine ai.mono λQ w' ⟨i,J,m,os,hp,hs,aj⟩=>?_;subst aj;have V:J.size=l.length:=by simpa using hp.1
 have W:=St.sorted (m:=m) id z (Sort.flatK a d.size J) (by simp[V]) os;simp only[List.map_id,tT a _ A]at W;exact⟨_,C,_,i,W,J.toList,U,U,OW hp,GN (by rw[V];simpa using hs)⟩
theorem yC (c:UInt8):∀s:List UInt8,(c ∉ s/\Lib.index s [c]=-1)∨∃a post,s=a++c::post/\c ∉ a/\Lib.index s [c]=a.length
|[]=>.inl ⟨by simp,by simp[Lib.index]⟩
|b::s=>by
  by_cases d:b=c
  .subst d;exact .inr ⟨[],s,U,by simp,by simp[Lib.index]⟩
  have hp:([c]:List UInt8).isPrefixOf (b::s)=false:=by simp[List.isPrefixOf,Ne.symm d]
  have e:Lib.index (b::s) [c]=if Lib.index s [c] == -1 then -1 else Lib.index s [c]+1:=by rw[Lib.index,hp];simp
  rcases yC c s with⟨h1,h2⟩|⟨a,post,h1,h2,h3⟩
  .exact .inl ⟨by simp[Ne.symm d,h1],by rw[e,h2];rfl⟩
  refine .inr ⟨b::a,post,by simp[h1],by simp[Ne.symm d,h2], ?_⟩;rw[e,h3];have:¬ ((a.length:Int) == -1)=true:=by simp
  rw[aF this];simp
theorem tf (c:UInt8):∀(k:Nat)(s:List UInt8),s.count c=k->Lib.splitK [c] 0 k s=cV c s
|0,s,h=>by
  rw[oE c s (List.count_eq_zero.1 h)];rfl
|k+1,s,h=>by
  rcases yC c s with⟨h1,_⟩|⟨a,post,h1,h2,h3⟩
  .rw[List.count_eq_zero.2 h1]at h;omega
  have b:post.count c=k:=by
   rw[h1,List.count_append,List.count_eq_zero.2 h2,List.count_cons_self]at h;omega
  unfold Lib.splitK;rw[h3];have d:¬ ((a.length:Int) == -1)=true:=by simp
  rw[aF d];subst h1;have e:((a.length:Int).toNat+0)=a.length:=by simp
  have f:(a++c::post).drop ((a.length:Int).toNat+[c].length)=post:=by simp
  rw[e,f,tf c k post b,qt c a post h2];simp
theorem split_fn (k:Lays.n146 P ρ)(l:(P.info? (ρ.t 9)).map (λi=>(i.zero,i.size,i.bytes))=some (some (.string ByteArray.empty),1,16))(C:Mem)(s:List UInt8)(c:UInt8){m:Int}(n:s.length<4294967281)(o:CCell C ⟨ρ.g 1,0,none⟩ (i_ m))(q:Enters P (ρ.f 146)=true) :
  Pur P (ρ.f 146) [ag s,ag [c]] C λv r=>Sl r 1 v ((cV c s).map λp=>[ag p]):=by
 refine⟨q,λw a=>?_⟩;have h:=Any.strings_Split k l ⟨s.toArray⟩ ⟨#[c]⟩ m w (by simpa [ByteArray.size] using n) (o.cell a) (by simp[ByteArray.size]);have x:Lib.countB ⟨s.toArray⟩ ⟨#[c]⟩=s.count c:=by
  show Lib.count s [c]=_;exact Lib.count_one c s
 have y:(Lib.splitB ⟨#[c]⟩ 0 (s.count c) ⟨s.toArray⟩).map (λb=>b.data.toList)=cV c s:=by
  rw[Lib.splitB_data];exact tf c _ s U
 have z:(Lib.splitB ⟨#[c]⟩ 0 (s.count c) ⟨s.toArray⟩).map Value.string=(cV c s).map ag:=by
  rw[<- y,TH];apply List.map_congr_left;intro b _;let⟨⟨b⟩⟩:=b;rfl
 rw[x,z]at h;refine h.mono λD w' ⟨h1,A⟩=>?_;subst A;have h2:=(St.alloc (St.start a) (.cells ((cV c s).map ag).toArray (ρ.t 9))).freeze;refine⟨_,_,_,h1,h2.2,U, ?_⟩;have d:=kQ c s;have E:s.count c<=s.length:=List.count_le_length;have B:=Sl.ofBlock (C:=C.set w.heap.size (.cells ((cV c s).map ag).toArray (ρ.t 9))) (c:=s.count c+1) (Mem.set_self C w.heap.size _) (rows:=(cV c s).map λp=>[ag p]) (s:=1) am (λj u e=>by rw[eF]at e;simpa using e) (by simp[d]) y_;simpa [d] using B
end
end Go.Jog
namespace Go.Jog
def Nh:List Nat->List Nat->Int
|[],[]=>0
|[],_::_=>-1
|_::_,[]=>1
|x::a,y::b=>if x<y then -1 else if y<x then 1 else Nh a b
end Go.Jog
namespace Go.Jog
open Go
theorem X5 {P:Program}{f:FuncId}{i:List Value}{C:Mem}{j:Value->Mem->List Ent->Prop}{Q:Value->Mem->Prop}(h:Fn P f i C [] j)
  (k:∀v a c,j v a c->(c=[]/\Q v a)∨∃u t s rows,c=[.arr u t s rows.length rows.flatten]/\(∀r∈rows,r.length=s)/\∀D,a.le D->Sl D s u rows->Q v D):Pur P f i C Q:=by
 refine⟨h.1,λw l=>(h.2 w l).mono ?_⟩;rintro e w' ⟨v,a,c,rfl,d,hp⟩;rcases k _ _ _ hp with⟨rfl,g⟩|⟨u,t,s,rows,rfl,hr,g⟩
 .exact⟨v,a,[],U,d,U,g⟩
 let⟨D,h1,h2,h3⟩:=St.freezeArr d hr rfl;exact⟨v,D,[],U,⟨h3.sep,h3.ev,λb o m=>h1 b o (d.c0 b o m),h3.cn,h3.ln⟩,U,g D h1 h2⟩
end Go.Jog
namespace Go.Jog
open Go
theorem XZ {F:Fx}{d:Fr}{C:Mem}{L:List Ent}{p r b t:Nat}{k:List Value}{n:TypeId}{o:Nat × Nat}{f:TI}{x v:Value}(q:Ent.obj b (.cells ⟨k⟩ n o)∈L)(s:F.fn.results=#[.cell r t,.tmp p])
  (c:ev d [] (.tmp p)=some x) (u:ev d [] (.tmp r)=some (p_ b))
  (y:F.cx.T.get t=some f) (z:cJ f (k.take f.size)=some v) (h:F.post (.tuple #[v,x]) C []) (l:F.ends:=by exact⟨λ_ _ _ h=>h,rfl⟩):G F [] .ret d C L:=λ_ a w g m=>by
 refine l.kq ?_;have i:=bP g (λp c=>by cases c) c;have j:=bP g (λp c=>by cases c) u;simp only[Act.eval]at i j;refine bodyPost_ret (v:=.tuple #[v,x]) ?_ (g.defers.trans l.2) ⟨_,C,[],U,St.dropAll m,h⟩;have A:=fD (F:=F) y (m.sep.e _ q) z;simp only[TM]at i j;simp[results,s,i,j,asAddr,A]
end Go.Jog
namespace Go.Jog
structure Bq (A:List Arc3)(to n:Nat)(d:List Int)(qs:List Nat):Prop where
 rel:P5 A to n d
 que:∀q∈qs,q<n/\0<=dAt d q
 srt:qs.Pairwise λx y=>dAt d x<=dAt d y
 top:∀q∈qs,∀v,dAt d v<=dAt d q+1
 tight:∀a∈A,a.up ∉ qs->P3 d a
structure Bi (A:List Arc3)(to n:Nat)(d:List Int)(h:Nat)(qs:List Nat)(T:Arc3->Prop):Prop where
 rel:P5 A to n d
 hh:h<n/\0<=dAt d h
 que:∀q∈qs,q<n/\0<=dAt d q
 srt:qs.Pairwise λx y=>dAt d x<=dAt d y
 topq:∀q∈qs,dAt d h<=dAt d q
 top:∀v,dAt d v<=dAt d h+1
 tight:∀a∈A,a.up ∉ qs->a.up≠h->P3 d a
 tightT:∀a∈A,a.up=h->T a->P3 d a
end Go.Jog
namespace Go.Proofs.YtfjcldheldflbaaGreatDoor
open Go.Proofs.Tryz
open Go Go.Jog
variable {C:Mem}{i k:Nat}{l:List Nat}{m n:Nat}{u v:Value}
def tab:Tab:=[(2,⟨.int .i64,1,8,[.int .i64],false⟩),
 (3,⟨.int .i64,1,8,[.int .i64],false⟩),
 (4,⟨.bool,1,1,[.bool],false⟩),
 (5,⟨.int .u8,1,1,[.int .u8],false⟩),
 (9,⟨.str,1,16,[.str],false⟩),
 (12,⟨.int .u64,1,8,[.int .u64],false⟩),
 (21,⟨.int .i32,1,4,[.int .i32],false⟩),
 (22,⟨.int .i8,1,1,[.int .i8],false⟩),
 (23,⟨.arr 2 22,2,2,[.int .i8,.int .i8],true⟩),
 (25,⟨.struct [(5,0),(23,1),(4,3)],4,4,[.int .u8,.int .i8,.int .i8,.bool],true⟩),
 (26,⟨.arr 6 22,6,6,[.int .i8,.int .i8,.int .i8,.int .i8,.int .i8,.int .i8],true⟩),
 (28,⟨.struct [(26,0),(4,6)],7,7,[.int .i8,.int .i8,.int .i8,.int .i8,.int .i8,.int .i8,.bool],true⟩),
 (29,⟨.slice 138,1,24,[.slice],false⟩),
 (31,⟨.struct [(25,0),(28,4),(29,11)],12,40,[.int .u8,.int .i8,.int .i8,.bool,.int .i8,.int .i8,.int .i8,.int .i8,.int .i8,.int .i8,.bool,.slice],true⟩),
 (32,⟨.str,1,16,[.str],false⟩),
 (34,⟨.struct [(32,0),(32,1)],2,32,[.str,.str],true⟩),
 (36,⟨.slice 34,1,24,[.slice],false⟩),
 (37,⟨.slice 65,1,24,[.slice],false⟩),
 (39,⟨.struct [(36,0),(37,1)],2,48,[.slice,.slice],true⟩),
 (40,⟨.slice 32,1,24,[.slice],false⟩),
 (41,⟨.slice 32,1,24,[.slice],false⟩),
 (42,⟨.slice 121,1,24,[.slice],false⟩),
 (43,⟨.slice 126,1,24,[.slice],false⟩),
 (45,⟨.struct [(39,0),(41,2),(42,3),(43,4)],5,120,[.slice,.slice,.slice,.slice,.slice],true⟩),
 (47,⟨.slice 140,1,24,[.slice],false⟩),
 (50,⟨.int .i64,1,8,[.int .i64],false⟩),
 (57,⟨.slice 3,1,24,[.slice],false⟩),
 (60,⟨.arr 3 32,3,48,[.str,.str,.str],true⟩),
 (61,⟨.arr 3 32,3,48,[.str,.str,.str],true⟩),
 (64,⟨.arr 3 3,3,24,[.int .i64,.int .i64,.int .i64],true⟩),
 (65,⟨.arr 3 3,3,24,[.int .i64,.int .i64,.int .i64],true⟩),
 (68,⟨.struct [(40,0)],1,24,[.slice],true⟩),
 (70,⟨.struct [(3,0),(32,1),(40,2),(68,3),(40,4)],5,96,[.int .i64,.str,.slice,.slice,.slice],true⟩),
 (74,⟨.struct [(3,0),(47,1),(40,2)],3,56,[.int .i64,.slice,.slice],true⟩),
 (82,⟨.slice 41,1,24,[.slice],false⟩),
 (90,⟨.arr 2 28,14,14,[.int .i8,.int .i8,.int .i8,.int .i8,.int .i8,.int .i8,.bool,.int .i8,.int .i8,.int .i8,.int .i8,.int .i8,.int .i8,.bool],true⟩),
 (104,⟨.struct [(82,0),(32,1),(68,2)],3,64,[.slice,.str,.slice],true⟩),
 (113,⟨.struct [(5,0),(5,1),(5,2)],3,3,[.int .u8,.int .u8,.int .u8],true⟩),
 (116,⟨.func,1,8,[.func],false⟩),
 (121,⟨.struct [(9,0),(32,1),(32,2)],3,48,[.str,.str,.str],true⟩),
 (124,⟨.struct [(32,0),(32,1),(32,2)],3,48,[.str,.str,.str],true⟩),
 (126,⟨.struct [(3,0),(9,1),(34,2),(32,4),(9,5),(9,6),(124,7)],10,152,[.int .i64,.str,.str,.str,.str,.str,.str,.str,.str,.str],true⟩),
 (127,⟨.slice 142,1,24,[.slice],false⟩),
 (135,⟨.arr 2 5,2,2,[.int .u8,.int .u8],true⟩),
 (136,⟨.arr 3 22,3,3,[.int .i8,.int .i8,.int .i8],true⟩),
 (138,⟨.struct [(5,0),(23,1),(135,3),(5,5),(136,6)],9,9,[.int .u8,.int .i8,.int .i8,.int .u8,.int .u8,.int .u8,.int .i8,.int .i8,.int .i8],true⟩),
 (140,⟨.struct [(40,0),(32,1)],2,40,[.slice,.str],true⟩),
 (142,⟨.struct [(3,0),(140,1)],3,48,[.int .i64,.slice,.str],true⟩),
 (144,⟨.arr 2 32,2,32,[.str,.str],true⟩),
 (152,⟨.arr 3 34,6,96,[.str,.str,.str,.str,.str,.str],true⟩),
 (160,⟨.slice 163,1,24,[.slice],false⟩),
 (163,⟨.arr 2 3,2,16,[.int .i64,.int .i64],true⟩),
 (174,⟨.func,1,8,[.func],false⟩),
 (181,⟨.slice 9,1,24,[.slice],false⟩),
 (188,⟨.str,1,16,[.str],false⟩),
 (196,⟨.struct [(3,0),(3,1)],2,16,[.int .i64,.int .i64],true⟩),
 (203,⟨.slice 5,1,24,[.slice],false⟩),
 (206,⟨.arr 3 9,3,48,[.str,.str,.str],true⟩),
 (211,⟨.int .u64,1,8,[.int .u64],false⟩),
 (214,⟨.map 34 4,1,8,[.map],false⟩),
 (221,⟨.ptr 231,1,8,[.ptr],false⟩),
 (228,⟨.struct [(32,0),(40,1)],2,40,[.str,.slice],true⟩),
 (229,⟨.slice 228,1,24,[.slice],false⟩),
 (231,⟨.struct [(3,0),(57,1),(229,2),(57,3),(228,4)],6,120,[.int .i64,.slice,.slice,.slice,.str,.slice],true⟩),
 (234,⟨.map 163 3,1,8,[.map],false⟩),
 (271,⟨.slice 285,1,24,[.slice],false⟩),
 (273,⟨.struct [(4,0),(271,1)],2,32,[.bool,.slice],true⟩),
 (278,⟨.struct [(34,0),(32,2)],3,48,[.str,.str,.str],true⟩),
 (279,⟨.arr 3 278,9,144,[.str,.str,.str,.str,.str,.str,.str,.str,.str],true⟩),
 (281,⟨.func,1,8,[.func],false⟩),
 (282,⟨.int .u32,1,4,[.int .u32],false⟩),
 (285,⟨.int .u64,1,8,[.int .u64],false⟩),
 (288,⟨.map 3 4,1,8,[.map],false⟩),
 (297,⟨.func,1,8,[.func],false⟩),
 (300,⟨.func,1,8,[.func],false⟩),
 (301,⟨.slice 40,1,24,[.slice],false⟩),
 (303,⟨.func,1,8,[.func],false⟩),
 (317,⟨.iface,1,16,[.iface],false⟩),
 (324,⟨.map 9 4,1,8,[.map],false⟩),
 (326,⟨.map 3 32,1,8,[.map],false⟩),
 (332,⟨.func,1,8,[.func],false⟩),
 (342,⟨.ptr 344,1,8,[.ptr],false⟩),
 (344,⟨.struct [(342,0),(203,1)],2,32,[.ptr,.slice],true⟩),
 (347,⟨.func,1,8,[.func],false⟩),
 (351,⟨.map 3 3,1,8,[.map],false⟩),
 (352,⟨.func,1,8,[.func],false⟩),
 (379,⟨.ptr 5,1,8,[.ptr],false⟩),
 (380,⟨.ptr 228,1,8,[.ptr],false⟩),
 (385,⟨.ptr 3,1,8,[.ptr],false⟩),
 (387,⟨.int .i64,1,8,[.int .i64],false⟩),
 (390,⟨.ptr 409,1,8,[.ptr],false⟩),
 (393,⟨.arr 24 5,24,24,[.int .u8,.int .u8,.int .u8,.int .u8,.int .u8,.int .u8,.int .u8,.int .u8,.int .u8,.int .u8,.int .u8,.int .u8,.int .u8,.int .u8,.int .u8,.int .u8,.int .u8,.int .u8,.int .u8,.int .u8,.int .u8,.int .u8,.int .u8,.int .u8],true⟩),
 (398,⟨.func,1,8,[.func],false⟩),
 (409,⟨.struct [(9,0),(9,1),(317,2)],3,48,[.str,.str,.iface],true⟩),
 (412,⟨.arr 20 285,20,160,[.int .u64,.int .u64,.int .u64,.int .u64,.int .u64,.int .u64,.int .u64,.int .u64,.int .u64,.int .u64,.int .u64,.int .u64,.int .u64,.int .u64,.int .u64,.int .u64,.int .u64,.int .u64,.int .u64,.int .u64],true⟩),
 (414,⟨.ptr 416,1,8,[.ptr],false⟩),
 (416,⟨.struct [(9,0)],1,16,[.str],true⟩),
 (417,⟨.arr 32 5,32,32,[.int .u8,.int .u8,.int .u8,.int .u8,.int .u8,.int .u8,.int .u8,.int .u8,.int .u8,.int .u8,.int .u8,.int .u8,.int .u8,.int .u8,.int .u8,.int .u8,.int .u8,.int .u8,.int .u8,.int .u8,.int .u8,.int .u8,.int .u8,.int .u8,.int .u8,.int .u8,.int .u8,.int .u8,.int .u8,.int .u8,.int .u8,.int .u8],true⟩),
 (421,⟨.arr 0 16,0,0,[],true⟩)]
noncomputable def cx:Cx:={ P:=Tryz.prog,T:=tab,mixed:=by kernel_rfl,hT:=by kernel_rfl }
abbrev Str:=List UInt8
structure Rel where
 kind:Int
 upper:Str
 lower:Str
 deriving DecidableEq,Inhabited
def ry (b:UInt8):Bool:=(decide (97<=(b.toNat:Int)) && decide ((b.toNat:Int)<=122)) || (decide (65<=(b.toNat:Int)) && decide ((b.toNat:Int)<=90))
def yU (b:UInt8):Bool:=(decide (48<=(b.toNat:Int)) && decide ((b.toNat:Int)<=57)) || ((b.toNat:Int) == 95)
def kl (k:Nat)(b:UInt8):Bool:=ry b || (!(k == 0) && yU b)
def iC:Nat->Str->Bool
|_,[]=>true
|k,b::s=>kl k b && iC (k+1) s
def dm (s:Str):Bool:=!(s == []) && decide (s.length<=32) && iC 0 s
theorem ri:∀{s:Str}{k i:Nat}{b:UInt8},s[i]?=some b->kl (k+i) b=false->iC k s=false
|[],k,i,b,h,_=>by simp at h
|c::s,k,0,b,h,a=>by
  simp at h;subst h;simp only[Um]at a;simp[iC,a]
|c::s,k,i+1,b,h,a=>by
  have:=ri (k:=k+1) (by simpa using h) (by rw[show k+1+i=k+(i+1) by omega];exact a);simp[iC,this]
theorem oH:∀{s:Str}{k:Nat},(∀i b,s[i]?=some b->kl (k+i) b=true)->iC k s=true
|[],k,_=>rfl
|c::s,k,h=>by
  have h0:=h 0 c am;simp only[Um]at h0;have h1:=oH (s:=s) (k:=k+1) (λi b a=>by
   have:=h (i+1) b (by simpa using a)
   rwa [show k+(i+1)=k+1+i by omega]at this)
  simp[iC,h0,h1]
set_option maxRecDepth 100000 in
theorem iI (C:Mem)(s:Str)(D:s.length<1000000):Gives cx.P 285 [ag s] C (.bool (dm s)):=by
 refine Wy func285 57 U3 λw0=>U0 1 [0,2] U<|U1 6 U λR a=>WX U8<|Ww [0,13] a U<|G.cond U (λh=>?_) (λh=>?_)
 .refine U0 1 [2] U<|Wx U2<|⟨?_,U⟩;congr 1;simp only[UG,Uo,SS]at h;unfold dm;rcases h with h|h
  .have:s=[]:=h;simp[this]
  have h2:¬ s.length<=32:=by omega
  simp[h2]
 simp only[Up,UB,Tk]at h;have q:s≠[]:=h.1;have r:s.length<=32:=by have:=h.2;omega
 refine U1 1 U λR a=>YC U U U U U U U U U U y_ fl_ (λE _ _ g=>?_);have t:=g;obtain⟨A,c,rfl,_⟩:=t;refine C6 2 [15,16,17] a U<|G.loop (λfr u j m=>∃k:Nat,k<=s.length/\(∀i b,i<k->s[i]?=some b->kl (0+i) b=true)/\fr=[(15,[],.slice A (s.map λb=>[Value.int .u8 b.toNat]).length c),(16,[],i_ (s.map λb=>[Value.int .u8 b.toNat]).length),(17,[],i_ k)]/\j=[]/\m=s.length-k) (m:=s.length) (hn_ [15,16,17] U) ⟨0,SM _,λi b v=>by omega,U,U,U⟩ (λfr u j m l w=>?_);obtain⟨k,F,n,rfl,rfl,rfl⟩:=w;refine U0 1 [15,16,17,18] U<|G.cond U (λh=>?_) (λh=>?_)
 .simp only[ar,SS]at h;have x:k<s.length:=by omega
  let⟨b,d⟩:∃b,s[k]?=some b:=⟨s[k],aj x⟩;have y:=g.mono l;refine U1 1 U λR a=>WG y U10 om_ (row:=[.int .u8 b.toNat]) (by simp[d]) fl_ λH z=>Ws z U8<|C6 2 [3,4,15,16,17] a U<|U1 5 U λR a=>WR U8<|Wv 6 U<|WR U8<|WX U8<|Wt U6<|XL [E_ 3 _,E_ 4 _,(5,[],.bool (ry b)),E_ 15 _,E_ 16 _,E_ 17 _] a<|U1 5 U λR a=>WR U8<|Wv 3 U<|WX U8<|Wt U6 ?_;refine XL [E_ 3 _,E_ 5 _,(6,[],.bool (yU b)),E_ 15 _,E_ 16 _,E_ 17 _] a ?_;refine U1 8 U λR a=>WX U8 ?_;refine WR U8 ?_;refine XL [E_ 15 _,E_ 16 _,E_ 17 _,(55,[],.bool (!(ry b) && (((k:Int) == 0) || !(yU b))))] a ?_;have o:(!(ry b) && (((k:Int) == 0) || !(yU b)))=!(kl (0+k) b):=by
   have e:((k:Int) == 0)=(0+k == 0):=by
    rw[TX];by_cases p:k=0
    .subst p;rfl
    have:¬ (k:Int)=0:=by omega
    rw[UB.2 this,UB.2 p]
   unfold kl;rw[e];cases ry b <;> cases yU b <;> cases (0+k == 0) <;> rfl
  refine G.cond U (λh=>?_) (λh=>?_)
  .rw[o]at h;refine U0 1 [2] U<|Wx U2<|⟨?_,U⟩;have:=ri (k:=0) d (by simpa using h);simp[dm,this]
  rw[o]at h;refine Wu λR a=>WW ((k+1:Nat):Int) U4 om_ om_ om_ U2<|C6 1 [15,16,17] a U<|WF (m':=s.length-(k+1)) om_ l (hn_ [15,16,17] U) ⟨k+1,by omega, ?_,U,U,U⟩;intro i B v f;rcases Th i k with h1|h1
  .exact n i B h1 f
  have:i=k:=by omega
  subst this;rw[d]at f;cases f
  simpa using h
 simp only[ar,Tk]at h;refine U0 1 [2] U<|Wx U2<|⟨?_,U⟩;have:=oH (s:=s) (k:=0) (λi b d=>n i b (by have:=(R0.1 d).1;omega) d);simp[dm,this,q,r]
set_option maxRecDepth 100000
structure ArcE where
 lower:Str
 upper:Str
 deriving DecidableEq,Inhabited
theorem Rx (a b:Str):(a == b)=decide (a=b):=by by_cases h:a=b <;> simp[h]
set_option maxRecDepth 100000
def NC (a b:Int):Int:=if a<b then -1 else if a=b then 0 else 1
structure TotC {α:Type}(f:α->α->Int):Prop where
 eq:∀x y,f x y=0 ↔ x=y
 sym:∀x y,f x y<0 ↔ 0<f y x
 trans:∀x y z,f x y<0->f y z<0->f x z<0
section
variable {α:Type} {f:α->α->Int}
variable [DecidableEq α]
def ins (f:α->α->Int)(x:α):List α->List α
|[]=>[x]
|y::l=>if f y x<0 then y::ins f x l else if y=x then y::l else x::y::l
end
def oc (x:Int):List Value:=[.int .i64 x]
def aX (i:Nat):List Value:=[.int .i64 i]
abbrev RW (b:Nat):Value:=.pointer (some ⟨b,0,none⟩)
abbrev PW (b:Nat)(q:Option Addr)(v:Value):Ent:=.obj b (.cells ⟨[.pointer q,v]⟩ 344 (0,0))
abbrev u8s (s:Str):List Value:=s.map λc=>Value.int .u8 c.toNat
abbrev PX (v:Value)(s:Str):Ent:=.arr v 5 1 s.length (u8s s)
theorem uh (C:Mem)(b:Nat)(q:Option Addr)(v:Value)(g:q=none∨q=some ⟨b,0,none⟩):Jog.Fn cx.P 296 [RW b] C [PW b q v] λ_ _ d=>d=[PW b (some ⟨b,0,none⟩) v]:=by
 refine Wy func296 20 U3 λw0=>WK (L':=[.obj b (.cells ⟨[.pointer q,v]⟩ 344 (0,0))]) U<|U1 3 U λR a=>WA ah U9<|YM (e:=344) U U U U U kr_ kr_ U U<|Ww [0,6] a U<|G.cd (λc=>?_) λc=>?_
 .have h:q=none:=by simpa using c
  subst h;refine U1 2 U λR a=>YB (t:=344) U U U U U ah kr_ kr_ kr_ am fl_<|YE (fn:=Tryz.f323) U U U U U func323 kr_ kr_ kr_ kr_ fl_<|YR (t:=344) U U U U U ah kr_ kr_ kr_ kr_ fl_<|Wv 2 U<|WB (j:=0) U12<|Xp [] trivial (a _ _ _ U ?_);refine XD U ?_;rfl
 have i:q=some ⟨b,0,none⟩:=by
  rcases g with rfl|rfl
  .simp at c
  rfl
 subst i;refine U1 3 U λR a=>WA ah U9<|Wt U6<|Yz (e:=344) U U U U U U kr_ kr_ U U<|Ww [19] a U<|G.cd (λf=>?_) λf=>?_
 .cases f
 refine XD U ?_;rfl
theorem wM (C:Mem)(b:Nat)(q:Option Addr)(v:Value)(s:Str)(c:UInt8)(i:q=none∨q=some ⟨b,0,none⟩)(m:s.length<=1000000000):Jog.Fn cx.P 253 [RW b,.int .u8 c.toNat] C [PW b q v,PX v s] λ_ _ a=>∃h,a=[PW b (some ⟨b,0,none⟩) h,PX h (s++[c])]:=by
 refine Wy func253 17 U3 λw0=>WK (L':=[.obj b (.cells ⟨[.pointer q,v]⟩ 344 (0,0)),.arr v 5 1 s.length (u8s s)]) U<|U0 1 [0,1] U<|WQ [(1,3)] U λR d=>Wt U6<|D.call (uh _ b q v i) U (.inr dc_) U6 (SQ _) fl_ λn _ o _ k=>Ww [0,1] d U ?_;subst k;refine WK (L':=[.obj b (.cells ⟨[p_ b,v]⟩ 344 (0,0)),.arr v 5 1 s.length (u8s s)]) U<|U1 4 U λR d=>WA ah U9<|Wt U6<|WP [[.int .u8 c.toNat]] U12 λp _ _ l=>W0 (j:=1) U11 l U ay (by simp only[SN];omega) fl_ λe f g=>Wv 2 U<|WB (j:=1) U12<|Xp [] trivial (d _ _ _ U ?_);refine U0 1 [4] U<|G.perm (L':=[.obj b (.cells ⟨[p_ b,.slice e f g]⟩ 344 (0,0)),.arr (.slice e f g) 5 1 (s.length+1) (u8s s++[Value.int .u8 c.toNat])]) (SQ _)<|WE (W6 U U ?_);exact⟨.slice e f g,by simp[PX,u8s]⟩
theorem kN (C:Mem)(b:Nat)(q:Option Addr)(v:Value)(s t:Str)(e:q=none∨q=some ⟨b,0,none⟩)(g:s.length+t.length<=1000000000):Jog.Fn cx.P 256 [RW b,ag t] C [PW b q v,PX v s] λ_ _ a=>∃d,a=[PW b (some ⟨b,0,none⟩) d,PX d (s++t)]:=by
 refine Wy func256 19 U3 λw0=>WK (L':=[.obj b (.cells ⟨[.pointer q,v]⟩ 344 (0,0)),.arr v 5 1 s.length (u8s s)]) U<|U0 2 [0,1] U<|WQ [(1,3)] U λR c=>Wt U6<|D.call (uh _ b q v e) U (.inr dc_) U6 (SQ _) fl_ λh _ i _ f=>Ww [0,1] c U ?_;subst f;refine WK (L':=[.obj b (.cells ⟨[p_ b,v]⟩ 344 (0,0)),.arr v 5 1 s.length (u8s s)]) U<|U1 4 U λR c=>WA ah U9<|Wt U6<|YA (j:=1) U U U U U U U U U U U U U U U om_ fl_ λA2 n2 c2=>Wv 2 U<|WB (j:=1) U12<|Ww [1] c U<|U0 4 [4,5] U<|G.perm (L':=[.obj b (.cells ⟨[p_ b,.slice A2 n2 c2]⟩ 344 (0,0)),.arr (.slice A2 n2 c2) 5 1 (s.length+t.length) (u8s s++t.map λb=>Value.int .u8 b.toNat)]) (SQ _)<|WE (WS U3 ?_);exact⟨.slice A2 n2 c2,by simp[PX,u8s]⟩
theorem FN (C:Mem)(b:Nat)(q:Option Addr)(v:Value)(s:Str)(a:s≠[])(g:s.length<=1000000000):Jog.Fn cx.P 257 [RW b] C [PW b q v,PX v s] λu _ c=>u=ag s/\c=[]:=by
 refine Wy func257 14 U3 λw0=>WK (L':=[.obj b (.cells ⟨[.pointer q,v]⟩ 344 (0,0)),.arr v 5 1 s.length (u8s s)]) U<|G.form af (λd h=>?_);have i:=Tw.2 a;rcases d with⟨h1,h2⟩|⟨g0,c0,rfl,k,l⟩
 .omega
 exact U0 1 [0] U<|WM [0,1,2,3,4,5,6,7,8,9,10,11] [(4,0)] U kr_ λR m f=>Wv 3 U<|WA ah U9<|Yy U U U U U om_ U U<|Wv 3 U<|WA ah U9<|Wt U6<|Yx (j:=1) (e:=5) U U U U kr_ kr_ U U U a om_ fl_<|C6 1 [2] f U<|Wx U2<|⟨U,U⟩
def cY (x:Nat):List Value:=[.int .u64 x]
theorem eO (x:Nat):(cY x).length=1:=rfl
def NineC (C:Mem)(v:Value)(n:Nat):Prop:=∃l,zH l/\bC l=n/\Sl C 1 v (l.map cY)
theorem NineC.mono {C D:Mem}{v:Value}{n:Nat}(h:NineC C v n)(a:C.le D):NineC D v n:=by
 let⟨l,h1,h2,h3⟩:=h;exact⟨l,h1,h2,h3.mono a⟩
theorem NineC.m_ {D:Mem}(h:NineC C v n)(a:C.le D:=by exact mup):NineC D v n:=NineC.mono h a
theorem Co (C:Mem)(v:Value)(l:List Nat)(d:Sl C 1 v (l.map cY)):Pur cx.P 252 [v] C λu f=>Sl f 1 u ((Gd l).map cY):=by
 obtain⟨o,c0,rfl,p,_⟩:=id d;simp only[ar]at d p⊢;refine Wy func252 21 U3 λw0=>U0 1 [0] U<|G.loop (λfr f q r=>∃(k:Nat)(A:Option Addr)(c:Nat),(k<=l.length/\Sl f 1 (.slice A k c) ((l.take k).map cY)/\om l l.length=om l k)/\fr=[(0,[],.slice A k c)]/\q=[]/\r=k+1) (hn_ [0] U) ⟨l.length,o,c0,⟨SH _,by rw[SU];exact d,U⟩,U,U,U⟩ (λfr E F m _ s=>?_);obtain⟨k,A,c,⟨H,hs,ht⟩,rfl,rfl,rfl⟩:=s;let⟨_,I,t,w,_⟩:=id hs;have J:=mx_
 have K:k<=c:=by
  rw[ar,S2]at w;injection t with h1 h2 h3;omega
 have x:0<k->((l.take k).map cY)[((k:Int)-1).toNat]?=some (cY (g9 l (k-1))):=λh=>by
  rw[show((k:Int)-1).toNat=k-1 by omega,SI,TA,aL om_,aj (by omega:k-1<l.length)];unfold g9;rw[al,aj (by omega:k-1<l.length)];rfl
 refine U1 7 U λR g=>Wz _ U U6<|D.index U10 (λi=>⟨hs,(by have h:decide ((0:Int)<(k:Int))=true:=i.1;simp at h;omega),x (by have h:decide ((0:Int)<(k:Int))=true:=i.1;simp at h;omega)⟩) fl_ U λL y=>WU U6 y U3<|Wt U6<|WR U8<|Ww [0,14] g U<|G.cd (λb=>?_) λb=>?_
 .have a:0<k/\g9 l (k-1)=0:=by
   have:(0:Int)<(k:Int)/\((g9 l (k-1):Nat):Int)=0:=by simpa using b
   omega
  refine U1 3 U λR g=>WW (((k-1:Nat):Int)) U4 om_ om_ om_ U2<|Xd 0 (k-1) c U12 (λ_=>⟨.inl ⟨U,U⟩,.inr ⟨_,U⟩,.inl ⟨U,U⟩,by omega,by omega,SH _⟩) U2<|C6 1 [0] g U ?_;have n:=Sl.sub hs (l:=0) (h:=k-1) (m:=c) (SM _) ap om_ (SH _);have z:(((l.take k).map cY).take (k-1)).drop 0=(l.take (k-1)).map cY:=by
   rw[TU,<- UR,VD,TJ om_]
  rw[z]at n;have B:om l l.length=om l (k-1):=by
   rw[ht];obtain⟨j,rfl⟩:∃j,k=j+1:=⟨k-1,by omega⟩;simp only[UX]at a⊢;rw[om,aL];unfold g9 at a;rw[al,aj om_]at a;rw[aj om_];exact congrArg some a.2
  refine WF (m':=k-1+1) om_ mup (hn_ [0] U) ⟨k-1,_,c,⟨by omega,n.mono mup,B⟩,U,U,U⟩
 have a:¬ (0<k/\g9 l (k-1)=0):=λhh=>by
  have h1:(decide ((0:Int)<(k:Int)) && (((g9 l (k-1):Nat):Int) == 0))=true:=by
   rw[hh.2];simp;omega
  rw[h1]at b;cases b
 refine U0 2 [2] U<|Wx U2<|⟨U, ?_⟩;have e:om l k=k:=by
  cases k with
 |zero=>rfl
 |succ j =>
   simp only[UX]at a;rw[om,aF];intro h;refine a ⟨by omega, ?_⟩;unfold g9;rw[al,h];rfl
 unfold Gd;rw[ht,e];exact hs
theorem gU (C:Mem)(v:Value)(l:List Nat)(b:l.length=n):Jog.Fn cx.P 252 [v] C [.arr v 285 1 n (l.map cY).flatten] λu a c=>c=[]/\Sl a 1 u ((Gd l).map cY) :=
 Jog.Fn.give (l.map cY) kr_ (by intro r hr;obtain⟨y,_,rfl⟩:=SL.1 hr;rfl) (by rw[ar,b]) (λa _ hs=>Co a v l hs)
def kg (m n:Nat):Int:=if m<n then -1 else if n<m then 1 else 0
theorem jx :kg m n<0 ↔ m<n:=by unfold kg;split <;> (try split) <;> omega
theorem HK :0<kg m n ↔ n<m:=by unfold kg;split <;> (try split) <;> omega
theorem HJ (C:Mem)(w z:Value)(a b:List Nat)(d:Sl C 1 w (a.map cY))(f:Sl C 1 z (b.map cY))(n:zH a)(o:zH b):Gives cx.P 221 [w,z] C (i_ (kg (bC a) (bC b))):=by
 have Z:=mx_
 obtain⟨F,c0,rfl,H,aa,_⟩:=id d;obtain⟨I,J,rfl,K,ab,_⟩:=id f;simp only[ar]at d f H K⊢;refine Wy func221 41 U3 λw0=>U0 1 [0,1] U<|U0 5 [0,1,10] U<|G.cd (λg=>?_) λg=>?_
 .have ac:a.length≠b.length:=λe=>by
   rw[e]at g;simp at g
  refine U0 5 [15] U<|G.cd (λp=>?_) λp=>?_
  .have q:a.length<b.length:=by
    have:(a.length:Int)<b.length:=by simpa using p
    omega
   exact U0 1 [4] U<|Wx U2<|⟨by rw[show kg (bC a) (bC b)=-1 from aL (vw n.1 o q)],U⟩
  have q:b.length<a.length:=by
   have:¬ (a.length:Int)<b.length:=by simpa using p
   omega
  have r:=vw o.1 n q;exact U0 1 [4] U<|Wx U2<|⟨by rw[show kg (bC a) (bC b)=1 from by unfold kg;rw[aF om_,aL r]],U⟩
 have s:a.length=b.length:=by
  have:(a.length:Int)=b.length:=by simpa using g
  omega
 refine U1 2 U λR c=>Wz _ U U6<|C6 1 [0,1,5] c U<|G.loop (λfr C' L M=>∃(k:Nat),(k<=a.length/\a.drop k=b.drop k)/\fr=[(0,[],.slice F a.length c0),(1,[],.slice I b.length J),(5,[],i_ ((k:Int)-1))]/\L=[]/\M=k+1) (hn_ [0,1,5] U) ⟨a.length,⟨SH _,by rw[TZ,s,TZ]⟩,U,U,U⟩ (λfr ad ae m _ N=>?_);obtain⟨k,⟨hk,i⟩,rfl,rfl,rfl⟩:=N;refine U0 2 [0,1,5,20] U<|G.cd (λt=>?_) λt=>?_
 .have A:0<k:=by
   have:(0:Int)<=(k:Int)-1:=by simpa using t
   omega
  obtain⟨j,rfl⟩:∃j,k=j+1:=⟨k-1,by omega⟩;let⟨x,l⟩:∃x,a[j]?=some x:=⟨a[j],aj om_⟩;let⟨y,hy⟩:∃y,b[j]?=some y:=⟨b[j],aj om_⟩;have B:(a.map cY)[(((j+1:Nat):Int)-1).toNat]?=some (cY x):=by
   rw[show(((j+1:Nat):Int)-1).toNat=j by omega,SI,l];rfl
  have D:(b.map cY)[(((j+1:Nat):Int)-1).toNat]?=some (cY y):=by
   rw[show(((j+1:Nat):Int)-1).toNat=j by omega,SI,hy];rfl
  refine WM [0,1,2,3,4,5,6,7,8] [] U kr_ λR O c=>Wv 2 U<|WG d.m_ U10 om_ B fl_ λaf Q=>Ws Q U8<|Wv 2 U<|WG f.m_ U10 om_ D fl_ λag S=>Ws S U8<|C6 1 [0,1,5,31] c U<|G.cd (λu=>?_) λu=>?_
  .have E:x≠y:=λh=>by
    subst h;simp at u
   refine WM [0,1,2,3,4,5,6,7,8] [] U kr_ λR O c=>Wv 2 U<|WG d.m_ U10 om_ B fl_ λah T=>Ws T U8<|Wv 2 U<|WG f.m_ U10 om_ D fl_ λai V=>Ws V U8<|C6 1 [40] c U<|G.cd (λv=>?_) λv=>?_
   .have E:x<y:=by
     have:(x:Int)<y:=by simpa using v
     omega
    exact U0 1 [4] U<|Wx U2<|⟨by rw[show kg (bC a) (bC b)=-1 from aL (NF n.1 s l hy E i)],U⟩
   have W:y<x:=by
    have:¬ (x:Int)<y:=by simpa using v
    omega
   have r:=NF o.1 s.symm hy l W i.symm;exact U0 1 [4] U<|Wx U2<|⟨by rw[show kg (bC a) (bC b)=1 from by unfold kg;rw[aF om_,aL r]],U⟩
  have X:x=y:=by
   have:(x:Int)=y:=by simpa using u
   omega
  refine U1 1 U λR c=>Wz _ U U6<|C6 1 [0,1,5] c U ?_;rw[show((j+1:Nat):Int)-1-1=(j:Int)-1 by omega];refine WF (m':=j+1) om_ mup (hn_ [0,1,5] U) ⟨j,⟨by omega,by
   rw[Tg (by omega:j<a.length),Tg (by omega:j<b.length),i,(R0.1 l).2,(R0.1 hy).2,X]⟩,rfl,rfl,rfl⟩
 have A:k=0:=by
  have:¬ (0:Int)<=(k:Int)-1:=by simpa using t
  omega
 subst A;refine U0 1 [4] U<|Wx U2 ?_;have Y:a=b:=by simpa using i
 subst Y;exact⟨by rw[show kg (bC a) (bC a)=0 from by unfold kg;rw[aF om_,aF om_]],U⟩
theorem yH (h:i<l.length):l[i]?=some (g9 l i):=by rw[aj h,AV (aj h)]
theorem jF (h:i<l.length):(l.map cY)[i]?=some (cY (g9 l i)):=by rw[SI,yH h];rfl
theorem Nn (h:l.length<=i):g9 l i=0:=by
 unfold g9;rw[al,SR h];rfl
theorem B9v:B9=1000000000:=rfl
theorem OS (C:Mem)(E F:Value)(a b:List Nat)(q:Sl C 1 E (a.map cY))(r:Sl C 1 F (b.map cY))(H:Dig9 a)(I:Dig9 b)(O:a.length<=10000000)(Q:b.length<=10000000) :
  Pur cx.P 220 [E,F] C λu k=>NineC k u (bC a+bC b):=by
 obtain⟨A0,c0,rfl,_⟩:=id q;obtain⟨B0,d0,rfl,_⟩:=id r;simp only[ar]at q r⊢;have hB:=B9v;refine Wy func220 53 U3 λw0=>U0 1 [0,1] U<|U0 5 [0,1,13] U<|G.cut (λfr k l o=>∃(e lb:List Nat)(A:Option Addr)(c:Nat)(B:Option Addr)(d:Nat),(Sl k 1 (.slice A e.length c) (e.map cY)/\Sl k 1 (.slice B lb.length d) (lb.map cY)/\lb.length<=e.length/\bC e+bC lb=bC a+bC b/\Dig9 e/\Dig9 lb/\e.length<=10000000)/\fr=[(0,[],.slice A e.length c),(1,[],.slice B lb.length d)]/\l=[]) ?_ (λfr _ ai o _ p=>?_)
 .refine G.cd (λt=>?_) λt=>?_
  .have S:a.length<b.length:=by
    have:(a.length:Int)<b.length:=by simpa using t
    omega
   refine U0 4 [0,1] U<|WJ 0 l_ (hn_ [0,1] U) ⟨b,a,_,_,_,_,⟨r.mono mup,q.mono mup,by omega,by omega,I,H,Q⟩,U,U⟩
  have S:¬ a.length<b.length:=λh=>by
   have:(a.length:Int)<b.length:=by omega
   simp[this]at t
  refine WJ 0 l_ (hn_ [0,1] U) ⟨a,b,_,_,_,_,⟨q.mono mup,r.mono mup,by omega,U,H,I,O⟩,U,U⟩
 obtain⟨e ,lb ,A ,c ,B ,d,⟨T,V,W,X,Y,Z,aj⟩,rfl,rfl⟩:=p;refine U1 2 U λR g=>Wz _ U U6<|Xq U9 (SM _) (by show 8*(e.length+1)<=281474976710656;omega) y_ fl_ λak=>C6 1 [0,1,5] g U<|U0 1 [0,1,5,6] U<|U0 3 [1,5,6,20,21,22] U<|G.loop (λfr k l o=>∃(i:Nat)(out:List Nat)(f:Nat)(w:Value),(i<=e.length/\out.length=i/\Dig9 out/\f<=1/\bC out+B9 ^ i*f=bC (e.take i)+bC (lb.take i))/\fr=[(1,[],.slice B lb.length d),(5,[],w),(6,[],.int .u64 f),(20,[],.slice A e.length c),(21,[],i_ e.length),(22,[],i_ i)]/\l=[.arr w 285 1 i (out.map cY).flatten]/\o=e.length-i) (hn_ [1,5,6,20,21,22] U) ⟨0,[],0,_,⟨SM _,U,(λx hx=>(by cases hx)),by omega,U⟩,U,U,U⟩ (λfr al am m _ p=>?_);obtain⟨i,out,f,w,⟨hi,s,J,K,L⟩,rfl,rfl,rfl⟩:=p;refine U0 1 [1,5,6,20,21,22,23] U<|G.cd (λv=>?_) λv=>?_
 .have y:i<e.length:=by simpa using v
  have aa:=lB Y i;have ab:=lB Z i;refine U1 1 U λR g=>WG T.m_ U10 om_ (jF (i:=i) y) fl_ λan ac=>Ws ac U8<|C6 2 [1,5,6,7,8,20,21,22] g U<|U1 2 U λR g=>D.int (((f+g9 e i:Nat):Int)) U4 g_ U2<|C6 1 [1,5,6,7,20,21,22] g U<|U0 4 [1,5,6,7,20,21,22,33] U<|G.cut (λfr k l o=>(True)/\fr=[(1,[],.slice B lb.length d),(5,[],w),(6,[],.int .u64 ((f+g9 e i+g9 lb i:Nat):Int)),(20,[],.slice A e.length c),(21,[],i_ e.length),(22,[],i_ i)]/\l=[.arr w 285 1 i (out.map cY).flatten]) ?_ (λfr _ ao o _ p=>?_)
  .refine G.cd (λz=>?_) λz=>?_
   .have ad:i<lb.length:=by simpa using z
    refine U1 3 U λR g=>WG V.m_ U10 om_ (jF (i:=i) ad) fl_ λap ae=>Ws ae U8<|D.int (((f+g9 e i+g9 lb i:Nat):Int)) U4 g_ U2<|C6 1 [1,5,6,20,21,22] g U<|WJ 0 l_ (hn_ [1,5,6,20,21,22] U) ⟨trivial,U,U⟩
   have hz:g9 lb i=0:=Nn (by have h:¬ i<lb.length:=(by simpa using z);omega);refine WJ 0 l_ (hn_ [1,5,6,20,21,22] U) ⟨trivial,by rw[hz];rfl,U⟩
  obtain⟨aq,rfl,rfl⟩:=p;refine U1 2 U λR g=>Xg (f+g9 e i+g9 lb i) (B9) U6 om_ U2<|WP [cY ((f+g9 e i+g9 lb i) % B9)] U12 λau _ _ af=>D.append (j:=0) U11 af U ay (by show(i+1)*8<=_;omega) fl_ λM=>C6 1 [1,5,6,20,21,22] g U<|U1 1 U λR g=>Xs (f+g9 e i+g9 lb i) (B9) U6 om_ (.inr ⟨U,by omega⟩) U2<|C6 1 [1,5,6,20,21,22] g U<|Wu λR g=>Wz _ U U6<|C6 1 [1,5,6,20,21,22] g U ?_;have N:f+g9 e i+g9 lb i=g9 e i+g9 lb i+f:=by omega
  refine WK (L':=[.arr M 285 1 (i+1) ((out++[(g9 e i+g9 lb i+f) % B9]).map cY).flatten]) (by rw[N];simp[cY]) ?_;rw[N];refine WF (m':=e.length-(i+1)) om_ mup (hn_ [1,5,6,20,21,22] U) ⟨i+1,out++[(g9 e i+g9 lb i+f) % B9],(g9 e i+g9 lb i+f) / B9,M,⟨by omega,by simp[s],J.snoc (Ts _ dc_),Jw aa ab K,JJ s L⟩,U,U,U⟩
 have y:i=e.length:=by
  have:¬ i<e.length:=by simpa using v
  omega
 refine WQ [(4,3)] U λR g=>Wv 2 U<|WP [cY f] U12 λav _ _ ag=>D.append (j:=0) U11 ag U ay (by show(i+1)*8<=_;omega) fl_ λaw=>D.call (gU _ _ (out++[f]) (n:=i+1) (by simp[s])) U (.inr dc_) U6 (by rw[Tm,Ta];exact SQ _) fl_ (λax _ az _ ah=>?_);obtain⟨rfl,hu⟩:=ah;refine C6 1 [4] g U<|Wx U2<|⟨U,Gd (out++[f]),iT (J.snoc (TD K dc_)), ?_,hu⟩;rw[iS,jn,s,L,y,SU,Td W,X]
theorem Li (C:Mem)(H I:Value)(a b:List Nat)(q:Sl C 1 H (a.map cY))(r:Sl C 1 I (b.map cY))(L:Dig9 a)(J:Dig9 b)(ac:a.length<=10000000)(M:b.length<=a.length)(ad:bC b<=bC a) :
  Pur cx.P 222 [H,I] C λu k=>NineC k u (bC a-bC b):=by
 obtain⟨s,c0,rfl,_⟩:=id q;obtain⟨t,v,rfl,_⟩:=id r;simp only[ar]at q r⊢;have N:=B9v;refine Wy func222 45 U3 λw0=>U0 1 [0,1] U<|U1 2 U λR d=>Xq U9 (SM _) (by show 8*a.length<=281474976710656;omega) y_ fl_ λae=>C6 1 [0,1,5] d U<|U0 1 [0,1,5,6] U<|U0 3 [1,5,6,13,14,15] U<|G.loop (λfr k e f=>∃(i:Nat)(out:List Nat)(c:Nat)(w:Value),(i<=a.length/\out.length=i/\Dig9 out/\c<=1/\bC out+bC (b.take i)=bC (a.take i)+B9 ^ i*c)/\fr=[(1,[],.slice t b.length v),(5,[],w),(6,[],.int .u64 c),(13,[],.slice s a.length c0),(14,[],i_ a.length),(15,[],i_ i)]/\e=[.arr w 285 1 i (out.map cY).flatten]/\f=a.length-i) (hn_ [1,5,6,13,14,15] U) ⟨0,[],0,_,⟨SM _,U,(λx O=>(by cases O)),by omega,U⟩,U,U,U⟩ (λfr af ag m _ g=>?_);obtain⟨i,out,c,w,⟨hi,l,y,z,o⟩,rfl,rfl,rfl⟩:=g;refine U0 1 [1,5,6,13,14,15,16] U<|G.cd (λA=>?_) λA=>?_
 .have p:i<a.length:=by simpa using A
  have Q:=lB L i;have S:=lB J i;refine U1 1 U λR d=>WG q.m_ U10 om_ (jF (i:=i) p) fl_ λah T=>Ws T U8<|C6 2 [1,5,6,7,8,13,14,15] d U<|U0 2 [1,5,7,8,9,13,14,15] U<|U0 4 [1,5,7,8,9,13,14,15,24] U<|G.cut (λfr k e f=>(True)/\fr=[(1,[],.slice t b.length v),(5,[],w),(8,[],.int .u64 (g9 a i)),(9,[],.int .u64 ((c+g9 b i:Nat):Int)),(13,[],.slice s a.length c0),(14,[],i_ a.length),(15,[],i_ i)]/\e=[.arr w 285 1 i (out.map cY).flatten]) ?_ (λfr _ ai f _ g=>?_)
  .refine G.cd (λB=>?_) λB=>?_
   .have V:i<b.length:=by simpa using B
    refine U1 3 U λR d=>WG r.m_ U10 om_ (jF (i:=i) V) fl_ λaj W=>Ws W U8<|D.int (((c+g9 b i:Nat):Int)) U4 g_ U2<|C6 1 [1,5,8,9,13,14,15] d U<|WJ 0 l_ (hn_ [1,5,8,9,13,14,15] U) ⟨trivial,U,U⟩
   have X:g9 b i=0:=Nn (by have h:¬ i<b.length:=(by simpa using B);omega);refine WJ 0 l_ (hn_ [1,5,8,9,13,14,15] U) ⟨trivial,by rw[X];rfl,U⟩
  obtain⟨ak,rfl,rfl⟩:=g;refine U0 1 [1,5,6,8,9,13,14,15] U<|U0 3 [1,5,6,8,9,13,14,15,33] U<|G.cut (λfr k e f=>(True)/\fr=[(1,[],.slice t b.length v),(5,[],w),(6,[],.int .u64 ((wJ (g9 a i) (g9 b i) c:Nat):Int)),(8,[],.int .u64 ((g9 a i+B9*wJ (g9 a i) (g9 b i) c:Nat):Int)),(9,[],.int .u64 ((c+g9 b i:Nat):Int)),(13,[],.slice s a.length c0),(14,[],i_ a.length),(15,[],i_ i)]/\e=[.arr w 285 1 i (out.map cY).flatten]) ?_ (λfr _ al f _ g=>?_)
  .refine G.cd (λE=>?_) λE=>?_
   .have F:wJ (g9 a i) (g9 b i) c=1:=by
     have:(g9 a i:Int)<((c+g9 b i:Nat):Int):=by simpa using E
     unfold wJ;rw[aL om_]
    refine U1 1 U λR d=>D.int (((g9 a i+B9*1:Nat):Int)) U4 g_ U2<|C6 2 [1,5,6,8,9,13,14,15] d U<|WJ 0 l_ (hn_ [1,5,6,8,9,13,14,15] U) ⟨trivial,by rw[F];rfl,U⟩
   have F:wJ (g9 a i) (g9 b i) c=0:=by
    have:¬ (g9 a i:Int)<((c+g9 b i:Nat):Int):=by simpa using E
    unfold wJ;rw[aF om_]
   refine WJ 0 l_ (hn_ [1,5,6,8,9,13,14,15] U) ⟨trivial,by rw[F];rfl,U⟩
  obtain⟨am,rfl,rfl⟩:=g;refine U1 3 U λR d=>?_;have an:wJ (g9 a i) (g9 b i) c<=1:=Jy _ _ _;have Y:c+g9 b i<=g9 a i+B9*wJ (g9 a i) (g9 b i) c:=by
   unfold wJ;split <;> omega
  refine D.int (((Jc (g9 a i) (g9 b i) c:Nat):Int)) U4 (by rw[IntKind.wrap_u64];unfold Jc;rw[N]at Y⊢;omega) U2<|WP [cY (Jc (g9 a i) (g9 b i) c)] U12 λao _ _ Z=>D.append (j:=0) U11 Z U ay (by show(i+1)*8<=_;omega) fl_ λK=>C6 1 [1,5,6,13,14,15] d U<|Wu λR d=>Wz _ U U6<|C6 1 [1,5,6,13,14,15] d U<|WK (L':=[.arr K 285 1 (i+1) ((out++[Jc (g9 a i) (g9 b i) c]).map cY).flatten]) (by simp[cY])<|WF (m':=a.length-(i+1)) om_ mup (hn_ [1,5,6,13,14,15] U) ⟨i+1,out++[Jc (g9 a i) (g9 b i) c],wJ (g9 a i) (g9 b i) c,K,⟨by omega,by simp[l],y.snoc (PE Q S z),Jy _ _ _,GJ J z l o⟩,U,U,U⟩
 have p:i=a.length:=by
  have:¬ i<a.length:=by simpa using A
  omega
 refine WQ [(1,3)] U λR d=>Wt U6<|D.call (gU _ _ out (n:=i) l) U (.inr dc_) U6 (SQ _) fl_ (λap _ aq _ aa=>?_);obtain⟨rfl,hu⟩:=aa;refine C6 1 [4] d U<|Wx U2<|⟨U,Gd out,iT y, ?_,hu⟩;rw[p,SU,Td M]at o;have h0:=jo y;rw[l,p]at h0;have ab:c=0:=by
  rcases Nat.le_one_iff_eq_zero_or_eq_one.1 z with h|h
  .exact h
  rw[h,T0]at o;omega
 rw[ab,Wr]at o;rw[iS];omega
abbrev qU (g c n:Nat):Value:=.slice (some ⟨g,0,none⟩) n c
theorem Gf (n:Nat):fK ([.int .u64 0]:List Value) n=((List.replicate n 0).map cY).flatten:=by
 rw[dJ,Vr];rfl
theorem rF {j z:Nat}(h:i≠j):g9 (l.set i z) j=g9 l j:=by
 unfold g9;rw[al,al,VC h]
theorem DL (n j:Nat):g9 (List.replicate n 0) j=0:=by
 unfold g9;rw[al,T4];split <;> rfl
theorem Ke (C:Mem)(T V:Value)(a b:List Nat)(w:Sl C 1 T (a.map cY))(y:Sl C 1 V (b.map cY))(ag:Dig9 a)(ai:Dig9 b)(av:a.length<=1000000)(aw:b.length<=1000000) :
  Pur cx.P 190 [T,V] C λu s=>NineC s u (bC a*bC b):=by
 obtain⟨A,c0,rfl,_⟩:=id w;obtain⟨t,v,rfl,_⟩:=id y;simp only[ar]at w y⊢;have hB:=B9v;let⟨N,hN⟩:∃N,a.length+b.length+1=N:=⟨_,rfl⟩;refine Wy func190 79 U3 λw0=>U0 1 [0,1] U<|U1 4 U λR d=>WW (((a.length+b.length:Nat):Int)) U4 om_ om_ om_ U2<|WW (((N:Nat):Int)) U4 om_ om_ om_ U2<|Xq U9 (SH _) (by show 8*N<=281474976710656;omega) y_ fl_ λf=>C6 1 [0,1,5] d U<|U0 3 [1,5,19,20,21] U<|WK (L':=[.arr (qU f N N) 285 1 N ((List.replicate N 0).map cY).flatten]) (by rw[<- Gf];rfl)<|G.loop (λfr s g n=>∃(i:Nat)(o:List Nat),(i<=a.length/\o.length=N/\Dig9 o/\bC o=bC (a.take i)*bC b/\∀j,i+b.length<=j->g9 o j=0)/\fr=[(1,[],.slice t b.length v),(5,[],qU f N N),(19,[],.slice A a.length c0),(20,[],i_ a.length),(21,[],i_ i)]/\g=[.arr (qU f N N) 285 1 N (o.map cY).flatten]/\n=a.length-i) (hn_ [1,5,19,20,21] U) ⟨0,List.replicate N 0,⟨SM _,Tf,(λx l=>by rw[Uj l];decide),by rw[sV (λx l=>Uj l)];simp[bC],λj _=>DL _ j⟩,U,U,U⟩ (λfr ax ay m _ p=>?_);obtain⟨i,o,⟨hi,W,X,Y,hz⟩,rfl,rfl,rfl⟩:=p;refine U0 1 [1,5,19,20,21,22] U<|G.cd (λB=>?_) λB=>?_
 .have E:i<a.length:=by simpa using B
  have l:=lB ag i;refine U1 1 U λR d=>WG w.m_ U10 om_ (jF (i:=i) E) fl_ λaz aj=>Ws aj U8<|C6 2 [1,5,6,7,19,20,21] d U<|U0 1 [1,5,6,7,8,19,20,21] U<|U0 3 [1,5,6,7,8,19,20,21,26,27,28] U<|G.loop (λfr s g n=>∃(k:Nat)(q:List Nat)(c:Nat),(k<=b.length/\q.length=N/\Dig9 q/\c<B9/\bC q+B9 ^ (i+k)*c=bC o+B9 ^ i*(g9 a i*bC (b.take k))/\∀j,i+b.length<=j->g9 q j=0)/\fr=[(1,[],.slice t b.length v),(5,[],qU f N N),(6,[],i_ i),(7,[],.int .u64 (g9 a i)),(8,[],.int .u64 c),(19,[],.slice A a.length c0),(20,[],i_ a.length),(21,[],i_ i),(26,[],.slice t b.length v),(27,[],i_ b.length),(28,[],i_ k)]/\g=[.arr (qU f N N) 285 1 N (q.map cY).flatten]/\n=b.length-k) (hn_ [1,5,6,7,8,19,20,21,26,27,28] U) ⟨0,o,0,⟨SM _,W,X,by decide,by simp[bC],hz⟩,U,U,U⟩ (λfr aA aB m _ p=>?_);obtain⟨k,q,c,⟨hk,F,H,I,J,K⟩,rfl,rfl,rfl⟩:=p;refine U0 1 [1,5,6,7,8,19,20,21,26,27,28,29] U<|G.cd (λL=>?_) λL=>?_
  .have M:k<b.length:=by simpa using L
   have hy:=lB ai k;have Z:=lB H (i+k);have aa:q[i+k]?=some (g9 q (i+k)):=yH om_;have ak:=tE I l hy Z;rw[show B9*B9=1000000000000000000 from rfl]at ak;refine U1 1 U λR d=>WG y.m_ U10 om_ (jF (i:=k) M) fl_ λaC al=>Ws al U8<|C6 2 [1,5,6,7,8,9,10,19,20,21,26,27,28] d U<|U1 4 U λR d=>WW (((i+k:Nat):Int)) U4 om_ om_ om_ U2<|WV ((i+k)*1) U10 w_ U2<|Xa ah U6 (λ_=>(by rw[da eO aa];rfl)) U2<|Wv 2 U<|D.int (((g9 a i*g9 b k:Nat):Int)) U4 (by rw[<- Tc,IntKind.wrap_u64];omega) U2<|D.int (((g9 q (i+k)+g9 a i*g9 b k:Nat):Int)) U4 g_ U2<|D.int (((c+g9 a i*g9 b k+g9 q (i+k):Nat):Int)) U4 g_ U2<|C6 1 [1,5,6,7,8,9,19,20,21,26,27,28] d U<|U1 3 U λR d=>WW (((i+k:Nat):Int)) U4 om_ om_ om_ U2<|Wt U6<|Xg (c+g9 a i*g9 b k+g9 q (i+k)) (B9) U6 om_ U2<|WV ((i+k)*1) U10 w_ U2<|WZ (j:=0) U11 (by show(i+k)*1+1<=_;rw[bK eO,F];omega)<|Ww [1,5,6,7,8,19,20,21,26,27,28] d U<|U1 1 U λR d=>Xs (c+g9 a i*g9 b k+g9 q (i+k)) (B9) U6 om_ (.inr ⟨U,by omega⟩) U2<|C6 1 [1,5,6,7,8,19,20,21,26,27,28] d U<|Wu λR d=>Wz _ U U6<|C6 1 [1,5,6,7,8,19,20,21,26,27,28] d U<|WK (L':=[.arr (qU f N N) 285 1 N ((q.set (i+k) ((c+g9 a i*g9 b k+g9 q (i+k)) % B9)).map cY).flatten]) (by rw[<- bE eO _ (by omega:i+k<q.length)];rfl)<|WF (m':=b.length-(k+1)) om_ mup (hn_ [1,5,6,7,8,19,20,21,26,27,28] U) ⟨k+1,q.set (i+k) ((c+g9 a i*g9 b k+g9 q (i+k)) % B9),(c+g9 a i*g9 b k+g9 q (i+k)) / B9,⟨by omega,by simp[F],H.set (Ts _ dc_),Jv I l hy Z,HW aa U J,λj r=>by rw[rF om_];exact K j r⟩,U,U,U⟩
  have M:k=b.length:=by
   have:¬ k<b.length:=by simpa using L
   omega
  refine U1 3 U λR d=>WW (((i+b.length:Nat):Int)) U4 om_ om_ om_ U2<|C6 1 [1,5,8,11,19,20,21] d U<|G.loop (λfr s g n=>∃(m:Nat)(e:List Nat)(c2:Nat),(i+b.length<=m/\m<=i+b.length+1/\e.length=N/\Dig9 e/\c2<B9/\(m=i+b.length+1->c2=0)/\(m=i+b.length->g9 e m=0)/\bC e+B9 ^ m*c2=bC o+B9 ^ i*(g9 a i*bC b)/\∀j,i+b.length+1<=j->g9 e j=0)/\fr=[(1,[],.slice t b.length v),(5,[],qU f N N),(8,[],.int .u64 c2),(11,[],i_ m),(19,[],.slice A a.length c0),(20,[],i_ a.length),(21,[],i_ i)]/\g=[.arr (qU f N N) 285 1 N (e.map cY).flatten]/\n=2-(m-(i+b.length))) (hn_ [1,5,8,11,19,20,21] U) ⟨i+b.length,q,c,⟨SH _,by omega,F,H,I,λh=>by omega,λ_=>K _ (SH _),by rw[M,SU]at J;exact J,λj r=>K j om_⟩,U,U,U⟩ (λfr aD aE m _ p=>?_);obtain⟨m,e,c2,⟨aF,aG,O,ab,Q,am,an,ac,ad⟩,rfl,rfl,rfl⟩:=p;refine U0 2 [1,5,8,11,19,20,21,60] U<|G.cd (λh60=>?_) λh60=>?_
  .have ae:0<c2:=by
    have:(0:Int)<(c2:Int):=by simpa using h60
    omega
   have ao:m=i+b.length:=by
    rcases Th m (i+b.length+1) with h|h
    .omega
    have:=am om_;omega
   have S:=an ao;have af:e[m]?=some (g9 e m):=yH om_;refine U1 3 U λR d=>WV (m*1) U10 w_ U2<|Xa ah U6 (λ_=>(by rw[da eO af];rfl)) U2<|D.int (((c2+g9 e m:Nat):Int)) U4 g_ U2<|C6 1 [1,5,8,11,19,20,21] d U<|U1 3 U λR d=>Xg (c2+g9 e m) (B9) U6 om_ U2<|WV (m*1) U10 w_ U2<|WZ (j:=0) U11 (by show m*1+1<=_;rw[bK eO,O];omega)<|Ww [1,5,8,11,19,20,21] d U<|U1 1 U λR d=>Xs (c2+g9 e m) (B9) U6 om_ (.inr ⟨U,by omega⟩) U2<|C6 1 [1,5,8,11,19,20,21] d U<|U1 1 U λR d=>Wz _ U U6<|C6 1 [1,5,8,11,19,20,21] d U ?_;have ap:(c2+g9 e m) % B9=c2:=by rw[S,Um];exact Vn Q
   have aq:(c2+g9 e m) / B9=0:=by rw[S,Um];exact UN Q
   refine WK (L':=[.arr (qU f N N) 285 1 N ((e.set m c2).map cY).flatten]) (by rw[ap,<- bE eO _ (by omega:m<e.length)];rfl) ?_;rw[aq];refine WF (m':=2-(m+1-(i+b.length))) om_ mup (hn_ [1,5,8,11,19,20,21] U) ⟨m+1,e.set m c2,0,⟨by omega,by omega,by simp[O],ab.set Q,by decide,λ_=>rfl,λh=>by omega,by
    have h1:=uE (z:=c2) af;rw[S]at h1;omega,λj r=>by rw[rF om_];exact ad j r⟩,rfl,rfl,rfl⟩
  have ae:c2=0:=by
   have:¬ (0:Int)<(c2:Int):=by simpa using h60
   omega
  refine Wu λR d=>Wz _ U U6<|C6 1 [1,5,19,20,21] d U<|WF (m':=a.length-(i+1)) om_ mup (hn_ [1,5,19,20,21] U) ⟨i+1,e,⟨by omega,O,ab,by
   rw[ae,Wr,Um]at ac;rw[nH,Ug,<- Y,Ur];exact ac,λj r=>ad j om_⟩,U,U,U⟩
 have E:i=a.length:=by
  have:¬ i<a.length:=by simpa using B
  omega
 refine WQ [(1,3)] U λR d=>Wt U6<|D.call (gU _ _ o W) U (.inr dc_) U6 (SQ _) fl_ (λaH _ aI _ au=>?_);obtain⟨rfl,hu⟩:=au;refine C6 1 [4] d U<|Wx U2<|⟨U,Gd o,iT X, ?_,hu⟩;rw[iS,Y,E,SU]
theorem uj (h:zH l)(a:bC l<B9 ^ m):l.length<=m:=by
 rcases Th m l.length with h1|h1
 .have h2:=wk h om_;have h3:B9 ^ m<=B9 ^ (l.length-1):=Tb dc_ om_;omega
 exact h1
theorem NineC.get (h:NineC C v n)(a:n<B9 ^ m):∃l,zH l/\bC l=n/\l.length<=m/\Sl C 1 v (l.map cY):=by
 let⟨l,h1,h2,h3⟩:=h;exact⟨l,h1,h2,uj h1 (by rw[h2];exact a),h3⟩
theorem NineC.zero (C:Mem):NineC C (.slice none 0 0) 0:=⟨[],⟨(λx a=>(by cases a)),by simp⟩,rfl,Sl.nil C 1⟩
theorem NineC.form (h:NineC C v n):∃A m c,v=.slice A m c:=by
 let⟨l,_,_,A,c,h,_⟩:=h;exact⟨A,_,c,h⟩
theorem dM (h:m<B9 ^ n)(a:n<=k):m<B9 ^ k:=TL h (Tb dc_ a)
theorem qZ (C:Mem)(c:NineC C u m)(d:NineC C v n):Gives cx.P 221 [u,v] C (i_ (kg m n)):=by
 let⟨a,h1,h2,h3⟩:=c;let⟨b,h4,h5,e⟩:=d;rw[<- h2,<- h5];exact HJ C u v a b h3 e h1 h4
theorem Na (C:Mem)(c:NineC C u m)(d:NineC C v n)(e:m<B9 ^ k)(f:n<B9 ^ k)(i:k<=1000000):Pur cx.P 220 [u,v] C λw D=>NineC D w (m+n):=by
 let⟨a,h1,h2,h3,h4⟩:=c.get e;let⟨b,h5,g,j,h⟩:=d.get f;rw[<- h2,<- g];exact OS C u v a b h4 h h1.1 h5.1 om_ om_
theorem vm (C:Mem)(c:NineC C u m)(d:NineC C v n)(e:m<B9 ^ k)(i:n<=m)(j:k<=1000000):Pur cx.P 222 [u,v] C λw D=>NineC D w (m-n):=by
 let⟨a,h1,h2,h3,h4⟩:=c.get e;let⟨b,h5,f,g⟩:=d;rw[<- h2,<- f];refine Li C u v a b h4 g h1.1 h5.1 om_ ?_ om_;rcases Th a.length b.length with h|h
 .have:=vw h1.1 h5 h;omega
 exact h
theorem Gz (C:Mem)(c:NineC C u m)(d:NineC C v n)(e:m<B9 ^ k)(f:n<B9 ^ k)(i:k<=1000000):Pur cx.P 190 [u,v] C λw D=>NineC D w (m*n):=by
 let⟨a,h1,h2,h3,h4⟩:=c.get e;let⟨b,h5,g,j,h⟩:=d.get f;rw[<- h2,<- g];exact Ke C u v a b h4 h h1.1 h5.1 om_ om_
theorem xa (C:Mem)(a:Dig9 l)(b:Sl C 1 u (l.map cY)):Pur cx.P 252 [u] C λw D=>NineC D w (bC l) :=
 (Co C u l b).mono λ_c _d _e _ ⟨h1,h2⟩=>⟨h1,Gd l,iT a,iS l,h2⟩
theorem zY (C:Mem){d:Nat}(a:NineC C u m)(f:m<B9 ^ k)(g:d<B9)(p:k<=999999):Pur cx.P 279 [u,.int .u64 d] C λw D=>NineC D w (m*d):=by
 obtain⟨A,n,c,rfl⟩:=a.form;refine Wy func279 10 U3 λw0=>U0 1 [0,1] U<|U1 2 U λR h=>WP [cY d] U12 λq _ _ i=>WT (xa _ (l:=[d]) (λx j=>by rw[S6.1 j];exact g) i) U7 fl_ λr _ _ o=>WT (Gz (k:=k+1) _ a.m_ o (dM f om_) (by show d+B9*0<_;rw[T3];have:0<B9 ^ k:=Vp dc_;have h2:=To B9 this;omega) om_) U7 fl_ λs _ _ b=>C6 1 [4] h U<|Wx U2<|⟨U, ?_⟩;have e:bC [d]=d:=by show d+B9*0=d;omega
 rw[e]at b;exact b
open Go Go.Jog Go.RowKit Go.Shelf
attribute [local go_sem] Oper.semAt_some
set_option maxRecDepth 100000 in
theorem Mu (l Bs b off len cap:Nat)(zs:Nat->Int)(hlen:len<1000000)(J:Nat->World->Prop)
  (hJ:∀k W,J k W->W.cell? ⟨Bs,0,none⟩=some (.slice (some ⟨b,off,none⟩) len cap)/\∀j,j<len->W.cell? ⟨b,off+j,none⟩=some (.int .u64 (zs j)))
  (hY:∀k W,J k W->k<len->YieldAt Fence.wide 1 Tryz.prog l #[i_ ((len-1-k:Nat):Int),.int .u64 (zs (len-1-k))] W λe W'=>e=.returned (.bool true)/\J (k+1) W')
  (W:World) (h0:J 0 W) :
  CallsIn Fence.wide 2 Tryz.prog 297 #[.func (.yield l) #[] #[],p_ Bs] W λe W'=>(∃v,e=.returned v)/\J len W':=by
 refine callsIn_of_wp func297 U trivial ?_ U;simp only[Tryz.ntmps297,Uu,S5,Tp,Nat.reduceAdd,Nat.reduceSub,Wg,Wi,List.push_toArray,List.append_toArray,UM,UA];have hBs:=(hJ 0 W h0).1
 gi_wp2
 gi_loopw [3] (λi wr=>∃k:Nat,k<=len/\i=i_ ((len:Int)-1-k)/\J k wr) (λi _=>(intOf i+1).toNat)
 case atStart=>exact⟨0,SM _,by simp,h0⟩
 case round =>
  obtain⟨k,hk,rfl,hJs⟩:=hrel;let⟨hB2,hcx⟩:=hJ k wr hJs;by_cases hlt:k<len
  .let⟨fn,tmps,assign,body,hy,hR⟩:=hY k wr hJs hlt;have hcx':=hcx (len-1-k) om_;have e1:((len-1-k:Nat):Int)=(len:Int)-1-k:=by omega
   rw[e1]at hy
   gi_wp2
   refine hR.mono ?_;rintro e W3 ⟨rfl,hJ3⟩
   gi_wp2
   go_roundw
   case rel=>exact⟨k+1,by omega,by congr 1;omega,hJ3⟩
   case measure=>simp[intOf];omega
  obtain rfl:k=len:=by omega
  gi_wp2
  go_end0
  exact⟨⟨_,U⟩,hJs⟩
set_option maxRecDepth 100000 in
theorem zt (l Bs:Nat)(A:Option Addr)(cap:Nat)(J:Nat->World->Prop)(W:World)(hBs:W.cell? ⟨Bs,0,none⟩=some (.slice A 0 cap))(h0:J 0 W) :
  CallsIn Fence.wide 2 Tryz.prog 297 #[.func (.yield l) #[] #[],p_ Bs] W λe W'=>(∃v,e=.returned v)/\J 0 W':=by
 refine callsIn_of_wp func297 U trivial ?_ U;simp only[Tryz.ntmps297,Uu,S5,Tp,Nat.reduceAdd,Nat.reduceSub,Wg,Wi,List.push_toArray,List.append_toArray,UM,UA]
 gi_wp2
 gi_loopw [3] (λi wr=>i=i_ (-1)/\J 0 wr) (λ_ _=>0)
 case atStart=>exact⟨rfl,h0⟩
 case round =>
  obtain⟨rfl,hJs⟩:=hrel
  gi_wp2
  go_end0
  exact⟨⟨_,U⟩,hJs⟩
def JE (xs:List Nat):List (Value × Value):=(List.range xs.length).map λk=>(.int .i64 ((xs.length-1-k:Nat):Int),.int .u64 ((xs.getD (xs.length-1-k) 0:Nat):Int))
theorem gi (a:List Nat):(JE a).length=a.length:=by simp[JE]
theorem wo {a:List Nat}(h:k<a.length):(JE a)[k]?=some (i_ ((a.length-1-k:Nat):Int),.int .u64 ((a.getD (a.length-1-k) 0:Nat):Int)):=by
 simp[JE,h]
theorem ul (C:Mem)(b t:Nat)(v:Value)(a:List Nat)(q:C b=some (.cells ⟨[v]⟩ t (0,0)))(r:Sl C 1 v (a.map λn:Nat=>[Value.int .u64 (n:Int)]))(s:a.length<1000000) :
  RY Tryz.prog 297 #[p_ b] C (JE a):=by
 intro l J W e D u h0;obtain⟨A,d,rfl,E,_,_,f⟩:=r;rw[ar] at *;have g:∀{W:World}{k:Nat},J k W->W.cell? ⟨b,0,none⟩=some (.slice A a.length d):=fun {W k} c=>by
  simp[World.cell?,e k W c b _ q]
 rw[gi];rcases TY a.length with h|h
 .have h1:=g h0;rw[h]at h1⊢;exact zt l b A d J W h1 h0
 obtain⟨w,rfl,i,_⟩:=f 0 _ (aj (by simpa using h));let⟨m,x,F⟩:=w;simp only at i;subst i;refine Mu l b m x a.length d (λj=>((a.getD j 0:Nat):Int)) s J (λk W c=>⟨g c,λj y=>?_⟩) (λk W c z=>u k _ W c (wo z)) W h0;have h3:(a.map λn:Nat=>[Value.int .u64 (n:Int)])[j]?=some [Value.int .u64 ((a.getD j 0:Nat):Int)]:=by
  simp[y]
 let⟨a2,h4,_,h5⟩:=f j _ h3;cases h4
 have o:=h5 0 _ rfl;rw[Addr.add_lit]at o;let⟨_,blk,G,fz,p,B⟩:=o;simp only at p;simp only[World.cell?,e k W c m _ p];simpa using B
theorem Eh (C:Mem)(A:Option Addr)(n c:Nat):Pur cx.P 254 [.slice A n c] C λr a=>∃b,r=.func (.func 297) #[] #[p_ b]/\a b=some (.cells ⟨[.slice A n c]⟩ 271 (0,0)):=by
 exact Wy func254 4 U3 λw0=>Wu λR d=>WH U6 λf=>C6 1 [1] d U<|U0 2 [2] U<|G.freeze 0 U λg h e=>Wx U2<|⟨U,_,U,e⟩
abbrev qW (b n c:Nat):Value:=.slice (some ⟨b,0,none⟩) n c
theorem re (q:Rat):q.num<0 ↔ q<0:=by
 have:=Rat.num_nonneg (q:=q);rw[<- Rat.not_le,<- this];omega
theorem tM (C:Mem)(s:Str)(c:UInt8):Gives cx.P 232 [ag s,.int .u8 c.toNat] C (i_ (Lib.indexByte s c)):=by
 have h:=Gives.ofCalls (f:=232) (args:=[ag s,.int .u8 c.toNat]) (P:=cx.P) kr_ (λw=>Any.stringslite_IndexByte Tryz.idxByte ⟨s.toArray⟩ (c.toNat:Int) w) C;simpa using h
theorem Iy (C:Mem)(s:Str)(c:UInt8):Gives cx.P 275 [ag s,ag [c]] C (i_ (Lib.indexByte s c)):=by
 refine Wy func275 143 U3 λw0=>U0 1 [0,1] U<|U0 3 [0,1,5] U<|U1 6 U λR a=>WX U8<|C6 1 [0,1,5,16] a U<|G.cd (λb=>?_) λb=>?_
 .refine U0 1 [4] U<|Wx U2<|⟨?_,U⟩;have h:([c]:Str)=s:=by simpa using b
  subst h;simp[Lib.indexByte]
 refine U0 3 [0,1,5,24] U<|G.cd (λd=>?_) λd=>?_
 .exact U1 2 U λR a=>W8 U8 (λ_=>⟨by omega,(rfl:([c]:Str)[(0:Int).toNat]?=some c)⟩) U2<|WD (tM _ s c) U7<|C6 1 [4] a U<|Wx U2<|⟨U,U⟩
 exact absurd d am
theorem PJ (C:Mem)(s:Str)(c:UInt8)(g:s.length<1000000):Gives cx.P 223 [ag s,ag [c]] C (.tuple #[ag (ji c s).1,ag ((ji c s).2.getD []),.bool (ji c s).2.isSome]):=by
 refine Wy func223 23 U3 λw0=>U0 3 [0,1] U<|U1 2 U λR b=>WD (Iy _ s c) U7<|C6 1 [0,1,7] b U<|U0 2 [0,1,7,12] U<|G.cd (λd=>?_) λd=>?_
 .have h0:0<=Lib.indexByte s c:=by simpa using d
  let⟨a,post,h1,h2,h3⟩:=vX h0;have h:s.length=a.length+1+post.length:=by rw[h2];simp;omega
  rw[h1,h3];refine WM [0,1,2,3,4,5,6,7,8,9,10,11] [] U kr_ λR i b=>Wv 2 U<|Xk 0 a.length U9 (λ_=>⟨.inl ⟨U,U⟩,.inr ⟨_,U⟩,.inl ⟨U,U⟩,by omega,by omega,SH _⟩) U2<|Wv 4 U<|WW (((a.length+1:Nat):Int)) U4 am om_ om_ U2<|Xk (a.length+1) s.length U9 (λ_=>⟨.inr ⟨_,U⟩,.inl ⟨U,U⟩,.inl ⟨U,U⟩,by omega,SH _,SH _⟩) U2<|C6 3 [4,5,6] b U<|WE (G.dropAll (Xj U4 ?_));refine⟨?_,U⟩;have e:(s.take a.length).drop 0=a:=by rw[h2];simp
  have f:(s.take s.length).drop (a.length+1)=post:=by rw[SU,h2];simp
  rw[e,f];rfl
 have h0:¬ 0<=Lib.indexByte s c:=by simpa using d
 rw[rT h0];refine U0 4 [4,5,6] U<|WE (G.dropAll (Xj U4 ?_));exact⟨U,U⟩
theorem NA (C:Mem)(s:Str)(c:UInt8)(a:s.length<1000000):Gives cx.P 159 [ag s,ag [c]] C (.tuple #[ag (ji c s).1,ag ((ji c s).2.getD []),.bool (ji c s).2.isSome]):=by
 refine Wy func159 13 U3 λw0=>U0 3 [0,1] U<|U1 2 U λR b=>WD (PJ _ s c a) U7<|C6 6 [4,5,6] b U<|WE (G.dropAll (Xj U4 ?_));exact⟨U,U⟩
theorem AT (C:Mem)(s:Str)(c:UInt8):Gives cx.P 294 [ag s,ag [c]] C (.bool (cD c s).2):=by
 refine Wy func294 18 U3 λw0=>U0 1 [0,1] U<|U1 9 U λR d=>Xk 0 1 U9 (λe=>⟨.inl ⟨U,U⟩,.inr ⟨_,U⟩,.inl ⟨U,U⟩,by omega,(by have h:decide ((1:Int)<=(s.length:Int))=true:=e.1;simp at h;omega),SH _⟩) U2<|Wv 2 U<|WR U8<|C6 1 [4] d U<|Wx U2<|⟨?_,U⟩;cases s with
|nil=>rfl
|cons b s =>
  have h1:decide ((1:Int)<=((b::s).length:Nat))=true:=by simp;omega
  unfold cD;by_cases a:b=c
  .subst a;simp;omega
  simp[a]
theorem Mf (C:Mem)(s:Str)(c:UInt8):Gives cx.P 276 [ag s,ag [c]] C (.tuple #[ag (cD c s).1,.bool (cD c s).2]):=by
 refine Wy func276 15 U3 λw0=>U0 2 [0,1] U<|U1 2 U λR d=>WD (AT _ s c) U7<|C6 1 [0,1,9] d U<|G.cd (λa=>?_) λa=>?_
 .have h:¬ s.head?=some c:=λh=>by unfold cD at a;rw[aL h]at a;cases a
  refine U0 3 [4,5] U<|WE (zD U3 ?_);unfold cD;rw[aF h];exact⟨U,U⟩
 have h:s.head?=some c:=Ti λh=>by unfold cD at a;rw[aF h]at a;cases a
 have e:1<=s.length:=by cases s with
 |nil=>cases h
 |cons b s=>simp
 refine U1 3 U λR d=>Xk 1 s.length U9 (λ_=>⟨.inr ⟨_,U⟩,.inl ⟨U,U⟩,.inl ⟨U,U⟩,by omega,SH _,SH _⟩) U2<|C6 2 [4,5] d U<|WE (zD U3 ?_);unfold cD;rw[aL h];refine⟨?_,U⟩;rw[SU,List.drop_one];rfl
theorem Jl (C:Mem)(s:Str)(c:UInt8):Gives cx.P 224 [ag s,ag [c]] C (.tuple #[ag (cD c s).1,.bool (cD c s).2]):=by
 refine Wy func224 11 U3 λw0=>U0 2 [0,1] U<|U1 2 U λR a=>WD (Mf _ s c) U7<|C6 4 [4,5] a U<|WE (zD U3 ?_);exact⟨U,U⟩
structure Tabs (C:Mem):Prop where
 pow : VarC cx.P C "internal/strconv.uint64pow10" (Lib.pow10Tab.map λz => Value.int .u64 z).toArray
 db : VarC cx.P C "math/bits.deBruijn64tab" (Lib.deBruijn64tab.map λz : Nat => Value.int .u8 (z : Int)).toArray
theorem Tabs.mono {C D:Mem}(h:Tabs C)(a:C.le D):Tabs D:=⟨h.pow.mono a,h.db.mono a⟩
theorem Tabs.m_ {D:Mem}(h:Tabs C)(a:C.le D:=by exact mup):Tabs D:=Tabs.mono h a
theorem Nm (C:Mem)(a:Tabs C)(n:Int)(b:-9223372036854775808<=n)(c:n<=9223372036854775807):Gives cx.P 169 [i_ n] C (ag (Lib.itoa n)) :=
 Pg Tryz.itoa n b c C a.pow kr_
structure FV where
 b:Bool
 A:Option Addr
 n:Nat
 c:Nat
 A2:Option Addr
 n2:Nat
 c2:Nat
theorem split_fn (C:Mem)(s:Str):Gives cx.P 172 [ag s] C (.tuple #[.bool (cD 45 s).2,ag (cD 45 s).1]):=by
 refine Wy func172 17 U3 λw0=>U0 2 [0] U<|U0 2 [4] U<|U1 5 U λR c=>W8 (b:=s.headD 0) U8 (λd=>⟨by omega,(by
  cases s with
 |nil=>exact Bool.noConfusion (show false=true from d.1)
 |cons b s=>rfl)⟩) U2 ?_
 refine Wt U6<|WR U8<|Ww [4,13] c U<|G.cd (λa=>?_) λa=>?_
 .have hh:s.head?=some 45:=by
   cases s with
  |nil=>cases a
  |cons b s =>
    have h1:b=45:=by
     refine VQ.1 ?_;show b.toNat=45;simp at a;omega
    rw[h1];rfl
  have e:1<=s.length:=by cases s with
  |nil=>cases hh
  |cons b s=>simp
  refine WM [0,1,2,3] [] U kr_ λR f c=>Wt U6<|Xk 1 s.length U9 (λ_=>⟨.inr ⟨_,U⟩,.inl ⟨U,U⟩,.inl ⟨U,U⟩,by omega,SH _,SH _⟩) U2<|C6 2 [2,3] c U<|WE (zD U3 ?_);unfold cD;rw[aL hh];refine⟨?_,U⟩;rw[SU,List.drop_one];rfl
 have hh:¬ s.head?=some 45:=by
  cases s with
 |nil=>simp
 |cons b s =>
   intro h;have h1:b=45:=by simpa using h
   subst h1;simp at a
 refine U0 3 [2,3] U<|WE (zD U3 ?_);unfold cD;rw[aF hh];exact⟨U,U⟩
def jL (s:Str):Bool:=(cD 45 s).1.all dZ && !((cD 45 s).1 == []) && !((cD 45 s).1.head? == some 48 && ((cD 45 s).2 || decide (1<(cD 45 s).1.length)))
theorem Mp (C:Mem)(s:Str)(u:s.length<1000000):Gives cx.P 236 [ag s] C (.bool (jL s)):=by
 let⟨t,neg,g⟩:∃t b,cD 45 s=(t,b):=⟨_,_,rfl⟩;have D:t.length<1000000:=by
  have:t=(cD 45 s).1:=by rw[g]
  rw[this];unfold cD;split
  .simp;omega
  exact u
 have j:jL s=(t.all dZ && !(t == []) && !(t.head? == some 48 && (neg || decide (1<t.length)))):=by unfold jL;rw[g]
 refine Wy func236 43 U3 λw0=>U0 1 [0] U<|U1 1 U λR a=>WC (by have h:=split_fn C s;rw[g]at h;exact h) U7 fl_<|C6 5 [3,4] a U<|U0 1 [3,4,5] U<|G.loop (λfr E v w=>∃(i:Nat),(i<=t.length/\∀c∈t.take i,dZ c=true)/\fr=[(3,[],.bool neg),(4,[],ag t),(5,[],i_ i)]/\v=[]/\w=t.length-i) (hn_ [3,4,5] U) ⟨0,⟨SM _,by simp⟩,U,U,U⟩ (λfr F H m _ y=>?_);obtain⟨i,⟨I,k⟩,rfl,rfl,rfl⟩:=y;refine U0 4 [3,4,5,14] U<|G.cd (λl=>?_) λl=>?_
 .have n:i<t.length:=by simpa using l
  let⟨c,e⟩:∃c,t[i]?=some c:=⟨t[i],aj n⟩;refine U1 2 U λR a=>W8 U8 (λ_=>⟨by omega,e⟩) U2<|Wv 4 U<|W8 U8 (λ_=>⟨by omega,e⟩) U2<|Wt U6<|WX U8<|Ww [3,4,5,26] a U<|G.cd (λo=>?_) λo=>?_
  .have p:jL s=false:=by
    have h1:t.all dZ=false:=by
     rw[Vi];refine⟨c,aK e, ?_⟩;simp at o;unfold dZ;simp;omega
    rw[j,h1];rfl
   exact U0 1 [2] U<|Wx U2<|⟨by rw[p],U⟩
  have z:dZ c=true:=by
   simp at o;unfold dZ;simp;omega
  refine U1 1 U λR a=>Wz _ U U6<|C6 1 [3,4,5] a U<|WF (m':=t.length-(i+1)) om_ mup (hn_ [3,4,5] U) ⟨i+1,⟨by omega,λx q=>by
   rw[S9,e]at q;rcases SZ.1 q with h|h
   .exact k x h
   simp at h;subst h;exact z⟩,rfl,rfl,rfl⟩
 have n:t.length<=i:=by
  have:¬ i<t.length:=by simpa using l
  omega
 rw[Td n]at k;have r:t.all dZ=true:=S3.2 k;refine U1 5 U λR a=>W8 (b:=t.headD 0) U8 (λA=>⟨by omega,(by
  cases t with
 |nil=>exact Bool.noConfusion (show true=false from A.1)
 |cons b t=>rfl)⟩) U2 ?_
 refine Wv 7 U<|WX U8<|WR U8<|WX U8<|Ww [42] a U<|G.cd (λd=>?_) λd=>?_
 .have p:jL s=false:=by
   rw[j,r];cases t with
  |nil=>rfl
  |cons b t =>
    simp at d;rcases d with h|h
    .omega
    have f:b=48:=VQ.1 (by have h1:=h.1;show b.toNat=48;omega);subst f;rcases h.2 with h2|h2
    .simp[h2]
    have h3:t≠[]:=by rintro rfl;simp at h2
    simp[Tw.2 h3]
  exact U0 1 [2] U<|Wx U2<|⟨by rw[p],U⟩
 have B:jL s=true:=by
  rw[j,r];cases t with
 |nil=>simp at d
 |cons b t =>
   simp at d;simp;by_cases f:b=48
   .subst f;have:=d.2;simp at this;exact .inr ⟨this.1,Ty om_⟩
   exact .inl f
 exact U0 1 [2] U<|Wx U2<|⟨by rw[B],U⟩
def bU (s:Str):Bool:=jL s && decide ((cD 45 s).1.length<=200)
theorem xQ (C:Mem)(s:Str)(b:s.length<1000000):Gives cx.P 179 [ag s] C (.bool (bU s)):=by
 refine Wy func179 17 U3 λw0=>U0 1 [0] U<|U1 1 U λR a=>WD (split_fn _ s) U7<|C6 5 [0,4] a U<|U1 1 U λR a=>WD (Mp _ s b) U7<|Wv 4 U<|WR U8<|C6 1 [2] a U<|Wx U2<|⟨?_,U⟩;unfold bU;congr 2;rw[Tx];show(((cD 45 s).1.length:Nat):Int)<=200 ↔ _;omega
theorem mM (C:Mem)(s:Str)(c:UInt8):Gives cx.P 170 [ag s,.int .u8 c.toNat] C (i_ (Lib.indexByte s c)):=by
 exact Wy func170 8 U3 λw0=>U0 1 [0,1] U<|U1 2 U λR a=>WD (tM _ s c) U7<|C6 1 [4] a U<|Wx U2<|⟨U,U⟩
theorem yj (C:Mem)(s:Str)(f:s.length<1000000):Gives cx.P 109 [ag s] C (.tuple #[ag (ji 47 s).1,ag ((ji 47 s).2.getD [49])]):=by
 refine Wy func109 17 U3 λw0=>U0 2 [0] U<|U1 1 U λR b=>WD (mM _ s 47) U7<|C6 1 [0,4] b U<|U0 2 [0,4,8] U<|G.cd (λc=>?_) λc=>?_
 .have h0:¬ 0<=Lib.indexByte s 47:=by
   have:Lib.indexByte s 47<0:=by simpa using c
   omega
  rw[rT h0];refine U0 3 [2,3] U<|WE (zD U3 ?_);exact⟨U,U⟩
 have h0:0<=Lib.indexByte s 47:=by
  have:¬ Lib.indexByte s 47<0:=by simpa using c
  omega
 let⟨a,post,h1,h2,h3⟩:=vX h0;have g:s.length=a.length+1+post.length:=by rw[h2];simp;omega
 rw[h1,h3];refine WM [0,1,2,3,4,5,6,7,8] [] U kr_ λR h b=>Wv 2 U<|Xk 0 a.length U9 (λ_=>⟨.inl ⟨U,U⟩,.inr ⟨_,U⟩,.inl ⟨U,U⟩,by omega,by omega,SH _⟩) U2<|Wv 2 U<|WW (((a.length+1:Nat):Int)) U4 om_ om_ om_ U2<|Xk (a.length+1) s.length U9 (λ_=>⟨.inr ⟨_,U⟩,.inl ⟨U,U⟩,.inl ⟨U,U⟩,by omega,SH _,SH _⟩) U2<|C6 2 [2,3] b U<|WE (zD U3 ?_);refine⟨?_,U⟩;have d:(s.take a.length).drop 0=a:=by rw[h2];simp
 have e:(s.take s.length).drop (a.length+1)=post:=by rw[SU,h2];simp
 rw[d,e];rfl
theorem D2 (C:Mem)(v:Value)(l:List Nat)(d:Sl C 1 v (l.map aX)):Pur cx.P 233 [v] C λu f=>Sl f 1 u ((yW l).map aX):=by
 obtain⟨o,c0,rfl,p,_⟩:=id d;simp only[ar]at d p⊢;refine Wy func233 21 U3 λw0=>U0 1 [0] U<|G.loop (λfr f q r=>∃(k:Nat)(A:Option Addr)(c:Nat),(k<=l.length/\Sl f 1 (.slice A k c) ((l.take k).map aX)/\FH l l.length=FH l k)/\fr=[(0,[],.slice A k c)]/\q=[]/\r=k+1) (hn_ [0] U) ⟨l.length,o,c0,⟨SH _,by rw[SU];exact d,U⟩,U,U,U⟩ (λfr E F m _ s=>?_);obtain⟨k,A,c,⟨H,hs,ht⟩,rfl,rfl,rfl⟩:=s;let⟨_,I,t,w,_⟩:=id hs;have J:=mx_
 have K:k<=c:=by
  rw[ar,S2]at w;injection t with h1 h2 h3;omega
 have x:0<k->((l.take k).map aX)[((k:Int)-1).toNat]?=some (aX (gP l (k-1))):=λh=>by
  rw[show((k:Int)-1).toNat=k-1 by omega,SI,TA,aL om_,aj (by omega:k-1<l.length)];unfold gP;rw[al,aj (by omega:k-1<l.length)];rfl
 refine U1 7 U λR g=>Wz _ U U6<|D.index U10 (λi=>⟨hs,(by have h:decide ((0:Int)<(k:Int))=true:=i.1;simp at h;omega),x (by have h:decide ((0:Int)<(k:Int))=true:=i.1;simp at h;omega)⟩) fl_ U λL y=>WU U6 y U3<|Wt U6<|WR U8<|Ww [0,14] g U<|G.cd (λb=>?_) λb=>?_
 .have a:0<k/\gP l (k-1)=0:=by
   have:(0:Int)<(k:Int)/\((gP l (k-1):Nat):Int)=0:=by simpa using b
   omega
  refine U1 3 U λR g=>WW (((k-1:Nat):Int)) U4 om_ om_ om_ U2<|Xd 0 (k-1) c U12 (λ_=>⟨.inl ⟨U,U⟩,.inr ⟨_,U⟩,.inl ⟨U,U⟩,by omega,by omega,SH _⟩) U2<|C6 1 [0] g U ?_;have n:=Sl.sub hs (l:=0) (h:=k-1) (m:=c) (SM _) ap om_ (SH _);have z:(((l.take k).map aX).take (k-1)).drop 0=(l.take (k-1)).map aX:=by
   rw[TU,<- UR,VD,TJ om_]
  rw[z]at n;have B:FH l l.length=FH l (k-1):=by
   rw[ht];obtain⟨j,rfl⟩:∃j,k=j+1:=⟨k-1,by omega⟩;simp only[UX]at a⊢;rw[FH,aL];unfold gP at a;rw[al,aj om_]at a;rw[aj om_];exact congrArg some a.2
  refine WF (m':=k-1+1) om_ mup (hn_ [0] U) ⟨k-1,_,c,⟨by omega,n.mono mup,B⟩,U,U,U⟩
 have a:¬ (0<k/\gP l (k-1)=0):=λhh=>by
  have h1:(decide ((0:Int)<(k:Int)) && (((gP l (k-1):Nat):Int) == 0))=true:=by
   rw[hh.2];simp;omega
  rw[h1]at b;cases b
 refine U0 2 [2] U<|Wx U2<|⟨U, ?_⟩;have e:FH l k=k:=by
  cases k with
 |zero=>rfl
 |succ j =>
   simp only[UX]at a;rw[FH,aF];intro h;refine a ⟨by omega, ?_⟩;unfold gP;rw[al,h];rfl
 unfold yW;rw[ht,e];exact hs
theorem vW (C:Mem)(v:Value)(l:List Nat)(b:l.length=n):Jog.Fn cx.P 233 [v] C [.arr v 3 1 n (l.map aX).flatten] λu a c=>c=[]/\Sl a 1 u ((yW l).map aX) :=
 Jog.Fn.give (l.map aX) kr_ (by intro r hr;obtain⟨y,_,rfl⟩:=SL.1 hr;rfl) (by rw[ar,b]) (λa _ hs=>D2 a v l hs)
def PieC (C:Mem)(v:Value)(n:Nat):Prop:=∃l,BS l/\bx l=n/\Sl C 1 v (l.map aX)
theorem Dh (C:Mem)(s t:Value)(a b:List Nat)(d:Sl C 1 s (a.map aX))(f:Sl C 1 t (b.map aX))(n:BS a)(o:BS b):Gives cx.P 176 [s,t] C (.bool (decide (bx a<bx b))):=by
 have Q:=mx_
 obtain⟨A,c0,rfl,B,S,_⟩:=id d;obtain⟨D,E,rfl,F,T,_⟩:=id f;simp only[ar]at d f B F⊢;refine Wy func176 41 U3 λw0=>U0 1 [0,1] U<|U0 5 [0,1,10] U<|G.cd (λg=>?_) λg=>?_
 .have V:a.length≠b.length:=λe=>by
   rw[e]at g;simp at g
  refine U0 6 [4] U<|Wx U2<|⟨?_,U⟩;congr 1;rw[Tx];rcases Th a.length b.length with h|h
  .have:=Ij n.1 o h;constructor
   .intro _;exact this
   intro _;omega
  have:=Ij o.1 n om_;constructor <;> intro _ <;> omega
 have p:a.length=b.length:=by
  have:(a.length:Int)=b.length:=by simpa using g
  omega
 refine U1 2 U λR c=>Wz _ U U6<|C6 1 [0,1,5] c U<|G.loop (λfr W H I=>∃(k:Nat),(k<=a.length/\a.drop k=b.drop k)/\fr=[(0,[],.slice A a.length c0),(1,[],.slice D b.length E),(5,[],i_ ((k:Int)-1))]/\H=[]/\I=k+1) (hn_ [0,1,5] U) ⟨a.length,⟨SH _,by rw[TZ,p,TZ]⟩,U,U,U⟩ (λfr X Y m _ J=>?_);obtain⟨k,⟨Z,i⟩,rfl,rfl,rfl⟩:=J;refine U0 2 [0,1,5,20] U<|G.cd (λq=>?_) λq=>?_
 .have u:0<k:=by
   have:(0:Int)<=(k:Int)-1:=by simpa using q
   omega
  obtain⟨j,rfl⟩:∃j,k=j+1:=⟨k-1,by omega⟩;let⟨x,l⟩:∃x,a[j]?=some x:=⟨a[j],aj om_⟩;let⟨y,hy⟩:∃y,b[j]?=some y:=⟨b[j],aj om_⟩;have v:(a.map aX)[(((j+1:Nat):Int)-1).toNat]?=some (aX x):=by
   rw[show(((j+1:Nat):Int)-1).toNat=j by omega,SI,l];rfl
  have w:(b.map aX)[(((j+1:Nat):Int)-1).toNat]?=some (aX y):=by
   rw[show(((j+1:Nat):Int)-1).toNat=j by omega,SI,hy];rfl
  refine WM [0,1,2,3,4,5,6,7,8] [] U kr_ λR K c=>Wv 2 U<|WG d.m_ U10 om_ v fl_ λaa L=>Ws L U8<|Wv 2 U<|WG f.m_ U10 om_ w fl_ λab M=>Ws M U8<|C6 1 [0,1,5,31] c U<|G.cd (λr=>?_) λr=>?_
  .have z:x≠y:=λe=>by
    subst e;simp at r
   refine WM [0,1,2,3,4,5,6,7,8,9] [] U kr_ λR K c=>Wv 2 U<|WG d.m_ U10 om_ v fl_ λac N=>Ws N U8<|Wv 2 U<|WG f.m_ U10 om_ w fl_ λad O=>Ws O U8<|C6 2 [4] c U<|Wx U2<|⟨?_,U⟩;congr 1;rw[Tx];rcases Th x y with h|h
   .have:=NE n.1 p l hy h i;constructor
    .intro _;exact this
    intro _;omega
   have:=NE o.1 p.symm hy l om_ i.symm;constructor <;> intro _ <;> omega
  have z:x=y:=by
   have:(x:Int)=y:=by simpa using r
   omega
  refine U1 1 U λR c=>Wz _ U U6<|C6 1 [0,1,5] c U ?_;rw[show((j+1:Nat):Int)-1-1=(j:Int)-1 by omega];refine WF (m':=j+1) om_ mup (hn_ [0,1,5] U) ⟨j,⟨by omega,by
   rw[Tg (by omega:j<a.length),Tg (by omega:j<b.length),i,(R0.1 l).2,(R0.1 hy).2,z]⟩,rfl,rfl,rfl⟩
 have u:k=0:=by
  have:¬ (0:Int)<=(k:Int)-1:=by simpa using q
  omega
 subst u;refine U0 1 [4] U<|Wx U2<|⟨?_,U⟩;have:a=b:=by simpa using i
 subst this;simp
theorem Jj {s:Str}{a:Nat}{c:UInt8}(d:a<=i)(b:s[i]?=some c):bT (ij s a (i+1))=10*bT (ij s a i)+(c.toNat-48):=by
 have f:=(R0.1 b).1;have e:ij s a (i+1)=ij s a i++[c]:=by
  unfold ij;rw[S9,b,T7,VE,S2,TJ om_,show a-i=0 by omega];rfl
 rw[e];unfold bT;rw[List.foldl_append];rfl
theorem Md (s:Str)(a:Nat):ij s a a=[]:=by
 unfold ij;rw[List.drop_eq_nil_iff,S2];omega
theorem N1 (C:Mem)(s:Str)(g:∀c∈s,dZ c=true)(L:s.length<=100000):Pur cx.P 173 [ag s] C λu D=>PieC D u (bT s):=by
 refine Wy func173 35 U3 λw0=>U0 1 [0] U<|U0 1 [0,3] U<|U0 3 [0,3,4] U<|G.nilArr 3 1<|G.loop (λfr B d k=>∃(e j:Nat)(b:Int)(out:List Nat)(w:Value),((b=e/\e+4*j=s.length∨b<=0/\e=0)/\-4<=b/\b<=100000/\e<=s.length/\out.length=j/\j<=100000/\DigP out/\bx out=bT (s.drop e))/\fr=[(0,[],ag s),(3,[],w),(4,[],.int .i64 b)]/\d=[.arr w 3 1 j (out.map aX).flatten]/\k=e+1) (hn_ [0,3,4] U) ⟨s.length,0,(s.length:Int),[],_,⟨.inl ⟨U,U⟩,by omega,by omega,SH _,U,by omega,(λx E=>(by cases E)),by rw[TZ];rfl⟩,U,U,U⟩ (λfr M N m _ l=>?_);obtain⟨e,j,b,out,w,⟨q,O,Q,S,n,T,r,t⟩,rfl,rfl,rfl⟩:=l;refine U0 2 [0,3,4,10] U<|G.cd (λf=>?_) λf=>?_
 .obtain⟨rfl,F⟩:b=e/\e+4*j=s.length:=by
   have h0:0<b:=by simpa using f
   rcases q with h|h
   .exact h
   omega
  have v:0<e:=by
   have h0:(0:Int)<(e:Int):=by simpa using f
   omega
  refine U0 1 [0,3,4,5] U<|U1 1 U λR a=>Wz _ U U6<|D.max (((e-4:Nat):Int)) U6 om_ U2<|C6 1 [0,3,4,5,6] a U ?_;rw[show(Value.int .i64 0)=.int .i64 ((bT (ij s (e-4) (e-4)):Nat):Int) by rw[Md];rfl];refine G.loop (λfr B d k=>∃(i:Nat),(e-4<=i/\i<=e)/\fr=[(0,[],ag s),(3,[],w),(4,[],.int .i64 (e:Int)),(5,[],.int .i64 (bT (ij s (e-4) i):Nat)),(6,[],.int .i64 i)]/\d=[.arr w 3 1 j (out.map aX).flatten]/\k=e-i) (hn_ [0,3,4,5,6] U) ⟨e-4,⟨SH _,by omega⟩,U,U,U⟩ (λfr V W m _ l=>?_);obtain⟨i,⟨H,X⟩,rfl,rfl,rfl⟩:=l;refine U0 3 [0,3,4,5,6,18] U<|G.cd (λo=>?_) λo=>?_
  .have y:i<e:=by simpa using o
   let⟨c,p⟩:∃c,s[i]?=some c:=⟨s[i]'om_,aj _⟩;have z:=g c (aK p);have Y:48<=c.toNat/\c.toNat<=57:=by unfold dZ at z;simpa using z
   have Z:bT (ij s (e-4) i)<10000:=Jk g om_;refine U1 1 U λR a=>WW (((10*bT (ij s (e-4) i):Nat):Int)) U4 om_ om_ om_ U2<|Wv 2 U<|W8 U8 (λ_=>⟨by omega,p⟩) U2<|W7 (c:=((c.toNat:Nat):Int)) U8 f_ fl_<|WW (((10*bT (ij s (e-4) i)+c.toNat:Nat):Int)) U4 om_ om_ om_ U2<|WW (((10*bT (ij s (e-4) i)+(c.toNat-48):Nat):Int)) U4 om_ om_ om_ U2<|C6 1 [0,3,4,5,6] a U<|U1 1 U λR a=>Wz _ U U6<|C6 1 [0,3,4,5,6] a U ?_;rw[<- Jj H p];refine WF (m':=e-(i+1)) om_ mup (hn_ [0,3,4,5,6] U) ⟨i+1,⟨by omega,by omega⟩,U,U,U⟩
  have y:i=e:=by
   have:¬ i<e:=by simpa using o
   omega
  subst y;refine U1 2 U λR a=>WP [aX (bT (ij s (i-4) i))] U12 λaa _ _ I=>D.append (j:=0) U11 I U ay (by show(j+1)*8<=_;omega) fl_ λA=>C6 1 [0,3,4] a U<|U1 1 U λR a=>Wz _ U U6<|C6 1 [0,3,4] a U<|WK (L':=[.arr A 3 1 (j+1) ((out++[bT (ij s (i-4) i)]).map aX).flatten]) (by simp[aX])<|WF (m':=i-4+1) om_ mup (hn_ [0,3,4] U) ⟨i-4,j+1,(i:Int)-4,out++[bT (ij s (i-4) i)],A,⟨by
   rcases Th i 4 with h|h
   .exact .inr ⟨by omega,by omega⟩
   exact .inl ⟨by omega,by omega⟩,by omega,by omega,by omega,by simp[n],by omega,r.snoc (Jk g om_),GA F n om_ t⟩,U,U,U⟩
 have v:e=0:=by
  have h0:¬ 0<b:=by simpa using f
  rcases q with h|h
  .omega
  exact h.2
 refine WQ [(1,3)] U λR a=>Wt U6<|D.call (vW _ _ out n) U (.inr dc_) U6 (SQ _) fl_ (λab _ ac _ J=>?_);obtain⟨rfl,K⟩:=J;refine C6 1 [2] a U<|Wx U2<|⟨U,yW out,na r, ?_,K⟩;rw[iR,t,v,TU]
theorem Iu (C:Mem)(a:Tabs C)(n:Nat)(h:n<=1000000000000000000):Gives cx.P 169 [i_ n] C (ag (bi n)):=by
 have h1:=Nm C a (n:Int) om_ om_
 rwa [LF]at h1
theorem ga (C:Mem)(a:Tabs C)(z:Int)(b:-9223372036854775808<=z)(c:z<=9223372036854775807):Gives cx.P 169 [i_ z] C (ag (txt z)):=by
 have h:=Nm C a z b c
 rwa [LD]at h
theorem Ph (C:Mem)(a:Tabs C)(x:Nat)(b:x<10000):Gives cx.P 169 [i_ (10000+x:Nat)] C (ag (49::nC 4 x)):=by
 have h:=Iu C a (10000+x) om_
 rwa [tenK b]at h
theorem dV (h:n<10 ^ k)(a:0<k):(bi n).length<=k:=by
 apply Ti;intro b;have h1:=pE (bB n).1 om_;rw[(bB n).2]at h1;have h2:10 ^ k<=10 ^ ((bi n).length-1):=Tb dc_ om_;omega
theorem vV (h:DigP l):(bi (bx l)).length<=4*l.length+1:=by
 refine dV ?_ om_;have h1:=nF h;rw[<- M8]at h1;have h2:10 ^ (4*l.length)<=10 ^ (4*l.length+1):=Tb dc_ om_;omega
theorem jf (h:k<l.length):(l.map aX)[k]?=some (aX (gP l k))/\l[k]?=some (gP l k):=by
 have e:l[k]?=some (gP l k):=by
  unfold gP;rw[al,aj h];rfl
 exact⟨by rw[SI,e];rfl,e⟩
theorem IK (C:Mem)(e:Tabs C)(v:Value)(l:List Nat)(b:Sl C 1 v (l.map aX))(f:BS l)(M:l.length<=100000):Gives cx.P 234 [v] C (ag (bi (bx l))):=by
 obtain⟨r,c0,rfl,_⟩:=id b;simp only[ar]at b⊢;have hd:=f.1;refine Wy func234 34 U3 λw0=>U0 1 [0] U<|U0 3 [0,8] U<|G.cd (λc=>?_) λc=>?_
 .have h0:l=[]:=by
   have:(l.length:Int)=0:=by simpa using c
   exact Ty om_
  refine U0 1 [2] U<|Wx U2<|⟨?_,U⟩;rw[h0,show bi (bx [])=[48] by rw[bi];rfl];rfl
 have h0:0<l.length:=by
  have:¬ (l.length:Int)=0:=by simpa using c
  omega
 have s:(l.map aX)[((l.length:Int)-1).toNat]?=some (aX (gP l (l.length-1))):=by rw[show((l.length:Int)-1).toNat=l.length-1 by omega];exact(jf om_).1
 have t:gP l (l.length-1)<10000:=IN hd _;have u:bx (l.drop (l.length-1))=gP l (l.length-1):=by
  rw[Tg om_,VI om_];have h1:=(jf (l:=l) (k:=l.length-1) om_).2;rw[(R0.1 h1).2];simp[bx]
 have w:0<gP l (l.length-1):=by
  have h1:=(jf (l:=l) (k:=l.length-1) om_).2;have h2:=f.2;rw[UY,h1]at h2;rcases TY (gP l (l.length-1)) with h|h
  .rw[h]at h2;exact absurd rfl h2
  exact h
 refine U1 3 U λR a=>Wz _ U U6<|WG b.m_ U10 om_ s fl_ λN x=>Ws x U8<|WC (Iu _ e.m_ (gP l (l.length-1)) om_) U7 fl_<|C6 1 [0,3] a U<|U1 2 U λR a=>Wz _ U U6<|C6 1 [0,3,4] a U ?_;rw[show(l.length:Int)-2=((l.length-1:Nat):Int)-1 by omega];refine G.loop (λfr O y z=>∃(k:Nat)(o:Str),(k<l.length/\wK o/\bT o=bx (l.drop k)/\0<bT o/\o.length<=25+4*(l.length-k))/\fr=[(0,[],.slice r l.length c0),(3,[],ag o),(4,[],i_ ((k:Int)-1))]/\y=[]/\z=k+1) (hn_ [0,3,4] U) ⟨l.length-1,bi (gP l (l.length-1)),⟨by omega,(bB _).1,by rw[(bB _).2,u],by rw[(bB _).2];exact w,by
  have h2:=dV (k:=4) (n:=gP l (l.length-1)) t om_;omega⟩,rfl,rfl,rfl⟩ (λfr Q S m _ A=>?_)
 obtain⟨k,o,⟨T,g,i,B,V⟩,rfl,rfl,rfl⟩:=A;refine U0 2 [0,3,4,20] U<|G.cd (λd=>?_) λd=>?_
 .have p:0<k:=by
   have:(0:Int)<=(k:Int)-1:=by simpa using d
   omega
  obtain⟨j,rfl⟩:∃j,k=j+1:=⟨k-1,by omega⟩;rw[show((j+1:Nat):Int)-1=(j:Int) by omega];let⟨D,E⟩:=jf (l:=l) (k:=j) om_;have q:=IN hd j;have F:gP l j<10000:=q;have H:=(li 4 (gP l j) q).1;refine U1 2 U λR a=>WG b.m_ U10 om_ D fl_ λW I=>Ws I U8<|WW (((10000+gP l j:Nat):Int)) U4 om_ om_ om_ U2<|WD (Ph _ e.m_ _ F) U7<|C6 1 [0,3,4,5] a U<|U1 2 U λR a=>Xk 1 (49::nC 4 (gP l j)).length U9 (λ_=>⟨.inr ⟨_,U⟩,.inl ⟨U,U⟩,.inl ⟨U,U⟩,by simp,SH _,SH _⟩) U2<|Xn U6 (λ_=>(by simp only[UI,S2,S5];omega)) U2<|C6 1 [0,3,4] a U<|U1 1 U λR a=>Wz _ U U6<|C6 1 [0,3,4] a U ?_;rw[SU,List.drop_one,List.tail_cons];let⟨J,K,L⟩:=IJ hd E g i B;refine WF (m':=j+1) om_ mup (hn_ [0,3,4] U) ⟨j,o++nC 4 (gP l j),⟨by omega,J,K,L,by rw[SP,H];omega⟩,U,U,U⟩
 have p:k=0:=by
  have:¬ (0:Int)<=(k:Int)-1:=by simpa using d
  omega
 subst p;refine U0 2 [2] U<|Wx U2<|⟨?_,U⟩;rw[pF g,i,TU]
def sgZ (m:Bool)(n:Nat):Int:=if m then -(n:Int) else n
theorem Ck (m:Bool)(n:Nat)(h:m=true->0<n):txt (sgZ m n)=if m then 45::bi n else bi n:=by
 unfold txt sgZ;cases m with
|false=>simp
|true=>have:=h rfl;simp;omega
theorem nW (C:Mem)(e:Tabs C)(m:Bool)(v:Value)(l:List Nat)(i:Sl C 1 v (l.map aX))(j:DigP l)(k:l.length<=100000):Gives cx.P 174 [.bool m,v] C (ag (txt (sgZ m (bx l)))):=by
 have c:=na j;have f:(yW l).length<=100000:=by unfold yW;rw[S2];omega
 have g:(yW l).length=0 ↔ bx l=0:=by rw[<- iR,Ed c,VX]
 refine Wy func174 18 U3 λw0=>U0 1 [0,1] U<|U1 1 U λR a=>WY (D2 _ _ l i) U7 (λn _ _ d=>?_);obtain⟨o,p,rfl,_⟩:=id d;rw[ar]at d;rw[ar];refine C6 1 [0,1] a U<|U1 5 U λR a=>WR U8<|Ww [1,12] a U<|G.cd (λb=>?_) λb=>?_
 .have hm:m=true/\0<bx l:=by
   simp at b;refine⟨b.1, ?_⟩;have h2:=b.2;rcases TY (bx l) with h|h
   .have:=g.2 h;omega
   exact h
  refine U1 1 U λR a=>WD (IK _ e.m_ _ (yW l) d.m_ c f) U7<|Xn U6 (λ_=>(by have:=vV c.1;simp only[S5,Tp];omega)) U2<|C6 1 [4] a U<|Wx U2<|⟨?_,U⟩;rw[Ck m _ (λ_=>hm.2),aL hm.1,iR];rfl
 have hm:m=true->bx l=0:=λh=>by
  rcases TY (yW l).length with h0|h0
  .exact g.1 h0
  exfalso;have h1:decide ((0:Int)<((yW l).length:Nat))=true:=S4 om_;rw[h,h1]at b;cases b
 refine U1 1 U λR a=>WD (IK _ e.m_ _ (yW l) d.m_ c f) U7<|C6 1 [4] a U<|Wx U2<|⟨?_,U⟩;rw[iR];congr 1;cases m with
|false=>rw[Ck false _ (λh=>by cases h)];rfl
|true=>rw[hm rfl];rfl
end Go.Proofs.YtfjcldheldflbaaGreatDoor
