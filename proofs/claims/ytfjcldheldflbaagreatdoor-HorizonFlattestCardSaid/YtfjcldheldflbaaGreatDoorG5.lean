import Derived.Test.YtfjcldheldflbaaGreatDoorG4
import Derived.Test.YtfjcldheldflbaaGreatDoorShelf
import Derived.Shelf.SlSortCmp.NoneTotal
import Derived.Shelf.Slices.In.SortNone
import Derived.Shelf.Strings.Split
import Derived.Test.YtfjcldheldflbaaGreatDoorProg
import Derived.RangeFuncBox
set_option maxHeartbeats 4000000
namespace Go.Jog
open Go Go.Proofs Go.Shelf
section
variable {α:Type} [Inhabited α]
theorem tN (a:α->List Value)(k:Nat)(c:∀x,(a x).length=k)(d:Array α):(Sort.flatK a k d).toList=(d.toList.map a).flatten:=by
 have hr:∀r∈d.toList.map a,r.length=k:=λr hr=>by
  obtain⟨x,_,rfl⟩:=Sn.1 hr;exact c x
 have g:=aP hr;apply List.ext_getElem?;intro q;by_cases b:q<d.size*k
 .have i:0<k:=by
   rcases Tx k with h|h
   .rw[h]at b;simp at b
   exact h
  have e:q / k<d.size:=Vc (by rw[S3];exact b);have h1:(d.toList.map a)[q / k]?=some (a d[q / k]!):=by
   rw[Sh,Array.getElem?_toList,Array.getElem?_eq_getElem e];simp[e]
  have f:q % k<(a d[q / k]!).length:=by rw[c];exact S5 _ i
  have h2:=getElem?_flatten_rows hr h1 (ah f);have j:q / k*k+q % k=q:=by rw[S3];exact UU q k
  rw[j]at h2;rw[h2];have h3:=Sort.get_flatK a k d q b;rw[Array.getElem?_toList,Array.getElem?_eq_getElem (by simpa using b)];rw[getElem!_pos (Sort.flatK a k d) q (by simpa using b)]at h3;rw[h3,getElem!_pos (a d[q / k]!) (q % k) f]
 rw[Sq am,Sq (by rw[g];simp;omega)]
theorem Lv {a:Type}[Inhabited a](c:a->Value)(w:World)(m b:Nat)(F:Array a)(h:Array Obj){d:Array Value}{e:TypeId}{f:Nat × Nat}(g:w.heap[b]?=some (.cells d e f)) :
  (Sort.grow (Sort.putRow c (Sort.ahead w m) b 0 F) h).heap[b]?=some (.cells (Sort.putCells c 0 F d) e f):=by
 have i:=cZ g;rw[Sort.heap_grow_old _ _ (by simpa [Sort.ahead] using i)];simp[Sort.putRow,Sort.mapBlock,Sort.ahead,UY,g,Sort.onCells]
theorem kT {a:Type}[Inhabited a](c:a->Value)(w:World)(m b:Nat)(F:Array a)(d:Array Obj){q:Nat}(e:q<w.heap.size)(f:q≠b) :
  (Sort.grow (Sort.putRow c (Sort.ahead w m) b 0 F) d).heap[q]?=w.heap[q]?:=by
 rw[Sort.heap_grow_old _ _ (by simpa [Sort.ahead] using e)];simp[Sort.putRow,Sort.mapBlock,Sort.ahead,UY,Ne.symm f]
theorem uS {b:Type}[Inhabited b](d:b->Value)(F:Array b)(c:Array Value)(h:F.size<=c.size):(Sort.putCells d 0 F c).toList.take F.size=F.toList.map d:=by
 apply List.ext_getElem?;intro q;rw[Tb];split
 .rename_i a;simp only[Sort.putCells,Array.getElem?_toList,Array.getElem?_mapIdx,Sh,Sm,Tw,true_and,a,Ul,Vl];rw[Array.getElem?_eq_getElem (by omega:q<c.size),Array.getElem?_eq_getElem a];simp[a]
 rename_i a;rw[Sq am]
theorem St.sorted {c:Type}[Inhabited c](b:c->Value){C:Mem}{w:World}{e s n g a m:Nat}{d:List Value}(j:Sep C [.arr (s_ g n a) e s n d] w)(F:Array c)(f:F.size=n*s)(i:Array Obj) :
  St w C [.arr (s_ g n a) e s n d] C [.arr (s_ g n a) e s n (F.toList.map b)] (Sort.grow (Sort.putRow b (Sort.ahead w m) g 0 F) i):=by
 have l:w.ownsRow 0 e s (s_ g n a) n d:=j.e _ (Sj ..);obtain⟨_,h1,h2,o,p,k,_⟩:=cM l;have r:n*s<=a*s:=SY _ h1;refine St.turn (St.start j) ⟨by simpa using f,.inr ⟨g,a,_,U,Sm _,Lv b w m g F i p,h1,h2,by simpa [Sort.putCells] using k, ?_⟩⟩ ⟨U,U,U,by simp[Sort.ahead],λq t u=>kT b w m g F i t (λh=>u (by simp[Value.ownBlock,h]))⟩ ?_ (.inl U)
 .rw[<- f];exact uS b F o (by rw[f,k];exact r)
 show w.drawn<=w.drawn+m;omega
theorem Fh {w a:World}{C c:Mem}(h:St w C [] c [] a):∃q os,a=Sort.grow (w.drewN q) os:=by
 refine⟨a.drawn-w.drawn,(a.heap.toList.drop w.heap.size).toArray, ?_⟩;have h1:a.heap=w.heap++(a.heap.toList.drop w.heap.size).toArray:=by
  apply Array.ext_getElem?;intro k;rw[Array.getElem?_append];split
  .rename_i b;exact h.ev.block k b (λ⟨x,d,_⟩=>by cases d)
  rename_i b;simp only[TG,List.getElem?_drop,Array.getElem?_toList];congr 1;omega
 have h2:w.drawn+(a.drawn-w.drawn)=a.drawn:=by have:=h.ev.drawn;omega
 obtain⟨hp,i,j,l,op⟩:=a;have e:=h.ev.os;have f:=h.ev.tape;have g:=h.ev.output;simp only at h1 h2 e f g;simp only[Sort.grow,World.drewN];congr 1
 .exact h2.symm
end
section
variable {P:Program} {ρ:Ren}
theorem OF {a:Type}[Inhabited a]{l:List a}{d:Array a}(h:Sort.PermIn 0 l.toArray.size l.toArray d):d.toList.Perm l:=by
 obtain⟨h1,_,h3⟩:=h;have b:d.extract 0 l.toArray.size=d:=by apply Ua;rw[<- h1];simp
 have c:l.toArray.extract 0 l.toArray.size=l.toArray:=by apply Ua;simp
 rw[b,c]at h3;simpa using h3
theorem GC {a:Type}[Inhabited a]{b:a->a->Bool}{d:Array a}(h:Sort.SortedIn b 0 d.size d):d.toList.Pairwise λx y=>b y x=false:=by
 rw[List.pairwise_iff_getElem];intro i j e c f;have:=h i j (Sm _) f (by simpa using c);rw[getElem!_pos d j (by simpa using c),getElem!_pos d i (by simpa using e)]at this;simpa using this
theorem zN {r:Type}[Inhabited r](K:SlLaysF0.n6 P ρ){T:Tab}(L:oR P T=true){d:TI}(M:T.get (ρ.t 24)=some d)(X:d.agg=true)(a:r->List Value)(A:∀x,(a x).length=d.size)(i:∀x,(a x).all kR=true)
  (s:r->r->Int) (Y:Sort.SWO (ltOf s)) (g:FuncId) (p:List Value) (C:Mem) (Z:∀x y B,C.le B->Gives P g ([.agg ⟨a x⟩,.agg ⟨a y⟩]++p) B (i_ (s x y))) (v:Value) (e:TypeId) (l:List r) (aa:l.length<4611686018427387904)
  (ab:Enters P (ρ.f 6)=true) (ac:Enters P g=true) :
  Fn P (ρ.f 6) [v,.func (.func g) #[] ⟨p⟩] C [.arr v e d.size l.length (l.map a).flatten] λu _ak N=>∃D:List r,u=.tuple #[]/\N=[.arr v e d.size l.length (D.map a).flatten]/\D.Perm l/\D.Pairwise (λx y=>ltOf s y x=false):=by
 refine⟨ab,λw z=>?_⟩;have ad:w.ownsRow 0 e d.size v l.length (l.map a).flatten:=z.e _ (Sj ..);rcases ad.2 with⟨rfl,hz⟩|⟨b,O,E,rfl,_,F,h2,h3,h4,h5⟩
 .have hl:l=[]:=S9 hz;subst hl;refine(AnyF.slices_SortFunc_none K none 0 (.func (.func g) #[] ⟨p⟩) w).mono λQ w' ⟨i,h2⟩=>?_;subst h2;exact⟨_,C,_,i,St.start z,[],U,U,Sp _,List.Pairwise.nil⟩
 have ae:b<w.heap.size:=cZ F;have af:(Sort.flatK a d.size l.toArray).toList=(l.map a).flatten:=by rw[tN a _ A]
 have al:l.length*d.size<=O*d.size:=SY _ h2;have hH:Sort.HoldsK a d.size w b 0 l.toArray:=by
  intro j G;simp only[Sort.size_flatK,T5]at G;have R:j<E.size:=by omega
  have hc:(Sort.flatK a d.size l.toArray)[j]?=some E[j]:=by
   rw[<- Array.getElem?_toList,af,<- h5,Tb,aK G,Array.getElem?_toList,Array.getElem?_eq_getElem R]
  have hg:=getElem!_pos (Sort.flatK a d.size l.toArray) j (by simpa using G);have ag:=(Uk.1 hc).2;refine⟨?_, ?_⟩
  .rw[Tw,cell_of_row w b j E e (0,0) F,hg,ag];exact Array.getElem?_eq_getElem R
  simp[World.frozen?,F]
 have ah:CmpLays P g ⟨p⟩ a d.size s b 0 l.toArray.size w:=by
  intro m os dk am x y;have hW:Sep C [] (sortWorldK a d.size w b 0 m dk os):=⟨λq o H=>by
    have S:=z.c q o H;unfold sortWorldK Sort.putRowK;rw[kT id w m b _ os (cZ S) (λh=>by
     subst h;have:=z.n q ⟨_,Sj ..,rfl⟩;rw[this]at H;cases H)]
    exact S,λx I=>(by cases I),List.Pairwise.nil,λk ⟨x,I,_⟩=>(by cases I)⟩
  have ea:(#[Value.agg (a x).toArray,Value.agg (a y).toArray]++(⟨p⟩:Array Value))=([Value.agg ⟨a x⟩,Value.agg ⟨a y⟩]++p).toArray:=by apply Ua;simp
  rw[ea];refine((Z x y C l_).2 _ hW).mono λQ w' ⟨u,B,N,i,h2,h3,h4⟩=>?_;subst h3;subst h4;exact⟨i,Fh h2⟩
 have ai:=AnyQ.slices_SortFunc K d.size (λw=>by have:=Ij L M w;rwa [X]at this) (λw=>eC L M w) a A (λx u hu=>fU (SA.1 (i x) u hu)) s Y g ⟨p⟩ b 0 O l.toArray w (λargs w=>gv ac args w) ah hH ae (by simpa using aa);refine ai.mono λQ w' ⟨i,J,m,os,hp,hs,aj⟩=>?_;subst aj;have V:J.size=l.length:=by simpa using hp.1
 have W:=St.sorted (m:=m) id z (Sort.flatK a d.size J) (by simp[V]) os;simp only[List.map_id,tN a _ A]at W;exact⟨_,C,_,i,W,J.toList,U,U,OF hp,GC (by rw[V];simpa using hs)⟩
theorem yx (c:UInt8):∀s:List UInt8,(c ∉ s/\Lib.index s [c]=-1)∨∃a post,s=a++c::post/\c ∉ a/\Lib.index s [c]=a.length
|[]=>.inl ⟨by simp,by simp[Lib.index]⟩
|b::s=>by
  by_cases d:b=c
  .subst d;exact .inr ⟨[],s,U,by simp,by simp[Lib.index]⟩
  have hp:([c]:List UInt8).isPrefixOf (b::s)=false:=by simp[List.isPrefixOf,Ne.symm d]
  have e:Lib.index (b::s) [c]=if Lib.index s [c] == -1 then -1 else Lib.index s [c]+1:=by rw[Lib.index,hp];simp
  rcases yx c s with⟨h1,h2⟩|⟨a,post,h1,h2,h3⟩
  .exact .inl ⟨by simp[Ne.symm d,h1],by rw[e,h2];rfl⟩
  refine .inr ⟨b::a,post,by simp[h1],by simp[Ne.symm d,h2], ?_⟩;rw[e,h3];have:¬ ((a.length:Int) == -1)=true:=by simp
  rw[aF this];simp
theorem sU (c:UInt8):∀(k:Nat)(s:List UInt8),s.count c=k->Lib.splitK [c] 0 k s=cV c s
|0,s,h=>by
  rw[ou c s (List.count_eq_zero.1 h)];rfl
|k+1,s,h=>by
  rcases yx c s with⟨h1,_⟩|⟨a,post,h1,h2,h3⟩
  .rw[List.count_eq_zero.2 h1]at h;omega
  have b:post.count c=k:=by
   rw[h1,List.count_append,List.count_eq_zero.2 h2,List.count_cons_self]at h;omega
  unfold Lib.splitK;rw[h3];have d:¬ ((a.length:Int) == -1)=true:=by simp
  rw[aF d];subst h1;have e:((a.length:Int).toNat+0)=a.length:=by simp
  have f:(a++c::post).drop ((a.length:Int).toNat+[c].length)=post:=by simp
  rw[e,f,sU c k post b,pZ c a post h2];simp
theorem split_fn (k:Lays.n146 P ρ)(l:(P.info? (ρ.t 9)).map (λi=>(i.zero,i.size,i.bytes))=some (some (.string ByteArray.empty),1,16))(C:Mem)(s:List UInt8)(c:UInt8){m:Int}(n:s.length<4294967281)(o:CCell C ⟨ρ.g 1,0,none⟩ (i_ m))(q:Enters P (ρ.f 146)=true) :
  Pur P (ρ.f 146) [ae s,ae [c]] C λv r=>Sl r 1 v ((cV c s).map λp=>[ae p]):=by
 refine⟨q,λw a=>?_⟩;have h:=Any.strings_Split k l ⟨s.toArray⟩ ⟨#[c]⟩ m w (by simpa [ByteArray.size] using n) (o.cell a) (by simp[ByteArray.size]);have x:Lib.countB ⟨s.toArray⟩ ⟨#[c]⟩=s.count c:=by
  show Lib.count s [c]=_;exact Lib.count_one c s
 have y:(Lib.splitB ⟨#[c]⟩ 0 (s.count c) ⟨s.toArray⟩).map (λb=>b.data.toList)=cV c s:=by
  rw[Lib.splitB_data];exact sU c _ s U
 have z:(Lib.splitB ⟨#[c]⟩ 0 (s.count c) ⟨s.toArray⟩).map Value.string=(cV c s).map ae:=by
  rw[<- y,Th];apply List.map_congr_left;intro b _;obtain⟨⟨b⟩⟩:=b;rfl
 rw[x,z]at h;refine h.mono λD w' ⟨h1,A⟩=>?_;subst A;have h2:=(St.alloc (St.start a) (.cells ((cV c s).map ae).toArray (ρ.t 9))).freeze;refine⟨_,_,_,h1,h2.2,U, ?_⟩;have d:=kP c s;have E:s.count c<=s.length:=List.count_le_length;have B:=Sl.ofBlock (C:=C.set w.heap.size (.cells ((cV c s).map ae).toArray (ρ.t 9))) (c:=s.count c+1) (Mem.set_self C w.heap.size _) (rows:=(cV c s).map λp=>[ae p]) (s:=1) al (λj u e=>by rw[eE]at e;simpa using e) (by simp[d]) y_;simpa [d] using B
end
end Go.Jog
namespace Go.Jog
def M2:List Nat->List Nat->Int
|[],[]=>0
|[],_::_=>-1
|_::_,[]=>1
|x::a,y::b=>if x<y then -1 else if y<x then 1 else M2 a b
end Go.Jog
namespace Go.Jog
open Go
theorem XF {P:Program}{f:FuncId}{i:List Value}{C:Mem}{j:Value->Mem->List Ent->Prop}{Q:Value->Mem->Prop}(h:Fn P f i C [] j)
  (k:∀v a c,j v a c->(c=[]/\Q v a)∨∃u t s rows,c=[.arr u t s rows.length rows.flatten]/\(∀r∈rows,r.length=s)/\∀D,a.le D->Sl D s u rows->Q v D):Pur P f i C Q:=by
 refine⟨h.1,λw l=>(h.2 w l).mono ?_⟩;rintro e w' ⟨v,a,c,rfl,d,hp⟩;rcases k _ _ _ hp with⟨rfl,g⟩|⟨u,t,s,rows,rfl,hr,g⟩
 .exact⟨v,a,[],U,d,U,g⟩
 obtain⟨D,h1,h2,h3⟩:=St.freezeArr d hr rfl;exact⟨v,D,[],U,⟨h3.sep,h3.ev,λb o m=>h1 b o (d.c0 b o m),h3.cn,h3.ln⟩,U,g D h1 h2⟩
end Go.Jog
namespace Go.Jog
open Go
theorem Xy {F:Fx}{d:Fr}{C:Mem}{L:List Ent}{p r b t:Nat}{k:List Value}{n:TypeId}{o:Nat × Nat}{f:TI}{x v:Value}(q:Ent.obj b (.cells ⟨k⟩ n o)∈L)(s:F.fn.results=#[.cell r t,.tmp p])
  (c:ev d [] (.tmp p)=some x) (u:ev d [] (.tmp r)=some (p_ b))
  (y:F.cx.T.get t=some f) (z:cS f (k.take f.size)=some v) (h:F.post (.tuple #[v,x]) C []) (l:F.ends:=by exact⟨λ_ _ _ h=>h,rfl⟩):G F [] .ret d C L:=λ_ a w g m=>by
 refine l.kq ?_;have i:=bO g (λp c=>by cases c) c;have j:=bO g (λp c=>by cases c) u;simp only[Act.eval]at i j;refine bodyPost_ret (v:=.tuple #[v,x]) ?_ (g.defers.trans l.2) ⟨_,C,[],U,St.dropAll m,h⟩;have A:=fC (F:=F) y (m.sep.e _ q) z;simp only[Tl]at i j;simp[results,s,i,j,asAddr,A]
end Go.Jog
namespace Go.Jog
structure Bq (A:List Arc3)(to n:Nat)(d:List Int)(qs:List Nat):Prop where
 rel:PM A to n d
 que:∀q∈qs,q<n/\0<=dAt d q
 srt:qs.Pairwise λx y=>dAt d x<=dAt d y
 top:∀q∈qs,∀v,dAt d v<=dAt d q+1
 tight:∀a∈A,a.up ∉ qs->PK d a
structure Bi (A:List Arc3)(to n:Nat)(d:List Int)(h:Nat)(qs:List Nat)(T:Arc3->Prop):Prop where
 rel:PM A to n d
 hh:h<n/\0<=dAt d h
 que:∀q∈qs,q<n/\0<=dAt d q
 srt:qs.Pairwise λx y=>dAt d x<=dAt d y
 topq:∀q∈qs,dAt d h<=dAt d q
 top:∀v,dAt d v<=dAt d h+1
 tight:∀a∈A,a.up ∉ qs->a.up≠h->PK d a
 tightT:∀a∈A,a.up=h->T a->PK d a
end Go.Jog
namespace Go.Proofs.YtfjcldheldflbaaGreatDoor
open Go.Proofs.Tryz
open Go Go.Jog
variable {C:Mem}{i k:Nat}{l:List Nat}{m n:Nat}{u v:Value}
def tab:Tab:=[(2,⟨.int .i64,1,8,[.int .i64],false⟩),
 (3,⟨.int .i64,1,8,[.int .i64],false⟩),
 (4,⟨.bool,1,1,[.bool],false⟩),
 (5,⟨.int .u8,1,1,[.int .u8],false⟩),
 (9,⟨.str,1,16,[.str],false⟩),
 (12,⟨.int .u64,1,8,[.int .u64],false⟩),
 (21,⟨.int .i32,1,4,[.int .i32],false⟩),
 (22,⟨.int .i8,1,1,[.int .i8],false⟩),
 (23,⟨.arr 2 22,2,2,[.int .i8,.int .i8],true⟩),
 (25,⟨.struct [(5,0),(23,1),(4,3)],4,4,[.int .u8,.int .i8,.int .i8,.bool],true⟩),
 (26,⟨.arr 6 22,6,6,[.int .i8,.int .i8,.int .i8,.int .i8,.int .i8,.int .i8],true⟩),
 (28,⟨.struct [(26,0),(4,6)],7,7,[.int .i8,.int .i8,.int .i8,.int .i8,.int .i8,.int .i8,.bool],true⟩),
 (29,⟨.slice 138,1,24,[.slice],false⟩),
 (31,⟨.struct [(25,0),(28,4),(29,11)],12,40,[.int .u8,.int .i8,.int .i8,.bool,.int .i8,.int .i8,.int .i8,.int .i8,.int .i8,.int .i8,.bool,.slice],true⟩),
 (32,⟨.str,1,16,[.str],false⟩),
 (34,⟨.struct [(32,0),(32,1)],2,32,[.str,.str],true⟩),
 (36,⟨.slice 34,1,24,[.slice],false⟩),
 (37,⟨.slice 65,1,24,[.slice],false⟩),
 (39,⟨.struct [(36,0),(37,1)],2,48,[.slice,.slice],true⟩),
 (40,⟨.slice 32,1,24,[.slice],false⟩),
 (41,⟨.slice 32,1,24,[.slice],false⟩),
 (42,⟨.slice 121,1,24,[.slice],false⟩),
 (43,⟨.slice 126,1,24,[.slice],false⟩),
 (45,⟨.struct [(39,0),(41,2),(42,3),(43,4)],5,120,[.slice,.slice,.slice,.slice,.slice],true⟩),
 (47,⟨.slice 140,1,24,[.slice],false⟩),
 (50,⟨.int .i64,1,8,[.int .i64],false⟩),
 (57,⟨.slice 3,1,24,[.slice],false⟩),
 (60,⟨.arr 3 32,3,48,[.str,.str,.str],true⟩),
 (61,⟨.arr 3 32,3,48,[.str,.str,.str],true⟩),
 (64,⟨.arr 3 3,3,24,[.int .i64,.int .i64,.int .i64],true⟩),
 (65,⟨.arr 3 3,3,24,[.int .i64,.int .i64,.int .i64],true⟩),
 (68,⟨.struct [(40,0)],1,24,[.slice],true⟩),
 (70,⟨.struct [(3,0),(32,1),(40,2),(68,3),(40,4)],5,96,[.int .i64,.str,.slice,.slice,.slice],true⟩),
 (74,⟨.struct [(3,0),(47,1),(40,2)],3,56,[.int .i64,.slice,.slice],true⟩),
 (82,⟨.slice 41,1,24,[.slice],false⟩),
 (90,⟨.arr 2 28,14,14,[.int .i8,.int .i8,.int .i8,.int .i8,.int .i8,.int .i8,.bool,.int .i8,.int .i8,.int .i8,.int .i8,.int .i8,.int .i8,.bool],true⟩),
 (104,⟨.struct [(82,0),(32,1),(68,2)],3,64,[.slice,.str,.slice],true⟩),
 (113,⟨.struct [(5,0),(5,1),(5,2)],3,3,[.int .u8,.int .u8,.int .u8],true⟩),
 (116,⟨.func,1,8,[.func],false⟩),
 (121,⟨.struct [(9,0),(32,1),(32,2)],3,48,[.str,.str,.str],true⟩),
 (124,⟨.struct [(32,0),(32,1),(32,2)],3,48,[.str,.str,.str],true⟩),
 (126,⟨.struct [(3,0),(9,1),(34,2),(32,4),(9,5),(9,6),(124,7)],10,152,[.int .i64,.str,.str,.str,.str,.str,.str,.str,.str,.str],true⟩),
 (127,⟨.slice 142,1,24,[.slice],false⟩),
 (135,⟨.arr 2 5,2,2,[.int .u8,.int .u8],true⟩),
 (136,⟨.arr 3 22,3,3,[.int .i8,.int .i8,.int .i8],true⟩),
 (138,⟨.struct [(5,0),(23,1),(135,3),(5,5),(136,6)],9,9,[.int .u8,.int .i8,.int .i8,.int .u8,.int .u8,.int .u8,.int .i8,.int .i8,.int .i8],true⟩),
 (140,⟨.struct [(40,0),(32,1)],2,40,[.slice,.str],true⟩),
 (142,⟨.struct [(3,0),(140,1)],3,48,[.int .i64,.slice,.str],true⟩),
 (144,⟨.arr 2 32,2,32,[.str,.str],true⟩),
 (152,⟨.arr 3 34,6,96,[.str,.str,.str,.str,.str,.str],true⟩),
 (160,⟨.slice 163,1,24,[.slice],false⟩),
 (163,⟨.arr 2 3,2,16,[.int .i64,.int .i64],true⟩),
 (174,⟨.func,1,8,[.func],false⟩),
 (181,⟨.slice 9,1,24,[.slice],false⟩),
 (188,⟨.str,1,16,[.str],false⟩),
 (196,⟨.struct [(3,0),(3,1)],2,16,[.int .i64,.int .i64],true⟩),
 (203,⟨.slice 5,1,24,[.slice],false⟩),
 (206,⟨.arr 3 9,3,48,[.str,.str,.str],true⟩),
 (211,⟨.int .u64,1,8,[.int .u64],false⟩),
 (214,⟨.map 34 4,1,8,[.map],false⟩),
 (221,⟨.ptr 231,1,8,[.ptr],false⟩),
 (228,⟨.struct [(32,0),(40,1)],2,40,[.str,.slice],true⟩),
 (229,⟨.slice 228,1,24,[.slice],false⟩),
 (231,⟨.struct [(3,0),(57,1),(229,2),(57,3),(228,4)],6,120,[.int .i64,.slice,.slice,.slice,.str,.slice],true⟩),
 (234,⟨.map 163 3,1,8,[.map],false⟩),
 (271,⟨.slice 285,1,24,[.slice],false⟩),
 (273,⟨.struct [(4,0),(271,1)],2,32,[.bool,.slice],true⟩),
 (278,⟨.struct [(34,0),(32,2)],3,48,[.str,.str,.str],true⟩),
 (279,⟨.arr 3 278,9,144,[.str,.str,.str,.str,.str,.str,.str,.str,.str],true⟩),
 (281,⟨.func,1,8,[.func],false⟩),
 (282,⟨.int .u32,1,4,[.int .u32],false⟩),
 (285,⟨.int .u64,1,8,[.int .u64],false⟩),
 (288,⟨.map 3 4,1,8,[.map],false⟩),
 (297,⟨.func,1,8,[.func],false⟩),
 (300,⟨.func,1,8,[.func],false⟩),
 (301,⟨.slice 40,1,24,[.slice],false⟩),
 (303,⟨.func,1,8,[.func],false⟩),
 (317,⟨.iface,1,16,[.iface],false⟩),
 (324,⟨.map 9 4,1,8,[.map],false⟩),
 (326,⟨.map 3 32,1,8,[.map],false⟩),
 (332,⟨.func,1,8,[.func],false⟩),
 (342,⟨.ptr 344,1,8,[.ptr],false⟩),
 (344,⟨.struct [(342,0),(203,1)],2,32,[.ptr,.slice],true⟩),
 (347,⟨.func,1,8,[.func],false⟩),
 (351,⟨.map 3 3,1,8,[.map],false⟩),
 (352,⟨.func,1,8,[.func],false⟩),
 (379,⟨.ptr 5,1,8,[.ptr],false⟩),
 (380,⟨.ptr 228,1,8,[.ptr],false⟩),
 (385,⟨.ptr 3,1,8,[.ptr],false⟩),
 (387,⟨.int .i64,1,8,[.int .i64],false⟩),
 (390,⟨.ptr 409,1,8,[.ptr],false⟩),
 (393,⟨.arr 24 5,24,24,[.int .u8,.int .u8,.int .u8,.int .u8,.int .u8,.int .u8,.int .u8,.int .u8,.int .u8,.int .u8,.int .u8,.int .u8,.int .u8,.int .u8,.int .u8,.int .u8,.int .u8,.int .u8,.int .u8,.int .u8,.int .u8,.int .u8,.int .u8,.int .u8],true⟩),
 (398,⟨.func,1,8,[.func],false⟩),
 (409,⟨.struct [(9,0),(9,1),(317,2)],3,48,[.str,.str,.iface],true⟩),
 (412,⟨.arr 20 285,20,160,[.int .u64,.int .u64,.int .u64,.int .u64,.int .u64,.int .u64,.int .u64,.int .u64,.int .u64,.int .u64,.int .u64,.int .u64,.int .u64,.int .u64,.int .u64,.int .u64,.int .u64,.int .u64,.int .u64,.int .u64],true⟩),
 (414,⟨.ptr 416,1,8,[.ptr],false⟩),
 (416,⟨.struct [(9,0)],1,16,[.str],true⟩),
 (417,⟨.arr 32 5,32,32,[.int .u8,.int .u8,.int .u8,.int .u8,.int .u8,.int .u8,.int .u8,.int .u8,.int .u8,.int .u8,.int .u8,.int .u8,.int .u8,.int .u8,.int .u8,.int .u8,.int .u8,.int .u8,.int .u8,.int .u8,.int .u8,.int .u8,.int .u8,.int .u8,.int .u8,.int .u8,.int .u8,.int .u8,.int .u8,.int .u8,.int .u8,.int .u8],true⟩),
 (421,⟨.arr 0 16,0,0,[],true⟩)]
noncomputable def cx:Cx:={ P:=Tryz.prog,T:=tab,mixed:=by kernel_rfl,hT:=by kernel_rfl }
abbrev Str:=List UInt8
structure Rel where
 kind:Int
 upper:Str
 lower:Str
 deriving DecidableEq,Inhabited
def rk (b:UInt8):Bool:=(decide (97<=(b.toNat:Int)) && decide ((b.toNat:Int)<=122)) || (decide (65<=(b.toNat:Int)) && decide ((b.toNat:Int)<=90))
def yP (b:UInt8):Bool:=(decide (48<=(b.toNat:Int)) && decide ((b.toNat:Int)<=57)) || ((b.toNat:Int) == 95)
def kh (k:Nat)(b:UInt8):Bool:=rk b || (!(k == 0) && yP b)
def iz:Nat->Str->Bool
|_,[]=>true
|k,b::s=>kh k b && iz (k+1) s
def dh (s:Str):Bool:=!(s == []) && decide (s.length<=32) && iz 0 s
theorem qV:∀{s:Str}{k i:Nat}{b:UInt8},s[i]?=some b->kh (k+i) b=false->iz k s=false
|[],k,i,b,h,_=>by simp at h
|c::s,k,0,b,h,a=>by
  simp at h;subst h;simp only[TW]at a;simp[iz,a]
|c::s,k,i+1,b,h,a=>by
  have:=qV (k:=k+1) (by simpa using h) (by rw[show k+1+i=k+(i+1) by omega];exact a);simp[iz,this]
theorem oy:∀{s:Str}{k:Nat},(∀i b,s[i]?=some b->kh (k+i) b=true)->iz k s=true
|[],k,_=>rfl
|c::s,k,h=>by
  have h0:=h 0 c al;simp only[TW]at h0;have h1:=oy (s:=s) (k:=k+1) (λi b a=>by
   have:=h (i+1) b (by simpa using a)
   rwa [show k+(i+1)=k+1+i by omega]at this)
  simp[iz,h0,h1]
set_option maxRecDepth 100000 in
theorem iG (C:Mem)(s:Str)(D:s.length<1000000):Gives cx.P 285 [ae s] C (.bool (dh s)):=by
 refine V7 func285 57 U3 λw0=>U0 1 [0,2] U<|U1 6 U λR a=>Wy U8<|V5 [0,13] a U<|G.cond U (λh=>?_) (λh=>?_)
 .refine U0 1 [2] U<|V6 U2<|⟨?_,U⟩;congr 1;simp only[Uh,T4,Sr]at h;unfold dh;rcases h with h|h
  .have:s=[]:=h;simp[this]
  have h2:¬ s.length<=32:=by omega
  simp[h2]
 simp only[TY,Uc,SS]at h;have q:s≠[]:=h.1;have r:s.length<=32:=by have:=h.2;omega
 refine U1 1 U λR a=>Yd U U U U U U U U U U y_ fl_ (λE _ _ g=>?_);have t:=g;obtain⟨A,c,rfl,_⟩:=t;refine C6 2 [15,16,17] a U<|G.loop (λfr u j m=>∃k:Nat,k<=s.length/\(∀i b,i<k->s[i]?=some b->kh (0+i) b=true)/\fr=[(15,[],.slice A (s.map λb=>[Value.int .u8 b.toNat]).length c),(16,[],i_ (s.map λb=>[Value.int .u8 b.toNat]).length),(17,[],i_ k)]/\j=[]/\m=s.length-k) (m:=s.length) (hn_ [15,16,17] U) ⟨0,Sm _,λi b v=>by omega,U,U,U⟩ (λfr u j m l w=>?_);obtain⟨k,F,n,rfl,rfl,rfl⟩:=w;refine U0 1 [15,16,17,18] U<|G.cond U (λh=>?_) (λh=>?_)
 .simp only[au,Sr]at h;have x:k<s.length:=by omega
  obtain⟨b,d⟩:∃b,s[k]?=some b:=⟨s[k],ah x⟩;have y:=g.mono l;refine U1 1 U λR a=>Wf y U10 om_ (row:=[.int .u8 b.toNat]) (by simp[d]) fl_ λH z=>V1 z U8<|C6 2 [3,4,15,16,17] a U<|U1 5 U λR a=>Wr U8<|V4 6 U<|Wr U8<|Wy U8<|V2 U6<|Xk [E_ 3 _,E_ 4 _,(5,[],.bool (rk b)),E_ 15 _,E_ 16 _,E_ 17 _] a<|U1 5 U λR a=>Wr U8<|V4 3 U<|Wy U8<|V2 U6 ?_;refine Xk [E_ 3 _,E_ 5 _,(6,[],.bool (yP b)),E_ 15 _,E_ 16 _,E_ 17 _] a ?_;refine U1 8 U λR a=>Wy U8 ?_;refine Wr U8 ?_;refine Xk [E_ 15 _,E_ 16 _,E_ 17 _,(55,[],.bool (!(rk b) && (((k:Int) == 0) || !(yP b))))] a ?_;have o:(!(rk b) && (((k:Int) == 0) || !(yP b)))=!(kh (0+k) b):=by
   have e:((k:Int) == 0)=(0+k == 0):=by
    rw[Tw];by_cases p:k=0
    .subst p;rfl
    have:¬ (k:Int)=0:=by omega
    rw[Uc.2 this,Uc.2 p]
   unfold kh;rw[e];cases rk b <;> cases yP b <;> cases (0+k == 0) <;> rfl
  refine G.cond U (λh=>?_) (λh=>?_)
  .rw[o]at h;refine U0 1 [2] U<|V6 U2<|⟨?_,U⟩;have:=qV (k:=0) d (by simpa using h);simp[dh,this]
  rw[o]at h;refine V3 λR a=>Wx ((k+1:Nat):Int) U4 om_ om_ om_ U2<|C6 1 [15,16,17] a U<|We (m':=s.length-(k+1)) om_ l (hn_ [15,16,17] U) ⟨k+1,by omega, ?_,U,U,U⟩;intro i B v f;rcases SP i k with h1|h1
  .exact n i B h1 f
  have:i=k:=by omega
  subst this;rw[d]at f;cases f
  simpa using h
 simp only[au,SS]at h;refine U0 1 [2] U<|V6 U2<|⟨?_,U⟩;have:=oy (s:=s) (k:=0) (λi b d=>n i b (by have:=(aT.1 d).1;omega) d);simp[dh,this,q,r]
set_option maxRecDepth 100000
structure ArcE where
 lower:Str
 upper:Str
 deriving DecidableEq,Inhabited
theorem Ra (a b:Str):(a == b)=decide (a=b):=by by_cases h:a=b <;> simp[h]
set_option maxRecDepth 100000
def Nn (a b:Int):Int:=if a<b then -1 else if a=b then 0 else 1
structure TotC {α:Type}(f:α->α->Int):Prop where
 eq:∀x y,f x y=0 ↔ x=y
 sym:∀x y,f x y<0 ↔ 0<f y x
 trans:∀x y z,f x y<0->f y z<0->f x z<0
section
variable {α:Type} {f:α->α->Int}
variable [DecidableEq α]
def ins (f:α->α->Int)(x:α):List α->List α
|[]=>[x]
|y::l=>if f y x<0 then y::ins f x l else if y=x then y::l else x::y::l
end
def nU (x:Int):List Value:=[.int .i64 x]
def aW (i:Nat):List Value:=[.int .i64 i]
abbrev Ry (b:Nat):Value:=.pointer (some ⟨b,0,none⟩)
abbrev PF (b:Nat)(q:Option Addr)(v:Value):Ent:=.obj b (.cells ⟨[.pointer q,v]⟩ 344 (0,0))
abbrev u8s (s:Str):List Value:=s.map λc=>Value.int .u8 c.toNat
abbrev PG (v:Value)(s:Str):Ent:=.arr v 5 1 s.length (u8s s)
theorem ub (C:Mem)(b:Nat)(q:Option Addr)(v:Value)(g:q=none∨q=some ⟨b,0,none⟩):Jog.Fn cx.P 296 [Ry b] C [PF b q v] λ_ _ d=>d=[PF b (some ⟨b,0,none⟩) v]:=by
 refine V7 func296 20 U3 λw0=>Wk (L':=[.obj b (.cells ⟨[.pointer q,v]⟩ 344 (0,0))]) U<|U1 3 U λR a=>V9 ag U9<|Yn (e:=344) U U U U U kr_ kr_ U U<|V5 [0,6] a U<|G.cd (λc=>?_) λc=>?_
 .have h:q=none:=by simpa using c
  subst h;refine U1 2 U λR a=>Yc (t:=344) U U U U U ag kr_ kr_ kr_ al fl_<|Yf (fn:=Tryz.f323) U U U U U func323 kr_ kr_ kr_ kr_ fl_<|Ys (t:=344) U U U U U ag kr_ kr_ kr_ kr_ fl_<|V4 2 U<|Wa (j:=0) U12<|WV [] trivial (a _ _ _ U ?_);refine Xc U ?_;rfl
 have i:q=some ⟨b,0,none⟩:=by
  rcases g with rfl|rfl
  .simp at c
  rfl
 subst i;refine U1 3 U λR a=>V9 ag U9<|V2 U6<|Ya (e:=344) U U U U U U kr_ kr_ U U<|V5 [19] a U<|G.cd (λf=>?_) λf=>?_
 .cases f
 refine Xc U ?_;rfl
theorem wG (C:Mem)(b:Nat)(q:Option Addr)(v:Value)(s:Str)(c:UInt8)(i:q=none∨q=some ⟨b,0,none⟩)(m:s.length<=1000000000):Jog.Fn cx.P 253 [Ry b,.int .u8 c.toNat] C [PF b q v,PG v s] λ_ _ a=>∃h,a=[PF b (some ⟨b,0,none⟩) h,PG h (s++[c])]:=by
 refine V7 func253 17 U3 λw0=>Wk (L':=[.obj b (.cells ⟨[.pointer q,v]⟩ 344 (0,0)),.arr v 5 1 s.length (u8s s)]) U<|U0 1 [0,1] U<|Wt [(1,3)] U λR d=>V2 U6<|D.call (ub _ b q v i) U (.inr dc_) U6 (Sp _) fl_ λn _ o _ k=>V5 [0,1] d U ?_;subst k;refine Wk (L':=[.obj b (.cells ⟨[p_ b,v]⟩ 344 (0,0)),.arr v 5 1 s.length (u8s s)]) U<|U1 4 U λR d=>V9 ag U9<|V2 U6<|Wq [[.int .u8 c.toNat]] U12 λp _ _ l=>WB (j:=1) U11 l U ax (by simp only[Sk];omega) fl_ λe f g=>V4 2 U<|Wa (j:=1) U12<|WV [] trivial (d _ _ _ U ?_);refine U0 1 [4] U<|G.perm (L':=[.obj b (.cells ⟨[p_ b,.slice e f g]⟩ 344 (0,0)),.arr (.slice e f g) 5 1 (s.length+1) (u8s s++[Value.int .u8 c.toNat])]) (Sp _)<|Wd (WD U U ?_);exact⟨.slice e f g,by simp[PG,u8s]⟩
theorem kM (C:Mem)(b:Nat)(q:Option Addr)(v:Value)(s t:Str)(e:q=none∨q=some ⟨b,0,none⟩)(g:s.length+t.length<=1000000000):Jog.Fn cx.P 256 [Ry b,ae t] C [PF b q v,PG v s] λ_ _ a=>∃d,a=[PF b (some ⟨b,0,none⟩) d,PG d (s++t)]:=by
 refine V7 func256 19 U3 λw0=>Wk (L':=[.obj b (.cells ⟨[.pointer q,v]⟩ 344 (0,0)),.arr v 5 1 s.length (u8s s)]) U<|U0 2 [0,1] U<|Wt [(1,3)] U λR c=>V2 U6<|D.call (ub _ b q v e) U (.inr dc_) U6 (Sp _) fl_ λh _ i _ f=>V5 [0,1] c U ?_;subst f;refine Wk (L':=[.obj b (.cells ⟨[p_ b,v]⟩ 344 (0,0)),.arr v 5 1 s.length (u8s s)]) U<|U1 4 U λR c=>V9 ag U9<|V2 U6<|Yb (j:=1) U U U U U U U U U U U U U U U om_ fl_ λA2 n2 c2=>V4 2 U<|Wa (j:=1) U12<|V5 [1] c U<|U0 4 [4,5] U<|G.perm (L':=[.obj b (.cells ⟨[p_ b,.slice A2 n2 c2]⟩ 344 (0,0)),.arr (.slice A2 n2 c2) 5 1 (s.length+t.length) (u8s s++t.map λb=>Value.int .u8 b.toNat)]) (Sp _)<|Wd (Wu U3 ?_);exact⟨.slice A2 n2 c2,by simp[PG,u8s]⟩
theorem FE (C:Mem)(b:Nat)(q:Option Addr)(v:Value)(s:Str)(a:s≠[])(g:s.length<=1000000000):Jog.Fn cx.P 257 [Ry b] C [PF b q v,PG v s] λu _ c=>u=ae s/\c=[]:=by
 refine V7 func257 14 U3 λw0=>Wk (L':=[.obj b (.cells ⟨[.pointer q,v]⟩ 344 (0,0)),.arr v 5 1 s.length (u8s s)]) U<|G.form af (λd h=>?_);have i:=S7.2 a;rcases d with⟨h1,h2⟩|⟨g0,c0,rfl,k,l⟩
 .omega
 exact U0 1 [0] U<|Wn [0,1,2,3,4,5,6,7,8,9,10,11] [(4,0)] U kr_ λR m f=>V4 3 U<|V9 ag U9<|X9 U U U U U om_ U U<|V4 3 U<|V9 ag U9<|V2 U6<|X8 (j:=1) (e:=5) U U U U kr_ kr_ U U U a om_ fl_<|C6 1 [2] f U<|V6 U2<|⟨U,U⟩
def cY (x:Nat):List Value:=[.int .u64 x]
theorem eM (x:Nat):(cY x).length=1:=rfl
def NineC (C:Mem)(v:Value)(n:Nat):Prop:=∃l,zz l/\bB l=n/\Sl C 1 v (l.map cY)
theorem NineC.mono {C D:Mem}{v:Value}{n:Nat}(h:NineC C v n)(a:C.le D):NineC D v n:=by
 obtain⟨l,h1,h2,h3⟩:=h;exact⟨l,h1,h2,h3.mono a⟩
theorem NineC.m_ {D:Mem}(h:NineC C v n)(a:C.le D:=by exact mup):NineC D v n:=NineC.mono h a
theorem Ch (C:Mem)(v:Value)(l:List Nat)(d:Sl C 1 v (l.map cY)):Pur cx.P 252 [v] C λu f=>Sl f 1 u ((F5 l).map cY):=by
 obtain⟨o,c0,rfl,p,_⟩:=id d;simp only[au]at d p⊢;refine V7 func252 21 U3 λw0=>U0 1 [0] U<|G.loop (λfr f q r=>∃(k:Nat)(A:Option Addr)(c:Nat),(k<=l.length/\Sl f 1 (.slice A k c) ((l.take k).map cY)/\nY l l.length=nY l k)/\fr=[(0,[],.slice A k c)]/\q=[]/\r=k+1) (hn_ [0] U) ⟨l.length,o,c0,⟨Sg _,by rw[Ss];exact d,U⟩,U,U,U⟩ (λfr E F m _ s=>?_);obtain⟨k,A,c,⟨H,hs,ht⟩,rfl,rfl,rfl⟩:=s;obtain⟨_,I,t,w,_⟩:=id hs;have J:=mx_
 have K:k<=c:=by
  rw[au,Sy]at w;injection t with h1 h2 h3;omega
 have x:0<k->((l.take k).map cY)[((k:Int)-1).toNat]?=some (cY (g9 l (k-1))):=λh=>by
  rw[show((k:Int)-1).toNat=k-1 by omega,Sh,Tb,aK om_,ah (by omega:k-1<l.length)];unfold g9;rw[ak,ah (by omega:k-1<l.length)];rfl
 refine U1 7 U λR g=>V8 _ U U6<|D.index U10 (λi=>⟨hs,(by have h:decide ((0:Int)<(k:Int))=true:=i.1;simp at h;omega),x (by have h:decide ((0:Int)<(k:Int))=true:=i.1;simp at h;omega)⟩) fl_ U λL y=>Wv U6 y U3<|V2 U6<|Wr U8<|V5 [0,14] g U<|G.cd (λb=>?_) λb=>?_
 .have a:0<k/\g9 l (k-1)=0:=by
   have:(0:Int)<(k:Int)/\((g9 l (k-1):Nat):Int)=0:=by simpa using b
   omega
  refine U1 3 U λR g=>Wx (((k-1:Nat):Int)) U4 om_ om_ om_ U2<|WN 0 (k-1) c U12 (λ_=>⟨.inl ⟨U,U⟩,.inr ⟨_,U⟩,.inl ⟨U,U⟩,by omega,by omega,Sg _⟩) U2<|C6 1 [0] g U ?_;have n:=Sl.sub hs (l:=0) (h:=k-1) (m:=c) (Sm _) am om_ (Sg _);have z:(((l.take k).map cY).take (k-1)).drop 0=(l.take (k-1)).map cY:=by
   rw[Tt,<- Us,Ve,Tj om_]
  rw[z]at n;have B:nY l l.length=nY l (k-1):=by
   rw[ht];obtain⟨j,rfl⟩:∃j,k=j+1:=⟨k-1,by omega⟩;simp only[Uy]at a⊢;rw[nY,aK];unfold g9 at a;rw[ak,ah om_]at a;rw[ah om_];exact congrArg some a.2
  refine We (m':=k-1+1) om_ mup (hn_ [0] U) ⟨k-1,_,c,⟨by omega,n.mono mup,B⟩,U,U,U⟩
 have a:¬ (0<k/\g9 l (k-1)=0):=λhh=>by
  have h1:(decide ((0:Int)<(k:Int)) && (((g9 l (k-1):Nat):Int) == 0))=true:=by
   rw[hh.2];simp;omega
  rw[h1]at b;cases b
 refine U0 2 [2] U<|V6 U2<|⟨U, ?_⟩;have e:nY l k=k:=by
  cases k with
 |zero=>rfl
 |succ j =>
   simp only[Uy]at a;rw[nY,aF];intro h;refine a ⟨by omega, ?_⟩;unfold g9;rw[ak,h];rfl
 unfold F5;rw[ht,e];exact hs
theorem gT (C:Mem)(v:Value)(l:List Nat)(b:l.length=n):Jog.Fn cx.P 252 [v] C [.arr v 285 1 n (l.map cY).flatten] λu a c=>c=[]/\Sl a 1 u ((F5 l).map cY) :=
 Jog.Fn.give (l.map cY) kr_ (by intro r hr;obtain⟨y,_,rfl⟩:=Sn.1 hr;rfl) (by rw[au,b]) (λa _ hs=>Ch a v l hs)
def kf (m n:Nat):Int:=if m<n then -1 else if n<m then 1 else 0
theorem js :kf m n<0 ↔ m<n:=by unfold kf;split <;> (try split) <;> omega
theorem HB :0<kf m n ↔ n<m:=by unfold kf;split <;> (try split) <;> omega
theorem HA (C:Mem)(w z:Value)(a b:List Nat)(d:Sl C 1 w (a.map cY))(f:Sl C 1 z (b.map cY))(n:zz a)(o:zz b):Gives cx.P 221 [w,z] C (i_ (kf (bB a) (bB b))):=by
 have Z:=mx_
 obtain⟨F,c0,rfl,H,aa,_⟩:=id d;obtain⟨I,J,rfl,K,ab,_⟩:=id f;simp only[au]at d f H K⊢;refine V7 func221 41 U3 λw0=>U0 1 [0,1] U<|U0 5 [0,1,10] U<|G.cd (λg=>?_) λg=>?_
 .have ac:a.length≠b.length:=λe=>by
   rw[e]at g;simp at g
  refine U0 5 [15] U<|G.cd (λp=>?_) λp=>?_
  .have q:a.length<b.length:=by
    have:(a.length:Int)<b.length:=by simpa using p
    omega
   exact U0 1 [4] U<|V6 U2<|⟨by rw[show kf (bB a) (bB b)=-1 from aK (vm n.1 o q)],U⟩
  have q:b.length<a.length:=by
   have:¬ (a.length:Int)<b.length:=by simpa using p
   omega
  have r:=vm o.1 n q;exact U0 1 [4] U<|V6 U2<|⟨by rw[show kf (bB a) (bB b)=1 from by unfold kf;rw[aF om_,aK r]],U⟩
 have s:a.length=b.length:=by
  have:(a.length:Int)=b.length:=by simpa using g
  omega
 refine U1 2 U λR c=>V8 _ U U6<|C6 1 [0,1,5] c U<|G.loop (λfr C' L M=>∃(k:Nat),(k<=a.length/\a.drop k=b.drop k)/\fr=[(0,[],.slice F a.length c0),(1,[],.slice I b.length J),(5,[],i_ ((k:Int)-1))]/\L=[]/\M=k+1) (hn_ [0,1,5] U) ⟨a.length,⟨Sg _,by rw[Ty,s,Ty]⟩,U,U,U⟩ (λfr ad ae m _ N=>?_);obtain⟨k,⟨hk,i⟩,rfl,rfl,rfl⟩:=N;refine U0 2 [0,1,5,20] U<|G.cd (λt=>?_) λt=>?_
 .have A:0<k:=by
   have:(0:Int)<=(k:Int)-1:=by simpa using t
   omega
  obtain⟨j,rfl⟩:∃j,k=j+1:=⟨k-1,by omega⟩;obtain⟨x,l⟩:∃x,a[j]?=some x:=⟨a[j],ah om_⟩;obtain⟨y,hy⟩:∃y,b[j]?=some y:=⟨b[j],ah om_⟩;have B:(a.map cY)[(((j+1:Nat):Int)-1).toNat]?=some (cY x):=by
   rw[show(((j+1:Nat):Int)-1).toNat=j by omega,Sh,l];rfl
  have D:(b.map cY)[(((j+1:Nat):Int)-1).toNat]?=some (cY y):=by
   rw[show(((j+1:Nat):Int)-1).toNat=j by omega,Sh,hy];rfl
  refine Wn [0,1,2,3,4,5,6,7,8] [] U kr_ λR O c=>V4 2 U<|Wf d.m_ U10 om_ B fl_ λaf Q=>V1 Q U8<|V4 2 U<|Wf f.m_ U10 om_ D fl_ λag S=>V1 S U8<|C6 1 [0,1,5,31] c U<|G.cd (λu=>?_) λu=>?_
  .have E:x≠y:=λh=>by
    subst h;simp at u
   refine Wn [0,1,2,3,4,5,6,7,8] [] U kr_ λR O c=>V4 2 U<|Wf d.m_ U10 om_ B fl_ λai T=>V1 T U8<|V4 2 U<|Wf f.m_ U10 om_ D fl_ λaj V=>V1 V U8<|C6 1 [40] c U<|G.cd (λv=>?_) λv=>?_
   .have E:x<y:=by
     have:(x:Int)<y:=by simpa using v
     omega
    exact U0 1 [4] U<|V6 U2<|⟨by rw[show kf (bB a) (bB b)=-1 from aK (Nq n.1 s l hy E i)],U⟩
   have W:y<x:=by
    have:¬ (x:Int)<y:=by simpa using v
    omega
   have r:=Nq o.1 s.symm hy l W i.symm;exact U0 1 [4] U<|V6 U2<|⟨by rw[show kf (bB a) (bB b)=1 from by unfold kf;rw[aF om_,aK r]],U⟩
  have X:x=y:=by
   have:(x:Int)=y:=by simpa using u
   omega
  refine U1 1 U λR c=>V8 _ U U6<|C6 1 [0,1,5] c U ?_;rw[show((j+1:Nat):Int)-1-1=(j:Int)-1 by omega];refine We (m':=j+1) om_ mup (hn_ [0,1,5] U) ⟨j,⟨by omega,by
   rw[SN (by omega:j<a.length),SN (by omega:j<b.length),i,(aT.1 l).2,(aT.1 hy).2,X]⟩,rfl,rfl,rfl⟩
 have A:k=0:=by
  have:¬ (0:Int)<=(k:Int)-1:=by simpa using t
  omega
 subst A;refine U0 1 [4] U<|V6 U2 ?_;have Y:a=b:=by simpa using i
 subst Y;exact⟨by rw[show kf (bB a) (bB a)=0 from by unfold kf;rw[aF om_,aF om_]],U⟩
theorem yC (h:i<l.length):l[i]?=some (g9 l i):=by rw[ah h,AM (ah h)]
theorem jC (h:i<l.length):(l.map cY)[i]?=some (cY (g9 l i)):=by rw[Sh,yC h];rfl
theorem M8 (h:l.length<=i):g9 l i=0:=by
 unfold g9;rw[ak,Sq h];rfl
theorem B9v:B9=1000000000:=rfl
theorem OC (C:Mem)(E F:Value)(a b:List Nat)(q:Sl C 1 E (a.map cY))(r:Sl C 1 F (b.map cY))(H:Dig9 a)(I:Dig9 b)(O:a.length<=10000000)(Q:b.length<=10000000) :
  Pur cx.P 220 [E,F] C λu k=>NineC k u (bB a+bB b):=by
 obtain⟨A0,c0,rfl,_⟩:=id q;obtain⟨B0,d0,rfl,_⟩:=id r;simp only[au]at q r⊢;have hB:=B9v;refine V7 func220 53 U3 λw0=>U0 1 [0,1] U<|U0 5 [0,1,13] U<|G.cut (λfr k l o=>∃(e lb:List Nat)(A:Option Addr)(c:Nat)(B:Option Addr)(d:Nat),(Sl k 1 (.slice A e.length c) (e.map cY)/\Sl k 1 (.slice B lb.length d) (lb.map cY)/\lb.length<=e.length/\bB e+bB lb=bB a+bB b/\Dig9 e/\Dig9 lb/\e.length<=10000000)/\fr=[(0,[],.slice A e.length c),(1,[],.slice B lb.length d)]/\l=[]) ?_ (λfr _ ai o _ p=>?_)
 .refine G.cd (λt=>?_) λt=>?_
  .have S:a.length<b.length:=by
    have:(a.length:Int)<b.length:=by simpa using t
    omega
   refine U0 4 [0,1] U<|Wj 0 l_ (hn_ [0,1] U) ⟨b,a,_,_,_,_,⟨r.mono mup,q.mono mup,by omega,by omega,I,H,Q⟩,U,U⟩
  have S:¬ a.length<b.length:=λh=>by
   have:(a.length:Int)<b.length:=by omega
   simp[this]at t
  refine Wj 0 l_ (hn_ [0,1] U) ⟨a,b,_,_,_,_,⟨q.mono mup,r.mono mup,by omega,U,H,I,O⟩,U,U⟩
 obtain⟨e ,lb ,A ,c ,B ,d,⟨T,V,W,X,Y,Z,aj⟩,rfl,rfl⟩:=p;refine U1 2 U λR g=>V8 _ U U6<|WX U9 (Sm _) (by show 8*(e.length+1)<=281474976710656;omega) y_ fl_ λak=>C6 1 [0,1,5] g U<|U0 1 [0,1,5,6] U<|U0 3 [1,5,6,20,21,22] U<|G.loop (λfr k l o=>∃(i:Nat)(out:List Nat)(f:Nat)(w:Value),(i<=e.length/\out.length=i/\Dig9 out/\f<=1/\bB out+B9 ^ i*f=bB (e.take i)+bB (lb.take i))/\fr=[(1,[],.slice B lb.length d),(5,[],w),(6,[],.int .u64 f),(20,[],.slice A e.length c),(21,[],i_ e.length),(22,[],i_ i)]/\l=[.arr w 285 1 i (out.map cY).flatten]/\o=e.length-i) (hn_ [1,5,6,20,21,22] U) ⟨0,[],0,_,⟨Sm _,U,(λx hx=>(by cases hx)),by omega,U⟩,U,U,U⟩ (λfr al am m _ p=>?_);obtain⟨i,out,f,w,⟨hi,s,J,K,L⟩,rfl,rfl,rfl⟩:=p;refine U0 1 [1,5,6,20,21,22,23] U<|G.cd (λv=>?_) λv=>?_
 .have y:i<e.length:=by simpa using v
  have aa:=lu Y i;have ab:=lu Z i;refine U1 1 U λR g=>Wf T.m_ U10 om_ (jC (i:=i) y) fl_ λan ac=>V1 ac U8<|C6 2 [1,5,6,7,8,20,21,22] g U<|U1 2 U λR g=>D.int (((f+g9 e i:Nat):Int)) U4 g_ U2<|C6 1 [1,5,6,7,20,21,22] g U<|U0 4 [1,5,6,7,20,21,22,33] U<|G.cut (λfr k l o=>(True)/\fr=[(1,[],.slice B lb.length d),(5,[],w),(6,[],.int .u64 ((f+g9 e i+g9 lb i:Nat):Int)),(20,[],.slice A e.length c),(21,[],i_ e.length),(22,[],i_ i)]/\l=[.arr w 285 1 i (out.map cY).flatten]) ?_ (λfr _ ao o _ p=>?_)
  .refine G.cd (λz=>?_) λz=>?_
   .have ad:i<lb.length:=by simpa using z
    refine U1 3 U λR g=>Wf V.m_ U10 om_ (jC (i:=i) ad) fl_ λap ae=>V1 ae U8<|D.int (((f+g9 e i+g9 lb i:Nat):Int)) U4 g_ U2<|C6 1 [1,5,6,20,21,22] g U<|Wj 0 l_ (hn_ [1,5,6,20,21,22] U) ⟨trivial,U,U⟩
   have hz:g9 lb i=0:=M8 (by have h:¬ i<lb.length:=(by simpa using z);omega);refine Wj 0 l_ (hn_ [1,5,6,20,21,22] U) ⟨trivial,by rw[hz];rfl,U⟩
  obtain⟨aq,rfl,rfl⟩:=p;refine U1 2 U λR g=>WT (f+g9 e i+g9 lb i) (B9) U6 om_ U2<|Wq [cY ((f+g9 e i+g9 lb i) % B9)] U12 λar _ _ af=>D.append (j:=0) U11 af U ax (by show(i+1)*8<=_;omega) fl_ λM=>C6 1 [1,5,6,20,21,22] g U<|U1 1 U λR g=>WZ (f+g9 e i+g9 lb i) (B9) U6 om_ (.inr ⟨U,by omega⟩) U2<|C6 1 [1,5,6,20,21,22] g U<|V3 λR g=>V8 _ U U6<|C6 1 [1,5,6,20,21,22] g U ?_;have N:f+g9 e i+g9 lb i=g9 e i+g9 lb i+f:=by omega
  refine Wk (L':=[.arr M 285 1 (i+1) ((out++[(g9 e i+g9 lb i+f) % B9]).map cY).flatten]) (by rw[N];simp[cY]) ?_;rw[N];refine We (m':=e.length-(i+1)) om_ mup (hn_ [1,5,6,20,21,22] U) ⟨i+1,out++[(g9 e i+g9 lb i+f) % B9],(g9 e i+g9 lb i+f) / B9,M,⟨by omega,by simp[s],J.snoc (S5 _ dc_),Jl aa ab K,Jy s L⟩,U,U,U⟩
 have y:i=e.length:=by
  have:¬ i<e.length:=by simpa using v
  omega
 refine Wt [(4,3)] U λR g=>V4 2 U<|Wq [cY f] U12 λav _ _ ag=>D.append (j:=0) U11 ag U ax (by show(i+1)*8<=_;omega) fl_ λaw=>D.call (gT _ _ (out++[f]) (n:=i+1) (by simp[s])) U (.inr dc_) U6 (by rw[SV,SI];exact Sp _) fl_ (λay _ az _ ah=>?_);obtain⟨rfl,hu⟩:=ah;refine C6 1 [4] g U<|V6 U2<|⟨U,F5 (out++[f]),iR (J.snoc (Te K dc_)), ?_,hu⟩;rw[iQ,ji,s,L,y,Ss,SL W,X]
theorem K8 (C:Mem)(H I:Value)(a b:List Nat)(q:Sl C 1 H (a.map cY))(r:Sl C 1 I (b.map cY))(L:Dig9 a)(J:Dig9 b)(ac:a.length<=10000000)(M:b.length<=a.length)(ad:bB b<=bB a) :
  Pur cx.P 222 [H,I] C λu k=>NineC k u (bB a-bB b):=by
 obtain⟨s,c0,rfl,_⟩:=id q;obtain⟨t,v,rfl,_⟩:=id r;simp only[au]at q r⊢;have N:=B9v;refine V7 func222 45 U3 λw0=>U0 1 [0,1] U<|U1 2 U λR d=>WX U9 (Sm _) (by show 8*a.length<=281474976710656;omega) y_ fl_ λae=>C6 1 [0,1,5] d U<|U0 1 [0,1,5,6] U<|U0 3 [1,5,6,13,14,15] U<|G.loop (λfr k e f=>∃(i:Nat)(out:List Nat)(c:Nat)(w:Value),(i<=a.length/\out.length=i/\Dig9 out/\c<=1/\bB out+bB (b.take i)=bB (a.take i)+B9 ^ i*c)/\fr=[(1,[],.slice t b.length v),(5,[],w),(6,[],.int .u64 c),(13,[],.slice s a.length c0),(14,[],i_ a.length),(15,[],i_ i)]/\e=[.arr w 285 1 i (out.map cY).flatten]/\f=a.length-i) (hn_ [1,5,6,13,14,15] U) ⟨0,[],0,_,⟨Sm _,U,(λx O=>(by cases O)),by omega,U⟩,U,U,U⟩ (λfr af ag m _ g=>?_);obtain⟨i,out,c,w,⟨hi,l,y,z,o⟩,rfl,rfl,rfl⟩:=g;refine U0 1 [1,5,6,13,14,15,16] U<|G.cd (λA=>?_) λA=>?_
 .have p:i<a.length:=by simpa using A
  have Q:=lu L i;have S:=lu J i;refine U1 1 U λR d=>Wf q.m_ U10 om_ (jC (i:=i) p) fl_ λah T=>V1 T U8<|C6 2 [1,5,6,7,8,13,14,15] d U<|U0 2 [1,5,7,8,9,13,14,15] U<|U0 4 [1,5,7,8,9,13,14,15,24] U<|G.cut (λfr k e f=>(True)/\fr=[(1,[],.slice t b.length v),(5,[],w),(8,[],.int .u64 (g9 a i)),(9,[],.int .u64 ((c+g9 b i:Nat):Int)),(13,[],.slice s a.length c0),(14,[],i_ a.length),(15,[],i_ i)]/\e=[.arr w 285 1 i (out.map cY).flatten]) ?_ (λfr _ ai f _ g=>?_)
  .refine G.cd (λB=>?_) λB=>?_
   .have V:i<b.length:=by simpa using B
    refine U1 3 U λR d=>Wf r.m_ U10 om_ (jC (i:=i) V) fl_ λaj W=>V1 W U8<|D.int (((c+g9 b i:Nat):Int)) U4 g_ U2<|C6 1 [1,5,8,9,13,14,15] d U<|Wj 0 l_ (hn_ [1,5,8,9,13,14,15] U) ⟨trivial,U,U⟩
   have X:g9 b i=0:=M8 (by have h:¬ i<b.length:=(by simpa using B);omega);refine Wj 0 l_ (hn_ [1,5,8,9,13,14,15] U) ⟨trivial,by rw[X];rfl,U⟩
  obtain⟨ak,rfl,rfl⟩:=g;refine U0 1 [1,5,6,8,9,13,14,15] U<|U0 3 [1,5,6,8,9,13,14,15,33] U<|G.cut (λfr k e f=>(True)/\fr=[(1,[],.slice t b.length v),(5,[],w),(6,[],.int .u64 ((wD (g9 a i) (g9 b i) c:Nat):Int)),(8,[],.int .u64 ((g9 a i+B9*wD (g9 a i) (g9 b i) c:Nat):Int)),(9,[],.int .u64 ((c+g9 b i:Nat):Int)),(13,[],.slice s a.length c0),(14,[],i_ a.length),(15,[],i_ i)]/\e=[.arr w 285 1 i (out.map cY).flatten]) ?_ (λfr _ al f _ g=>?_)
  .refine G.cd (λE=>?_) λE=>?_
   .have F:wD (g9 a i) (g9 b i) c=1:=by
     have:(g9 a i:Int)<((c+g9 b i:Nat):Int):=by simpa using E
     unfold wD;rw[aK om_]
    refine U1 1 U λR d=>D.int (((g9 a i+B9*1:Nat):Int)) U4 g_ U2<|C6 2 [1,5,6,8,9,13,14,15] d U<|Wj 0 l_ (hn_ [1,5,6,8,9,13,14,15] U) ⟨trivial,by rw[F];rfl,U⟩
   have F:wD (g9 a i) (g9 b i) c=0:=by
    have:¬ (g9 a i:Int)<((c+g9 b i:Nat):Int):=by simpa using E
    unfold wD;rw[aF om_]
   refine Wj 0 l_ (hn_ [1,5,6,8,9,13,14,15] U) ⟨trivial,by rw[F];rfl,U⟩
  obtain⟨am,rfl,rfl⟩:=g;refine U1 3 U λR d=>?_;have an:wD (g9 a i) (g9 b i) c<=1:=Jo _ _ _;have Y:c+g9 b i<=g9 a i+B9*wD (g9 a i) (g9 b i) c:=by
   unfold wD;split <;> omega
  refine D.int (((I0 (g9 a i) (g9 b i) c:Nat):Int)) U4 (by rw[IntKind.wrap_u64];unfold I0;rw[N]at Y⊢;omega) U2<|Wq [cY (I0 (g9 a i) (g9 b i) c)] U12 λao _ _ Z=>D.append (j:=0) U11 Z U ax (by show(i+1)*8<=_;omega) fl_ λK=>C6 1 [1,5,6,13,14,15] d U<|V3 λR d=>V8 _ U U6<|C6 1 [1,5,6,13,14,15] d U<|Wk (L':=[.arr K 285 1 (i+1) ((out++[I0 (g9 a i) (g9 b i) c]).map cY).flatten]) (by simp[cY])<|We (m':=a.length-(i+1)) om_ mup (hn_ [1,5,6,13,14,15] U) ⟨i+1,out++[I0 (g9 a i) (g9 b i) c],wD (g9 a i) (g9 b i) c,K,⟨by omega,by simp[l],y.snoc (Pn Q S z),Jo _ _ _,Gz J z l o⟩,U,U,U⟩
 have p:i=a.length:=by
  have:¬ i<a.length:=by simpa using A
  omega
 refine Wt [(1,3)] U λR d=>V2 U6<|D.call (gT _ _ out (n:=i) l) U (.inr dc_) U6 (Sp _) fl_ (λap _ aq _ aa=>?_);obtain⟨rfl,hu⟩:=aa;refine C6 1 [4] d U<|V6 U2<|⟨U,F5 out,iR y, ?_,hu⟩;rw[p,Ss,SL M]at o;have h0:=jk y;rw[l,p]at h0;have ab:c=0:=by
  rcases Nat.le_one_iff_eq_zero_or_eq_one.1 z with h|h
  .exact h
  rw[h,T0]at o;omega
 rw[ab,V0]at o;rw[iQ];omega
abbrev qU (g c n:Nat):Value:=.slice (some ⟨g,0,none⟩) n c
theorem F6 (n:Nat):fI ([.int .u64 0]:List Value) n=((List.replicate n 0).map cY).flatten:=by
 rw[dH,US];rfl
theorem ry {j z:Nat}(h:i≠j):g9 (l.set i z) j=g9 l j:=by
 unfold g9;rw[ak,ak,Vd h]
theorem DC (n j:Nat):g9 (List.replicate n 0) j=0:=by
 unfold g9;rw[ak,TC];split <;> rfl
theorem J5 (C:Mem)(T V:Value)(a b:List Nat)(w:Sl C 1 T (a.map cY))(y:Sl C 1 V (b.map cY))(ah:Dig9 a)(ai:Dig9 b)(av:a.length<=1000000)(aw:b.length<=1000000) :
  Pur cx.P 190 [T,V] C λu s=>NineC s u (bB a*bB b):=by
 obtain⟨A,c0,rfl,_⟩:=id w;obtain⟨t,v,rfl,_⟩:=id y;simp only[au]at w y⊢;have hB:=B9v;obtain⟨N,hN⟩:∃N,a.length+b.length+1=N:=⟨_,rfl⟩;refine V7 func190 79 U3 λw0=>U0 1 [0,1] U<|U1 4 U λR d=>Wx (((a.length+b.length:Nat):Int)) U4 om_ om_ om_ U2<|Wx (((N:Nat):Int)) U4 om_ om_ om_ U2<|WX U9 (Sg _) (by show 8*N<=281474976710656;omega) y_ fl_ λf=>C6 1 [0,1,5] d U<|U0 3 [1,5,19,20,21] U<|Wk (L':=[.arr (qU f N N) 285 1 N ((List.replicate N 0).map cY).flatten]) (by rw[<- F6];rfl)<|G.loop (λfr s g n=>∃(i:Nat)(o:List Nat),(i<=a.length/\o.length=N/\Dig9 o/\bB o=bB (a.take i)*bB b/\∀j,i+b.length<=j->g9 o j=0)/\fr=[(1,[],.slice t b.length v),(5,[],qU f N N),(19,[],.slice A a.length c0),(20,[],i_ a.length),(21,[],i_ i)]/\g=[.arr (qU f N N) 285 1 N (o.map cY).flatten]/\n=a.length-i) (hn_ [1,5,19,20,21] U) ⟨0,List.replicate N 0,⟨Sm _,SG,(λx l=>by rw[TT l];decide),by rw[sQ (λx l=>TT l)];simp[bB],λj _=>DC _ j⟩,U,U,U⟩ (λfr ax ay m _ p=>?_);obtain⟨i,o,⟨hi,W,X,Y,hz⟩,rfl,rfl,rfl⟩:=p;refine U0 1 [1,5,19,20,21,22] U<|G.cd (λB=>?_) λB=>?_
 .have E:i<a.length:=by simpa using B
  have l:=lu ah i;refine U1 1 U λR d=>Wf w.m_ U10 om_ (jC (i:=i) E) fl_ λaz aj=>V1 aj U8<|C6 2 [1,5,6,7,19,20,21] d U<|U0 1 [1,5,6,7,8,19,20,21] U<|U0 3 [1,5,6,7,8,19,20,21,26,27,28] U<|G.loop (λfr s g n=>∃(k:Nat)(q:List Nat)(c:Nat),(k<=b.length/\q.length=N/\Dig9 q/\c<B9/\bB q+B9 ^ (i+k)*c=bB o+B9 ^ i*(g9 a i*bB (b.take k))/\∀j,i+b.length<=j->g9 q j=0)/\fr=[(1,[],.slice t b.length v),(5,[],qU f N N),(6,[],i_ i),(7,[],.int .u64 (g9 a i)),(8,[],.int .u64 c),(19,[],.slice A a.length c0),(20,[],i_ a.length),(21,[],i_ i),(26,[],.slice t b.length v),(27,[],i_ b.length),(28,[],i_ k)]/\g=[.arr (qU f N N) 285 1 N (q.map cY).flatten]/\n=b.length-k) (hn_ [1,5,6,7,8,19,20,21,26,27,28] U) ⟨0,o,0,⟨Sm _,W,X,by decide,by simp[bB],hz⟩,U,U,U⟩ (λfr aA aB m _ p=>?_);obtain⟨k,q,c,⟨hk,F,H,I,J,K⟩,rfl,rfl,rfl⟩:=p;refine U0 1 [1,5,6,7,8,19,20,21,26,27,28,29] U<|G.cd (λL=>?_) λL=>?_
  .have M:k<b.length:=by simpa using L
   have hy:=lu ai k;have Z:=lu H (i+k);have aa:q[i+k]?=some (g9 q (i+k)):=yC om_;have ak:=tz I l hy Z;rw[show B9*B9=1000000000000000000 from rfl]at ak;refine U1 1 U λR d=>Wf y.m_ U10 om_ (jC (i:=k) M) fl_ λaC al=>V1 al U8<|C6 2 [1,5,6,7,8,9,10,19,20,21,26,27,28] d U<|U1 4 U λR d=>Wx (((i+k:Nat):Int)) U4 om_ om_ om_ U2<|Ww ((i+k)*1) U10 w_ U2<|WJ ag U6 (λ_=>(by rw[dx eM aa];rfl)) U2<|V4 2 U<|D.int (((g9 a i*g9 b k:Nat):Int)) U4 (by rw[<- SK,IntKind.wrap_u64];omega) U2<|D.int (((g9 q (i+k)+g9 a i*g9 b k:Nat):Int)) U4 g_ U2<|D.int (((c+g9 a i*g9 b k+g9 q (i+k):Nat):Int)) U4 g_ U2<|C6 1 [1,5,6,7,8,9,19,20,21,26,27,28] d U<|U1 3 U λR d=>Wx (((i+k:Nat):Int)) U4 om_ om_ om_ U2<|V2 U6<|WT (c+g9 a i*g9 b k+g9 q (i+k)) (B9) U6 om_ U2<|Ww ((i+k)*1) U10 w_ U2<|WA (j:=0) U11 (by show(i+k)*1+1<=_;rw[bM eM,F];omega)<|V5 [1,5,6,7,8,19,20,21,26,27,28] d U<|U1 1 U λR d=>WZ (c+g9 a i*g9 b k+g9 q (i+k)) (B9) U6 om_ (.inr ⟨U,by omega⟩) U2<|C6 1 [1,5,6,7,8,19,20,21,26,27,28] d U<|V3 λR d=>V8 _ U U6<|C6 1 [1,5,6,7,8,19,20,21,26,27,28] d U<|Wk (L':=[.arr (qU f N N) 285 1 N ((q.set (i+k) ((c+g9 a i*g9 b k+g9 q (i+k)) % B9)).map cY).flatten]) (by rw[<- bI eM _ (by omega:i+k<q.length)];rfl)<|We (m':=b.length-(k+1)) om_ mup (hn_ [1,5,6,7,8,19,20,21,26,27,28] U) ⟨k+1,q.set (i+k) ((c+g9 a i*g9 b k+g9 q (i+k)) % B9),(c+g9 a i*g9 b k+g9 q (i+k)) / B9,⟨by omega,by simp[F],H.set (S5 _ dc_),Jk I l hy Z,HM aa U J,λj r=>by rw[ry om_];exact K j r⟩,U,U,U⟩
  have M:k=b.length:=by
   have:¬ k<b.length:=by simpa using L
   omega
  refine U1 3 U λR d=>Wx (((i+b.length:Nat):Int)) U4 om_ om_ om_ U2<|C6 1 [1,5,8,11,19,20,21] d U<|G.loop (λfr s g n=>∃(m:Nat)(e:List Nat)(c2:Nat),(i+b.length<=m/\m<=i+b.length+1/\e.length=N/\Dig9 e/\c2<B9/\(m=i+b.length+1->c2=0)/\(m=i+b.length->g9 e m=0)/\bB e+B9 ^ m*c2=bB o+B9 ^ i*(g9 a i*bB b)/\∀j,i+b.length+1<=j->g9 e j=0)/\fr=[(1,[],.slice t b.length v),(5,[],qU f N N),(8,[],.int .u64 c2),(11,[],i_ m),(19,[],.slice A a.length c0),(20,[],i_ a.length),(21,[],i_ i)]/\g=[.arr (qU f N N) 285 1 N (e.map cY).flatten]/\n=2-(m-(i+b.length))) (hn_ [1,5,8,11,19,20,21] U) ⟨i+b.length,q,c,⟨Sg _,by omega,F,H,I,λh=>by omega,λ_=>K _ (Sg _),by rw[M,Ss]at J;exact J,λj r=>K j om_⟩,U,U,U⟩ (λfr aD aE m _ p=>?_);obtain⟨m,e,c2,⟨aF,aG,O,ab,Q,am,an,ac,ad⟩,rfl,rfl,rfl⟩:=p;refine U0 2 [1,5,8,11,19,20,21,60] U<|G.cd (λh60=>?_) λh60=>?_
  .have ae:0<c2:=by
    have:(0:Int)<(c2:Int):=by simpa using h60
    omega
   have ao:m=i+b.length:=by
    rcases SP m (i+b.length+1) with h|h
    .omega
    have:=am om_;omega
   have S:=an ao;have af:e[m]?=some (g9 e m):=yC om_;refine U1 3 U λR d=>Ww (m*1) U10 w_ U2<|WJ ag U6 (λ_=>(by rw[dx eM af];rfl)) U2<|D.int (((c2+g9 e m:Nat):Int)) U4 g_ U2<|C6 1 [1,5,8,11,19,20,21] d U<|U1 3 U λR d=>WT (c2+g9 e m) (B9) U6 om_ U2<|Ww (m*1) U10 w_ U2<|WA (j:=0) U11 (by show m*1+1<=_;rw[bM eM,O];omega)<|V5 [1,5,8,11,19,20,21] d U<|U1 1 U λR d=>WZ (c2+g9 e m) (B9) U6 om_ (.inr ⟨U,by omega⟩) U2<|C6 1 [1,5,8,11,19,20,21] d U<|U1 1 U λR d=>V8 _ U U6<|C6 1 [1,5,8,11,19,20,21] d U ?_;have ap:(c2+g9 e m) % B9=c2:=by rw[S,TW];exact UO Q
   have aq:(c2+g9 e m) / B9=0:=by rw[S,TW];exact Uo Q
   refine Wk (L':=[.arr (qU f N N) 285 1 N ((e.set m c2).map cY).flatten]) (by rw[ap,<- bI eM _ (by omega:m<e.length)];rfl) ?_;rw[aq];refine We (m':=2-(m+1-(i+b.length))) om_ mup (hn_ [1,5,8,11,19,20,21] U) ⟨m+1,e.set m c2,0,⟨by omega,by omega,by simp[O],ab.set Q,by decide,λ_=>rfl,λh=>by omega,by
    have h1:=uy (z:=c2) af;rw[S]at h1;omega,λj r=>by rw[ry om_];exact ad j r⟩,rfl,rfl,rfl⟩
  have ae:c2=0:=by
   have:¬ (0:Int)<(c2:Int):=by simpa using h60
   omega
  refine V3 λR d=>V8 _ U U6<|C6 1 [1,5,19,20,21] d U<|We (m':=a.length-(i+1)) om_ mup (hn_ [1,5,19,20,21] U) ⟨i+1,e,⟨by omega,O,ab,by
   rw[ae,V0,TW]at ac;rw[nu,TQ,<- Y,T1];exact ac,λj r=>ad j om_⟩,U,U,U⟩
 have E:i=a.length:=by
  have:¬ i<a.length:=by simpa using B
  omega
 refine Wt [(1,3)] U λR d=>V2 U6<|D.call (gT _ _ o W) U (.inr dc_) U6 (Sp _) fl_ (λaH _ aI _ ar=>?_);obtain⟨rfl,hu⟩:=ar;refine C6 1 [4] d U<|V6 U2<|⟨U,F5 o,iR X, ?_,hu⟩;rw[iQ,Y,E,Ss]
theorem ud (h:zz l)(a:bB l<B9 ^ m):l.length<=m:=by
 rcases SP m l.length with h1|h1
 .have h2:=wg h om_;have h3:B9 ^ m<=B9 ^ (l.length-1):=SJ dc_ om_;omega
 exact h1
theorem NineC.get (h:NineC C v n)(a:n<B9 ^ m):∃l,zz l/\bB l=n/\l.length<=m/\Sl C 1 v (l.map cY):=by
 obtain⟨l,h1,h2,h3⟩:=h;exact⟨l,h1,h2,ud h1 (by rw[h2];exact a),h3⟩
theorem NineC.zero (C:Mem):NineC C (.slice none 0 0) 0:=⟨[],⟨(λx a=>(by cases a)),by simp⟩,rfl,Sl.nil C 1⟩
theorem NineC.form (h:NineC C v n):∃A m c,v=.slice A m c:=by
 obtain⟨l,_,_,A,c,h,_⟩:=h;exact⟨A,_,c,h⟩
theorem dK (h:m<B9 ^ n)(a:n<=k):m<B9 ^ k:=Tk h (SJ dc_ a)
theorem qQ (C:Mem)(c:NineC C u m)(d:NineC C v n):Gives cx.P 221 [u,v] C (i_ (kf m n)):=by
 obtain⟨a,h1,h2,h3⟩:=c;obtain⟨b,h4,h5,e⟩:=d;rw[<- h2,<- h5];exact HA C u v a b h3 e h1 h4
theorem MW (C:Mem)(c:NineC C u m)(d:NineC C v n)(e:m<B9 ^ k)(f:n<B9 ^ k)(i:k<=1000000):Pur cx.P 220 [u,v] C λw D=>NineC D w (m+n):=by
 obtain⟨a,h1,h2,h3,h4⟩:=c.get e;obtain⟨b,h5,g,j,h⟩:=d.get f;rw[<- h2,<- g];exact OC C u v a b h4 h h1.1 h5.1 om_ om_
theorem vi (C:Mem)(c:NineC C u m)(d:NineC C v n)(e:m<B9 ^ k)(i:n<=m)(j:k<=1000000):Pur cx.P 222 [u,v] C λw D=>NineC D w (m-n):=by
 obtain⟨a,h1,h2,h3,h4⟩:=c.get e;obtain⟨b,h5,f,g⟩:=d;rw[<- h2,<- f];refine K8 C u v a b h4 g h1.1 h5.1 om_ ?_ om_;rcases SP a.length b.length with h|h
 .have:=vm h1.1 h5 h;omega
 exact h
theorem Gq (C:Mem)(c:NineC C u m)(d:NineC C v n)(e:m<B9 ^ k)(f:n<B9 ^ k)(i:k<=1000000):Pur cx.P 190 [u,v] C λw D=>NineC D w (m*n):=by
 obtain⟨a,h1,h2,h3,h4⟩:=c.get e;obtain⟨b,h5,g,j,h⟩:=d.get f;rw[<- h2,<- g];exact J5 C u v a b h4 h h1.1 h5.1 om_ om_
theorem wV (C:Mem)(a:Dig9 l)(b:Sl C 1 u (l.map cY)):Pur cx.P 252 [u] C λw D=>NineC D w (bB l) :=
 (Ch C u l b).mono λ_c _d _e _ ⟨h1,h2⟩=>⟨h1,F5 l,iR a,iQ l,h2⟩
theorem zQ (C:Mem){d:Nat}(a:NineC C u m)(f:m<B9 ^ k)(g:d<B9)(p:k<=999999):Pur cx.P 279 [u,.int .u64 d] C λw D=>NineC D w (m*d):=by
 obtain⟨A,n,c,rfl⟩:=a.form;refine V7 func279 10 U3 λw0=>U0 1 [0,1] U<|U1 2 U λR h=>Wq [cY d] U12 λq _ _ i=>Ws (wV _ (l:=[d]) (λx j=>by rw[SD.1 j];exact g) i) U7 fl_ λr _ _ o=>Ws (Gq (k:=k+1) _ a.m_ o (dK f om_) (by show d+B9*0<_;rw[TB];have:0<B9 ^ k:=UQ dc_;have h2:=SY B9 this;omega) om_) U7 fl_ λs _ _ b=>C6 1 [4] h U<|V6 U2<|⟨U, ?_⟩;have e:bB [d]=d:=by show d+B9*0=d;omega
 rw[e]at b;exact b
open Go Go.Jog Go.RowKit Go.Shelf
attribute [local go_sem] Oper.semAt_some
set_option maxRecDepth 100000 in
theorem Mi (l Bs b off len cap:Nat)(zs:Nat->Int)(hlen:len<1000000)(J:Nat->World->Prop)
  (hJ:∀k W,J k W->W.cell? ⟨Bs,0,none⟩=some (.slice (some ⟨b,off,none⟩) len cap)/\∀j,j<len->W.cell? ⟨b,off+j,none⟩=some (.int .u64 (zs j)))
  (hY:∀k W,J k W->k<len->YieldAt Fence.wide 1 Tryz.prog l #[i_ ((len-1-k:Nat):Int),.int .u64 (zs (len-1-k))] W λe W'=>e=.returned (.bool true)/\J (k+1) W')
  (W:World) (h0:J 0 W) :
  CallsIn Fence.wide 2 Tryz.prog 297 #[.func (.yield l) #[] #[],p_ Bs] W λe W'=>(∃v,e=.returned v)/\J len W':=by
 refine callsIn_of_wp func297 U trivial ?_ U;simp only[Tryz.ntmps297,T5,SC,SZ,Nat.reduceAdd,Nat.reduceSub,VQ,VR,List.push_toArray,List.append_toArray,Un,Ub];have hBs:=(hJ 0 W h0).1
 gi_wp2
 gi_loopw [3] (λi wr=>∃k:Nat,k<=len/\i=i_ ((len:Int)-1-k)/\J k wr) (λi _=>(intOf i+1).toNat)
 case atStart=>exact⟨0,Sm _,by simp,h0⟩
 case round =>
  obtain⟨k,hk,rfl,hJs⟩:=hrel;obtain⟨hB2,hcx⟩:=hJ k wr hJs;by_cases hlt:k<len
  .obtain⟨fn,tmps,assign,body,hy,hR⟩:=hY k wr hJs hlt;have hcx':=hcx (len-1-k) om_;have e1:((len-1-k:Nat):Int)=(len:Int)-1-k:=by omega
   rw[e1]at hy
   gi_wp2
   refine hR.mono ?_;rintro e W3 ⟨rfl,hJ3⟩
   gi_wp2
   go_roundw
   case rel=>exact⟨k+1,by omega,by congr 1;omega,hJ3⟩
   case measure=>simp[intOf];omega
  obtain rfl:k=len:=by omega
  gi_wp2
  go_end0
  exact⟨⟨_,U⟩,hJs⟩
set_option maxRecDepth 100000 in
theorem zk (l Bs:Nat)(A:Option Addr)(cap:Nat)(J:Nat->World->Prop)(W:World)(hBs:W.cell? ⟨Bs,0,none⟩=some (.slice A 0 cap))(h0:J 0 W) :
  CallsIn Fence.wide 2 Tryz.prog 297 #[.func (.yield l) #[] #[],p_ Bs] W λe W'=>(∃v,e=.returned v)/\J 0 W':=by
 refine callsIn_of_wp func297 U trivial ?_ U;simp only[Tryz.ntmps297,T5,SC,SZ,Nat.reduceAdd,Nat.reduceSub,VQ,VR,List.push_toArray,List.append_toArray,Un,Ub]
 gi_wp2
 gi_loopw [3] (λi wr=>i=i_ (-1)/\J 0 wr) (λ_ _=>0)
 case atStart=>exact⟨rfl,h0⟩
 case round =>
  obtain⟨rfl,hJs⟩:=hrel
  gi_wp2
  go_end0
  exact⟨⟨_,U⟩,hJs⟩
def Ju (xs:List Nat):List (Value × Value):=(List.range xs.length).map λk=>(.int .i64 ((xs.length-1-k:Nat):Int),.int .u64 ((xs.getD (xs.length-1-k) 0:Nat):Int))
theorem gi (a:List Nat):(Ju a).length=a.length:=by simp[Ju]
theorem wi {a:List Nat}(h:k<a.length):(Ju a)[k]?=some (i_ ((a.length-1-k:Nat):Int),.int .u64 ((a.getD (a.length-1-k) 0:Nat):Int)):=by
 simp[Ju,h]
theorem uf (C:Mem)(b t:Nat)(v:Value)(a:List Nat)(q:C b=some (.cells ⟨[v]⟩ t (0,0)))(r:Sl C 1 v (a.map λn:Nat=>[Value.int .u64 (n:Int)]))(s:a.length<1000000) :
  RB Tryz.prog 297 #[p_ b] C (Ju a):=by
 intro l J W e D u h0;obtain⟨A,d,rfl,E,_,_,f⟩:=r;rw[au] at *;have g:∀{W:World}{k:Nat},J k W->W.cell? ⟨b,0,none⟩=some (.slice A a.length d):=fun {W k} c=>by
  simp[World.cell?,e k W c b _ q]
 rw[gi];rcases Tx a.length with h|h
 .have h1:=g h0;rw[h]at h1⊢;exact zk l b A d J W h1 h0
 obtain⟨w,rfl,i,_⟩:=f 0 _ (ah (by simpa using h));obtain⟨m,x,F⟩:=w;simp only at i;subst i;refine Mi l b m x a.length d (λj=>((a.getD j 0:Nat):Int)) s J (λk W c=>⟨g c,λj y=>?_⟩) (λk W c z=>u k _ W c (wi z)) W h0;have h3:(a.map λn:Nat=>[Value.int .u64 (n:Int)])[j]?=some [Value.int .u64 ((a.getD j 0:Nat):Int)]:=by
  simp[y]
 obtain⟨a2,h4,_,h5⟩:=f j _ h3;cases h4
 have o:=h5 0 _ rfl;rw[Addr.add_lit]at o;obtain⟨_,blk,G,fz,p,B⟩:=o;simp only at p;simp only[World.cell?,e k W c m _ p];simpa using B
theorem D8 (C:Mem)(A:Option Addr)(n c:Nat):Pur cx.P 254 [.slice A n c] C λr a=>∃b,r=.func (.func 297) #[] #[p_ b]/\a b=some (.cells ⟨[.slice A n c]⟩ 271 (0,0)):=by
 exact V7 func254 4 U3 λw0=>V3 λR d=>Wi U6 λf=>C6 1 [1] d U<|U0 2 [2] U<|G.freeze 0 U λg h e=>V6 U2<|⟨U,_,U,e⟩
abbrev qW (b n c:Nat):Value:=.slice (some ⟨b,0,none⟩) n c
theorem qS (q:Rat):q.num<0 ↔ q<0:=by
 have:=Rat.num_nonneg (q:=q);rw[<- Rat.not_le,<- this];omega
theorem tG (C:Mem)(s:Str)(c:UInt8):Gives cx.P 232 [ae s,.int .u8 c.toNat] C (i_ (Lib.indexByte s c)):=by
 have h:=Gives.ofCalls (f:=232) (args:=[ae s,.int .u8 c.toNat]) (P:=cx.P) kr_ (λw=>Any.stringslite_IndexByte Tryz.idxByte ⟨s.toArray⟩ (c.toNat:Int) w) C;simpa using h
theorem Im (C:Mem)(s:Str)(c:UInt8):Gives cx.P 275 [ae s,ae [c]] C (i_ (Lib.indexByte s c)):=by
 refine V7 func275 143 U3 λw0=>U0 1 [0,1] U<|U0 3 [0,1,5] U<|U1 6 U λR a=>Wy U8<|C6 1 [0,1,5,16] a U<|G.cd (λb=>?_) λb=>?_
 .refine U0 1 [4] U<|V6 U2<|⟨?_,U⟩;have h:([c]:Str)=s:=by simpa using b
  subst h;simp[Lib.indexByte]
 refine U0 3 [0,1,5,24] U<|G.cd (λd=>?_) λd=>?_
 .exact U1 2 U λR a=>WE U8 (λ_=>⟨by omega,(rfl:([c]:Str)[(0:Int).toNat]?=some c)⟩) U2<|Wb (tG _ s c) U7<|C6 1 [4] a U<|V6 U2<|⟨U,U⟩
 exact absurd d al
theorem Ps (C:Mem)(s:Str)(c:UInt8)(g:s.length<1000000):Gives cx.P 223 [ae s,ae [c]] C (.tuple #[ae (je c s).1,ae ((je c s).2.getD []),.bool (je c s).2.isSome]):=by
 refine V7 func223 23 U3 λw0=>U0 3 [0,1] U<|U1 2 U λR b=>Wb (Im _ s c) U7<|C6 1 [0,1,7] b U<|U0 2 [0,1,7,12] U<|G.cd (λd=>?_) λd=>?_
 .have h0:0<=Lib.indexByte s c:=by simpa using d
  obtain⟨a,post,h1,h2,h3⟩:=vS h0;have h:s.length=a.length+1+post.length:=by rw[h2];simp;omega
  rw[h1,h3];refine Wn [0,1,2,3,4,5,6,7,8,9,10,11] [] U kr_ λR i b=>V4 2 U<|WQ 0 a.length U9 (λ_=>⟨.inl ⟨U,U⟩,.inr ⟨_,U⟩,.inl ⟨U,U⟩,by omega,by omega,Sg _⟩) U2<|V4 4 U<|Wx (((a.length+1:Nat):Int)) U4 al om_ om_ U2<|WQ (a.length+1) s.length U9 (λ_=>⟨.inr ⟨_,U⟩,.inl ⟨U,U⟩,.inl ⟨U,U⟩,by omega,Sg _,Sg _⟩) U2<|C6 3 [4,5,6] b U<|Wd (G.dropAll (WP U4 ?_));refine⟨?_,U⟩;have e:(s.take a.length).drop 0=a:=by rw[h2];simp
  have f:(s.take s.length).drop (a.length+1)=post:=by rw[Ss,h2];simp
  rw[e,f];rfl
 have h0:¬ 0<=Lib.indexByte s c:=by simpa using d
 rw[rN h0];refine U0 4 [4,5,6] U<|Wd (G.dropAll (WP U4 ?_));exact⟨U,U⟩
theorem Nl (C:Mem)(s:Str)(c:UInt8)(a:s.length<1000000):Gives cx.P 159 [ae s,ae [c]] C (.tuple #[ae (je c s).1,ae ((je c s).2.getD []),.bool (je c s).2.isSome]):=by
 refine V7 func159 13 U3 λw0=>U0 3 [0,1] U<|U1 2 U λR b=>Wb (Ps _ s c a) U7<|C6 6 [4,5,6] b U<|Wd (G.dropAll (WP U4 ?_));exact⟨U,U⟩
theorem AJ (C:Mem)(s:Str)(c:UInt8):Gives cx.P 294 [ae s,ae [c]] C (.bool (cA c s).2):=by
 refine V7 func294 18 U3 λw0=>U0 1 [0,1] U<|U1 9 U λR d=>WQ 0 1 U9 (λe=>⟨.inl ⟨U,U⟩,.inr ⟨_,U⟩,.inl ⟨U,U⟩,by omega,(by have h:decide ((1:Int)<=(s.length:Int))=true:=e.1;simp at h;omega),Sg _⟩) U2<|V4 2 U<|Wr U8<|C6 1 [4] d U<|V6 U2<|⟨?_,U⟩;cases s with
|nil=>rfl
|cons b s =>
  have h1:decide ((1:Int)<=((b::s).length:Nat))=true:=by simp;omega
  unfold cA;by_cases a:b=c
  .subst a;simp;omega
  simp[a]
theorem LX (C:Mem)(s:Str)(c:UInt8):Gives cx.P 276 [ae s,ae [c]] C (.tuple #[ae (cA c s).1,.bool (cA c s).2]):=by
 refine V7 func276 15 U3 λw0=>U0 2 [0,1] U<|U1 2 U λR d=>Wb (AJ _ s c) U7<|C6 1 [0,1,9] d U<|G.cd (λa=>?_) λa=>?_
 .have h:¬ s.head?=some c:=λh=>by unfold cA at a;rw[aK h]at a;cases a
  refine U0 3 [4,5] U<|Wd (G.dropAll (Wu U3 ?_));unfold cA;rw[aF h];exact⟨U,U⟩
 have h:s.head?=some c:=SQ λh=>by unfold cA at a;rw[aF h]at a;cases a
 have e:1<=s.length:=by cases s with
 |nil=>cases h
 |cons b s=>simp
 refine U1 3 U λR d=>WQ 1 s.length U9 (λ_=>⟨.inr ⟨_,U⟩,.inl ⟨U,U⟩,.inl ⟨U,U⟩,by omega,Sg _,Sg _⟩) U2<|C6 2 [4,5] d U<|Wd (G.dropAll (Wu U3 ?_));unfold cA;rw[aK h];refine⟨?_,U⟩;rw[Ss,List.drop_one];rfl
theorem I9 (C:Mem)(s:Str)(c:UInt8):Gives cx.P 224 [ae s,ae [c]] C (.tuple #[ae (cA c s).1,.bool (cA c s).2]):=by
 refine V7 func224 11 U3 λw0=>U0 2 [0,1] U<|U1 2 U λR a=>Wb (LX _ s c) U7<|C6 4 [4,5] a U<|Wd (G.dropAll (Wu U3 ?_));exact⟨U,U⟩
structure Tabs (C:Mem):Prop where
 pow : VarC cx.P C "internal/strconv.uint64pow10" (Lib.pow10Tab.map λz => Value.int .u64 z).toArray
 db : VarC cx.P C "math/bits.deBruijn64tab" (Lib.deBruijn64tab.map λz : Nat => Value.int .u8 (z : Int)).toArray
theorem Tabs.mono {C D:Mem}(h:Tabs C)(a:C.le D):Tabs D:=⟨h.pow.mono a,h.db.mono a⟩
theorem Tabs.m_ {D:Mem}(h:Tabs C)(a:C.le D:=by exact mup):Tabs D:=Tabs.mono h a
theorem M7 (C:Mem)(a:Tabs C)(n:Int)(b:-9223372036854775808<=n)(c:n<=9223372036854775807):Gives cx.P 169 [i_ n] C (ae (Lib.itoa n)) :=
 O0 Tryz.itoa n b c C a.pow kr_
structure FV where
 b:Bool
 A:Option Addr
 n:Nat
 c:Nat
 A2:Option Addr
 n2:Nat
 c2:Nat
theorem split_fn (C:Mem)(s:Str):Gives cx.P 172 [ae s] C (.tuple #[.bool (cA 45 s).2,ae (cA 45 s).1]):=by
 refine V7 func172 17 U3 λw0=>U0 2 [0] U<|U0 2 [4] U<|U1 5 U λR c=>WE (b:=s.headD 0) U8 (λd=>⟨by omega,(by
  cases s with
 |nil=>exact Bool.noConfusion (show false=true from d.1)
 |cons b s=>rfl)⟩) U2 ?_
 refine V2 U6<|Wr U8<|V5 [4,13] c U<|G.cd (λa=>?_) λa=>?_
 .have hh:s.head?=some 45:=by
   cases s with
  |nil=>cases a
  |cons b s =>
    have h1:b=45:=by
     refine Vr.1 ?_;show b.toNat=45;simp at a;omega
    rw[h1];rfl
  have e:1<=s.length:=by cases s with
  |nil=>cases hh
  |cons b s=>simp
  refine Wn [0,1,2,3] [] U kr_ λR f c=>V2 U6<|WQ 1 s.length U9 (λ_=>⟨.inr ⟨_,U⟩,.inl ⟨U,U⟩,.inl ⟨U,U⟩,by omega,Sg _,Sg _⟩) U2<|C6 2 [2,3] c U<|Wd (G.dropAll (Wu U3 ?_));unfold cA;rw[aK hh];refine⟨?_,U⟩;rw[Ss,List.drop_one];rfl
 have hh:¬ s.head?=some 45:=by
  cases s with
 |nil=>simp
 |cons b s =>
   intro h;have h1:b=45:=by simpa using h
   subst h1;simp at a
 refine U0 3 [2,3] U<|Wd (G.dropAll (Wu U3 ?_));unfold cA;rw[aF hh];exact⟨U,U⟩
def jI (s:Str):Bool:=(cA 45 s).1.all dX && !((cA 45 s).1 == []) && !((cA 45 s).1.head? == some 48 && ((cA 45 s).2 || decide (1<(cA 45 s).1.length)))
theorem Mf (C:Mem)(s:Str)(u:s.length<1000000):Gives cx.P 236 [ae s] C (.bool (jI s)):=by
 obtain⟨t,neg,g⟩:∃t b,cA 45 s=(t,b):=⟨_,_,rfl⟩;have D:t.length<1000000:=by
  have:t=(cA 45 s).1:=by rw[g]
  rw[this];unfold cA;split
  .simp;omega
  exact u
 have j:jI s=(t.all dX && !(t == []) && !(t.head? == some 48 && (neg || decide (1<t.length)))):=by unfold jI;rw[g]
 refine V7 func236 43 U3 λw0=>U0 1 [0] U<|U1 1 U λR a=>Wc (by have h:=split_fn C s;rw[g]at h;exact h) U7 fl_<|C6 5 [3,4] a U<|U0 1 [3,4,5] U<|G.loop (λfr E v w=>∃(i:Nat),(i<=t.length/\∀c∈t.take i,dX c=true)/\fr=[(3,[],.bool neg),(4,[],ae t),(5,[],i_ i)]/\v=[]/\w=t.length-i) (hn_ [3,4,5] U) ⟨0,⟨Sm _,by simp⟩,U,U,U⟩ (λfr F H m _ y=>?_);obtain⟨i,⟨I,k⟩,rfl,rfl,rfl⟩:=y;refine U0 4 [3,4,5,14] U<|G.cd (λl=>?_) λl=>?_
 .have n:i<t.length:=by simpa using l
  obtain⟨c,e⟩:∃c,t[i]?=some c:=⟨t[i],ah n⟩;refine U1 2 U λR a=>WE U8 (λ_=>⟨by omega,e⟩) U2<|V4 4 U<|WE U8 (λ_=>⟨by omega,e⟩) U2<|V2 U6<|Wy U8<|V5 [3,4,5,26] a U<|G.cd (λo=>?_) λo=>?_
  .have p:jI s=false:=by
    have h1:t.all dX=false:=by
     rw[UJ];refine⟨c,aJ e, ?_⟩;simp at o;unfold dX;simp;omega
    rw[j,h1];rfl
   exact U0 1 [2] U<|V6 U2<|⟨by rw[p],U⟩
  have z:dX c=true:=by
   simp at o;unfold dX;simp;omega
  refine U1 1 U λR a=>V8 _ U U6<|C6 1 [3,4,5] a U<|We (m':=t.length-(i+1)) om_ mup (hn_ [3,4,5] U) ⟨i+1,⟨by omega,λx q=>by
   rw[SH,e]at q;rcases Sx.1 q with h|h
   .exact k x h
   simp at h;subst h;exact z⟩,rfl,rfl,rfl⟩
 have n:t.length<=i:=by
  have:¬ i<t.length:=by simpa using l
  omega
 rw[SL n]at k;have r:t.all dX=true:=SA.2 k;refine U1 5 U λR a=>WE (b:=t.headD 0) U8 (λA=>⟨by omega,(by
  cases t with
 |nil=>exact Bool.noConfusion (show true=false from A.1)
 |cons b t=>rfl)⟩) U2 ?_
 refine V4 7 U<|Wy U8<|Wr U8<|Wy U8<|V5 [42] a U<|G.cd (λd=>?_) λd=>?_
 .have p:jI s=false:=by
   rw[j,r];cases t with
  |nil=>rfl
  |cons b t =>
    simp at d;rcases d with h|h
    .omega
    have f:b=48:=Vr.1 (by have h1:=h.1;show b.toNat=48;omega);subst f;rcases h.2 with h2|h2
    .simp[h2]
    have h3:t≠[]:=by rintro rfl;simp at h2
    simp[S7.2 h3]
  exact U0 1 [2] U<|V6 U2<|⟨by rw[p],U⟩
 have B:jI s=true:=by
  rw[j,r];cases t with
 |nil=>simp at d
 |cons b t =>
   simp at d;simp;by_cases f:b=48
   .subst f;have:=d.2;simp at this;exact .inr ⟨this.1,S9 om_⟩
   exact .inl f
 exact U0 1 [2] U<|V6 U2<|⟨by rw[B],U⟩
def bT (s:Str):Bool:=jI s && decide ((cA 45 s).1.length<=200)
theorem xI (C:Mem)(s:Str)(b:s.length<1000000):Gives cx.P 179 [ae s] C (.bool (bT s)):=by
 refine V7 func179 17 U3 λw0=>U0 1 [0] U<|U1 1 U λR a=>Wb (split_fn _ s) U7<|C6 5 [0,4] a U<|U1 1 U λR a=>Wb (Mf _ s b) U7<|V4 4 U<|Wr U8<|C6 1 [2] a U<|V6 U2<|⟨?_,U⟩;unfold bT;congr 2;rw[S8];show(((cA 45 s).1.length:Nat):Int)<=200 ↔ _;omega
theorem mH (C:Mem)(s:Str)(c:UInt8):Gives cx.P 170 [ae s,.int .u8 c.toNat] C (i_ (Lib.indexByte s c)):=by
 exact V7 func170 8 U3 λw0=>U0 1 [0,1] U<|U1 2 U λR a=>Wb (tG _ s c) U7<|C6 1 [4] a U<|V6 U2<|⟨U,U⟩
theorem ye (C:Mem)(s:Str)(f:s.length<1000000):Gives cx.P 109 [ae s] C (.tuple #[ae (je 47 s).1,ae ((je 47 s).2.getD [49])]):=by
 refine V7 func109 17 U3 λw0=>U0 2 [0] U<|U1 1 U λR b=>Wb (mH _ s 47) U7<|C6 1 [0,4] b U<|U0 2 [0,4,8] U<|G.cd (λc=>?_) λc=>?_
 .have h0:¬ 0<=Lib.indexByte s 47:=by
   have:Lib.indexByte s 47<0:=by simpa using c
   omega
  rw[rN h0];refine U0 3 [2,3] U<|Wd (G.dropAll (Wu U3 ?_));exact⟨U,U⟩
 have h0:0<=Lib.indexByte s 47:=by
  have:¬ Lib.indexByte s 47<0:=by simpa using c
  omega
 obtain⟨a,post,h1,h2,h3⟩:=vS h0;have g:s.length=a.length+1+post.length:=by rw[h2];simp;omega
 rw[h1,h3];refine Wn [0,1,2,3,4,5,6,7,8] [] U kr_ λR h b=>V4 2 U<|WQ 0 a.length U9 (λ_=>⟨.inl ⟨U,U⟩,.inr ⟨_,U⟩,.inl ⟨U,U⟩,by omega,by omega,Sg _⟩) U2<|V4 2 U<|Wx (((a.length+1:Nat):Int)) U4 om_ om_ om_ U2<|WQ (a.length+1) s.length U9 (λ_=>⟨.inr ⟨_,U⟩,.inl ⟨U,U⟩,.inl ⟨U,U⟩,by omega,Sg _,Sg _⟩) U2<|C6 2 [2,3] b U<|Wd (G.dropAll (Wu U3 ?_));refine⟨?_,U⟩;have d:(s.take a.length).drop 0=a:=by rw[h2];simp
 have e:(s.take s.length).drop (a.length+1)=post:=by rw[Ss,h2];simp
 rw[d,e];rfl
theorem DQ (C:Mem)(v:Value)(l:List Nat)(d:Sl C 1 v (l.map aW)):Pur cx.P 233 [v] C λu f=>Sl f 1 u ((yR l).map aW):=by
 obtain⟨o,c0,rfl,p,_⟩:=id d;simp only[au]at d p⊢;refine V7 func233 21 U3 λw0=>U0 1 [0] U<|G.loop (λfr f q r=>∃(k:Nat)(A:Option Addr)(c:Nat),(k<=l.length/\Sl f 1 (.slice A k c) ((l.take k).map aW)/\Fw l l.length=Fw l k)/\fr=[(0,[],.slice A k c)]/\q=[]/\r=k+1) (hn_ [0] U) ⟨l.length,o,c0,⟨Sg _,by rw[Ss];exact d,U⟩,U,U,U⟩ (λfr E F m _ s=>?_);obtain⟨k,A,c,⟨H,hs,ht⟩,rfl,rfl,rfl⟩:=s;obtain⟨_,I,t,w,_⟩:=id hs;have J:=mx_
 have K:k<=c:=by
  rw[au,Sy]at w;injection t with h1 h2 h3;omega
 have x:0<k->((l.take k).map aW)[((k:Int)-1).toNat]?=some (aW (gP l (k-1))):=λh=>by
  rw[show((k:Int)-1).toNat=k-1 by omega,Sh,Tb,aK om_,ah (by omega:k-1<l.length)];unfold gP;rw[ak,ah (by omega:k-1<l.length)];rfl
 refine U1 7 U λR g=>V8 _ U U6<|D.index U10 (λi=>⟨hs,(by have h:decide ((0:Int)<(k:Int))=true:=i.1;simp at h;omega),x (by have h:decide ((0:Int)<(k:Int))=true:=i.1;simp at h;omega)⟩) fl_ U λL y=>Wv U6 y U3<|V2 U6<|Wr U8<|V5 [0,14] g U<|G.cd (λb=>?_) λb=>?_
 .have a:0<k/\gP l (k-1)=0:=by
   have:(0:Int)<(k:Int)/\((gP l (k-1):Nat):Int)=0:=by simpa using b
   omega
  refine U1 3 U λR g=>Wx (((k-1:Nat):Int)) U4 om_ om_ om_ U2<|WN 0 (k-1) c U12 (λ_=>⟨.inl ⟨U,U⟩,.inr ⟨_,U⟩,.inl ⟨U,U⟩,by omega,by omega,Sg _⟩) U2<|C6 1 [0] g U ?_;have n:=Sl.sub hs (l:=0) (h:=k-1) (m:=c) (Sm _) am om_ (Sg _);have z:(((l.take k).map aW).take (k-1)).drop 0=(l.take (k-1)).map aW:=by
   rw[Tt,<- Us,Ve,Tj om_]
  rw[z]at n;have B:Fw l l.length=Fw l (k-1):=by
   rw[ht];obtain⟨j,rfl⟩:∃j,k=j+1:=⟨k-1,by omega⟩;simp only[Uy]at a⊢;rw[Fw,aK];unfold gP at a;rw[ak,ah om_]at a;rw[ah om_];exact congrArg some a.2
  refine We (m':=k-1+1) om_ mup (hn_ [0] U) ⟨k-1,_,c,⟨by omega,n.mono mup,B⟩,U,U,U⟩
 have a:¬ (0<k/\gP l (k-1)=0):=λhh=>by
  have h1:(decide ((0:Int)<(k:Int)) && (((gP l (k-1):Nat):Int) == 0))=true:=by
   rw[hh.2];simp;omega
  rw[h1]at b;cases b
 refine U0 2 [2] U<|V6 U2<|⟨U, ?_⟩;have e:Fw l k=k:=by
  cases k with
 |zero=>rfl
 |succ j =>
   simp only[Uy]at a;rw[Fw,aF];intro h;refine a ⟨by omega, ?_⟩;unfold gP;rw[ak,h];rfl
 unfold yR;rw[ht,e];exact hs
theorem vR (C:Mem)(v:Value)(l:List Nat)(b:l.length=n):Jog.Fn cx.P 233 [v] C [.arr v 3 1 n (l.map aW).flatten] λu a c=>c=[]/\Sl a 1 u ((yR l).map aW) :=
 Jog.Fn.give (l.map aW) kr_ (by intro r hr;obtain⟨y,_,rfl⟩:=Sn.1 hr;rfl) (by rw[au,b]) (λa _ hs=>DQ a v l hs)
def PieC (C:Mem)(v:Value)(n:Nat):Prop:=∃l,BM l/\bq l=n/\Sl C 1 v (l.map aW)
theorem Da (C:Mem)(s t:Value)(a b:List Nat)(d:Sl C 1 s (a.map aW))(f:Sl C 1 t (b.map aW))(n:BM a)(o:BM b):Gives cx.P 176 [s,t] C (.bool (decide (bq a<bq b))):=by
 have Q:=mx_
 obtain⟨A,c0,rfl,B,S,_⟩:=id d;obtain⟨D,E,rfl,F,T,_⟩:=id f;simp only[au]at d f B F⊢;refine V7 func176 41 U3 λw0=>U0 1 [0,1] U<|U0 5 [0,1,10] U<|G.cd (λg=>?_) λg=>?_
 .have V:a.length≠b.length:=λe=>by
   rw[e]at g;simp at g
  refine U0 6 [4] U<|V6 U2<|⟨?_,U⟩;congr 1;rw[S8];rcases SP a.length b.length with h|h
  .have:=H8 n.1 o h;constructor
   .intro _;exact this
   intro _;omega
  have:=H8 o.1 n om_;constructor <;> intro _ <;> omega
 have p:a.length=b.length:=by
  have:(a.length:Int)=b.length:=by simpa using g
  omega
 refine U1 2 U λR c=>V8 _ U U6<|C6 1 [0,1,5] c U<|G.loop (λfr W H I=>∃(k:Nat),(k<=a.length/\a.drop k=b.drop k)/\fr=[(0,[],.slice A a.length c0),(1,[],.slice D b.length E),(5,[],i_ ((k:Int)-1))]/\H=[]/\I=k+1) (hn_ [0,1,5] U) ⟨a.length,⟨Sg _,by rw[Ty,p,Ty]⟩,U,U,U⟩ (λfr X Y m _ J=>?_);obtain⟨k,⟨Z,i⟩,rfl,rfl,rfl⟩:=J;refine U0 2 [0,1,5,20] U<|G.cd (λq=>?_) λq=>?_
 .have u:0<k:=by
   have:(0:Int)<=(k:Int)-1:=by simpa using q
   omega
  obtain⟨j,rfl⟩:∃j,k=j+1:=⟨k-1,by omega⟩;obtain⟨x,l⟩:∃x,a[j]?=some x:=⟨a[j],ah om_⟩;obtain⟨y,hy⟩:∃y,b[j]?=some y:=⟨b[j],ah om_⟩;have v:(a.map aW)[(((j+1:Nat):Int)-1).toNat]?=some (aW x):=by
   rw[show(((j+1:Nat):Int)-1).toNat=j by omega,Sh,l];rfl
  have w:(b.map aW)[(((j+1:Nat):Int)-1).toNat]?=some (aW y):=by
   rw[show(((j+1:Nat):Int)-1).toNat=j by omega,Sh,hy];rfl
  refine Wn [0,1,2,3,4,5,6,7,8] [] U kr_ λR K c=>V4 2 U<|Wf d.m_ U10 om_ v fl_ λaa L=>V1 L U8<|V4 2 U<|Wf f.m_ U10 om_ w fl_ λab M=>V1 M U8<|C6 1 [0,1,5,31] c U<|G.cd (λr=>?_) λr=>?_
  .have z:x≠y:=λe=>by
    subst e;simp at r
   refine Wn [0,1,2,3,4,5,6,7,8,9] [] U kr_ λR K c=>V4 2 U<|Wf d.m_ U10 om_ v fl_ λac N=>V1 N U8<|V4 2 U<|Wf f.m_ U10 om_ w fl_ λad O=>V1 O U8<|C6 2 [4] c U<|V6 U2<|⟨?_,U⟩;congr 1;rw[S8];rcases SP x y with h|h
   .have:=Np n.1 p l hy h i;constructor
    .intro _;exact this
    intro _;omega
   have:=Np o.1 p.symm hy l om_ i.symm;constructor <;> intro _ <;> omega
  have z:x=y:=by
   have:(x:Int)=y:=by simpa using r
   omega
  refine U1 1 U λR c=>V8 _ U U6<|C6 1 [0,1,5] c U ?_;rw[show((j+1:Nat):Int)-1-1=(j:Int)-1 by omega];refine We (m':=j+1) om_ mup (hn_ [0,1,5] U) ⟨j,⟨by omega,by
   rw[SN (by omega:j<a.length),SN (by omega:j<b.length),i,(aT.1 l).2,(aT.1 hy).2,z]⟩,rfl,rfl,rfl⟩
 have u:k=0:=by
  have:¬ (0:Int)<=(k:Int)-1:=by simpa using q
  omega
 subst u;refine U0 1 [4] U<|V6 U2<|⟨?_,U⟩;have:a=b:=by simpa using i
 subst this;simp
theorem I7 {s:Str}{a:Nat}{c:UInt8}(d:a<=i)(b:s[i]?=some c):bS (ii s a (i+1))=10*bS (ii s a i)+(c.toNat-48):=by
 have f:=(aT.1 b).1;have e:ii s a (i+1)=ii s a i++[c]:=by
  unfold ii;rw[SH,b,TE,Vf,Sy,Tj om_,show a-i=0 by omega];rfl
 rw[e];unfold bS;rw[List.foldl_append];rfl
theorem LV (s:Str)(a:Nat):ii s a a=[]:=by
 unfold ii;rw[List.drop_eq_nil_iff,Sy];omega
theorem NN (C:Mem)(s:Str)(g:∀c∈s,dX c=true)(L:s.length<=100000):Pur cx.P 173 [ae s] C λu D=>PieC D u (bS s):=by
 refine V7 func173 35 U3 λw0=>U0 1 [0] U<|U0 1 [0,3] U<|U0 3 [0,3,4] U<|G.nilArr 3 1<|G.loop (λfr B d k=>∃(e j:Nat)(b:Int)(out:List Nat)(w:Value),((b=e/\e+4*j=s.length∨b<=0/\e=0)/\-4<=b/\b<=100000/\e<=s.length/\out.length=j/\j<=100000/\DigP out/\bq out=bS (s.drop e))/\fr=[(0,[],ae s),(3,[],w),(4,[],.int .i64 b)]/\d=[.arr w 3 1 j (out.map aW).flatten]/\k=e+1) (hn_ [0,3,4] U) ⟨s.length,0,(s.length:Int),[],_,⟨.inl ⟨U,U⟩,by omega,by omega,Sg _,U,by omega,(λx E=>(by cases E)),by rw[Ty];rfl⟩,U,U,U⟩ (λfr M N m _ l=>?_);obtain⟨e,j,b,out,w,⟨q,O,Q,S,n,T,r,t⟩,rfl,rfl,rfl⟩:=l;refine U0 2 [0,3,4,10] U<|G.cd (λf=>?_) λf=>?_
 .obtain⟨rfl,F⟩:b=e/\e+4*j=s.length:=by
   have h0:0<b:=by simpa using f
   rcases q with h|h
   .exact h
   omega
  have v:0<e:=by
   have h0:(0:Int)<(e:Int):=by simpa using f
   omega
  refine U0 1 [0,3,4,5] U<|U1 1 U λR a=>V8 _ U U6<|D.max (((e-4:Nat):Int)) U6 om_ U2<|C6 1 [0,3,4,5,6] a U ?_;rw[show(Value.int .i64 0)=.int .i64 ((bS (ii s (e-4) (e-4)):Nat):Int) by rw[LV];rfl];refine G.loop (λfr B d k=>∃(i:Nat),(e-4<=i/\i<=e)/\fr=[(0,[],ae s),(3,[],w),(4,[],.int .i64 (e:Int)),(5,[],.int .i64 (bS (ii s (e-4) i):Nat)),(6,[],.int .i64 i)]/\d=[.arr w 3 1 j (out.map aW).flatten]/\k=e-i) (hn_ [0,3,4,5,6] U) ⟨e-4,⟨Sg _,by omega⟩,U,U,U⟩ (λfr V W m _ l=>?_);obtain⟨i,⟨H,X⟩,rfl,rfl,rfl⟩:=l;refine U0 3 [0,3,4,5,6,18] U<|G.cd (λo=>?_) λo=>?_
  .have y:i<e:=by simpa using o
   obtain⟨c,p⟩:∃c,s[i]?=some c:=⟨s[i]'om_,ah _⟩;have z:=g c (aJ p);have Y:48<=c.toNat/\c.toNat<=57:=by unfold dX at z;simpa using z
   have Z:bS (ii s (e-4) i)<10000:=I8 g om_;refine U1 1 U λR a=>Wx (((10*bS (ii s (e-4) i):Nat):Int)) U4 om_ om_ om_ U2<|V4 2 U<|WE U8 (λ_=>⟨by omega,p⟩) U2<|WG (c:=((c.toNat:Nat):Int)) U8 f_ fl_<|Wx (((10*bS (ii s (e-4) i)+c.toNat:Nat):Int)) U4 om_ om_ om_ U2<|Wx (((10*bS (ii s (e-4) i)+(c.toNat-48):Nat):Int)) U4 om_ om_ om_ U2<|C6 1 [0,3,4,5,6] a U<|U1 1 U λR a=>V8 _ U U6<|C6 1 [0,3,4,5,6] a U ?_;rw[<- I7 H p];refine We (m':=e-(i+1)) om_ mup (hn_ [0,3,4,5,6] U) ⟨i+1,⟨by omega,by omega⟩,U,U,U⟩
  have y:i=e:=by
   have:¬ i<e:=by simpa using o
   omega
  subst y;refine U1 2 U λR a=>Wq [aW (bS (ii s (i-4) i))] U12 λaa _ _ I=>D.append (j:=0) U11 I U ax (by show(j+1)*8<=_;omega) fl_ λA=>C6 1 [0,3,4] a U<|U1 1 U λR a=>V8 _ U U6<|C6 1 [0,3,4] a U<|Wk (L':=[.arr A 3 1 (j+1) ((out++[bS (ii s (i-4) i)]).map aW).flatten]) (by simp[aW])<|We (m':=i-4+1) om_ mup (hn_ [0,3,4] U) ⟨i-4,j+1,(i:Int)-4,out++[bS (ii s (i-4) i)],A,⟨by
   rcases SP i 4 with h|h
   .exact .inr ⟨by omega,by omega⟩
   exact .inl ⟨by omega,by omega⟩,by omega,by omega,by omega,by simp[n],by omega,r.snoc (I8 g om_),Gr F n om_ t⟩,U,U,U⟩
 have v:e=0:=by
  have h0:¬ 0<b:=by simpa using f
  rcases q with h|h
  .omega
  exact h.2
 refine Wt [(1,3)] U λR a=>V2 U6<|D.call (vR _ _ out n) U (.inr dc_) U6 (Sp _) fl_ (λab _ ac _ J=>?_);obtain⟨rfl,K⟩:=J;refine C6 1 [2] a U<|V6 U2<|⟨U,yR out,mU r, ?_,K⟩;rw[iP,t,v,Tt]
theorem Ii (C:Mem)(a:Tabs C)(n:Nat)(h:n<=1000000000000000000):Gives cx.P 169 [i_ n] C (ae (bh n)):=by
 have h1:=M7 C a (n:Int) om_ om_
 rwa [Lt]at h1
theorem fZ (C:Mem)(a:Tabs C)(z:Int)(b:-9223372036854775808<=z)(c:z<=9223372036854775807):Gives cx.P 169 [i_ z] C (ae (txt z)):=by
 have h:=M7 C a z b c
 rwa [Ls]at h
theorem O1 (C:Mem)(a:Tabs C)(x:Nat)(b:x<10000):Gives cx.P 169 [i_ (10000+x:Nat)] C (ae (49::nl 4 x)):=by
 have h:=Ii C a (10000+x) om_
 rwa [tenK b]at h
theorem dT (h:n<10 ^ k)(a:0<k):(bh n).length<=k:=by
 apply SQ;intro b;have h1:=pq (bA n).1 om_;rw[(bA n).2]at h1;have h2:10 ^ k<=10 ^ ((bh n).length-1):=SJ dc_ om_;omega
theorem vQ (h:DigP l):(bh (bq l)).length<=4*l.length+1:=by
 refine dT ?_ om_;have h1:=nt h;rw[<- MU]at h1;have h2:10 ^ (4*l.length)<=10 ^ (4*l.length+1):=SJ dc_ om_;omega
theorem ja (h:k<l.length):(l.map aW)[k]?=some (aW (gP l k))/\l[k]?=some (gP l k):=by
 have e:l[k]?=some (gP l k):=by
  unfold gP;rw[ak,ah h];rfl
 exact⟨by rw[Sh,e];rfl,e⟩
theorem Iz (C:Mem)(e:Tabs C)(v:Value)(l:List Nat)(b:Sl C 1 v (l.map aW))(f:BM l)(M:l.length<=100000):Gives cx.P 234 [v] C (ae (bh (bq l))):=by
 obtain⟨r,c0,rfl,_⟩:=id b;simp only[au]at b⊢;have hd:=f.1;refine V7 func234 34 U3 λw0=>U0 1 [0] U<|U0 3 [0,8] U<|G.cd (λc=>?_) λc=>?_
 .have h0:l=[]:=by
   have:(l.length:Int)=0:=by simpa using c
   exact S9 om_
  refine U0 1 [2] U<|V6 U2<|⟨?_,U⟩;rw[h0,show bh (bq [])=[48] by rw[bh];rfl];rfl
 have h0:0<l.length:=by
  have:¬ (l.length:Int)=0:=by simpa using c
  omega
 have s:(l.map aW)[((l.length:Int)-1).toNat]?=some (aW (gP l (l.length-1))):=by rw[show((l.length:Int)-1).toNat=l.length-1 by omega];exact(ja om_).1
 have t:gP l (l.length-1)<10000:=ID hd _;have u:bq (l.drop (l.length-1))=gP l (l.length-1):=by
  rw[SN om_,Vj om_];have h1:=(ja (l:=l) (k:=l.length-1) om_).2;rw[(aT.1 h1).2];simp[bq]
 have w:0<gP l (l.length-1):=by
  have h1:=(ja (l:=l) (k:=l.length-1) om_).2;have h2:=f.2;rw[Uz,h1]at h2;rcases Tx (gP l (l.length-1)) with h|h
  .rw[h]at h2;exact absurd rfl h2
  exact h
 refine U1 3 U λR a=>V8 _ U U6<|Wf b.m_ U10 om_ s fl_ λN x=>V1 x U8<|Wc (Ii _ e.m_ (gP l (l.length-1)) om_) U7 fl_<|C6 1 [0,3] a U<|U1 2 U λR a=>V8 _ U U6<|C6 1 [0,3,4] a U ?_;rw[show(l.length:Int)-2=((l.length-1:Nat):Int)-1 by omega];refine G.loop (λfr O y z=>∃(k:Nat)(o:Str),(k<l.length/\wE o/\bS o=bq (l.drop k)/\0<bS o/\o.length<=25+4*(l.length-k))/\fr=[(0,[],.slice r l.length c0),(3,[],ae o),(4,[],i_ ((k:Int)-1))]/\y=[]/\z=k+1) (hn_ [0,3,4] U) ⟨l.length-1,bh (gP l (l.length-1)),⟨by omega,(bA _).1,by rw[(bA _).2,u],by rw[(bA _).2];exact w,by
  have h2:=dT (k:=4) (n:=gP l (l.length-1)) t om_;omega⟩,rfl,rfl,rfl⟩ (λfr Q S m _ A=>?_)
 obtain⟨k,o,⟨T,g,i,B,V⟩,rfl,rfl,rfl⟩:=A;refine U0 2 [0,3,4,20] U<|G.cd (λd=>?_) λd=>?_
 .have p:0<k:=by
   have:(0:Int)<=(k:Int)-1:=by simpa using d
   omega
  obtain⟨j,rfl⟩:∃j,k=j+1:=⟨k-1,by omega⟩;rw[show((j+1:Nat):Int)-1=(j:Int) by omega];obtain⟨D,E⟩:=ja (l:=l) (k:=j) om_;have q:=ID hd j;have F:gP l j<10000:=q;have H:=(lf 4 (gP l j) q).1;refine U1 2 U λR a=>Wf b.m_ U10 om_ D fl_ λW I=>V1 I U8<|Wx (((10000+gP l j:Nat):Int)) U4 om_ om_ om_ U2<|Wb (O1 _ e.m_ _ F) U7<|C6 1 [0,3,4,5] a U<|U1 2 U λR a=>WQ 1 (49::nl 4 (gP l j)).length U9 (λ_=>⟨.inr ⟨_,U⟩,.inl ⟨U,U⟩,.inl ⟨U,U⟩,by simp,Sg _,Sg _⟩) U2<|WS U6 (λ_=>(by simp only[Uj,Sy,SC];omega)) U2<|C6 1 [0,3,4] a U<|U1 1 U λR a=>V8 _ U U6<|C6 1 [0,3,4] a U ?_;rw[Ss,List.drop_one,List.tail_cons];obtain⟨J,K,L⟩:=Iy hd E g i B;refine We (m':=j+1) om_ mup (hn_ [0,3,4] U) ⟨j,o++nl 4 (gP l j),⟨by omega,J,K,L,by rw[So,H];omega⟩,U,U,U⟩
 have p:k=0:=by
  have:¬ (0:Int)<=(k:Int)-1:=by simpa using d
  omega
 subst p;refine U0 2 [2] U<|V6 U2<|⟨?_,U⟩;rw[pr g,i,Tt]
def sgZ (m:Bool)(n:Nat):Int:=if m then -(n:Int) else n
theorem Cc (m:Bool)(n:Nat)(h:m=true->0<n):txt (sgZ m n)=if m then 45::bh n else bh n:=by
 unfold txt sgZ;cases m with
|false=>simp
|true=>have:=h rfl;simp;omega
theorem nN (C:Mem)(e:Tabs C)(m:Bool)(v:Value)(l:List Nat)(i:Sl C 1 v (l.map aW))(j:DigP l)(k:l.length<=100000):Gives cx.P 174 [.bool m,v] C (ae (txt (sgZ m (bq l)))):=by
 have c:=mU j;have f:(yR l).length<=100000:=by unfold yR;rw[Sy];omega
 have g:(yR l).length=0 ↔ bq l=0:=by rw[<- iP,D4 c,Vw]
 refine V7 func174 18 U3 λw0=>U0 1 [0,1] U<|U1 1 U λR a=>Wz (DQ _ _ l i) U7 (λn _ _ d=>?_);obtain⟨o,p,rfl,_⟩:=id d;rw[au]at d;rw[au];refine C6 1 [0,1] a U<|U1 5 U λR a=>Wr U8<|V5 [1,12] a U<|G.cd (λb=>?_) λb=>?_
 .have hm:m=true/\0<bq l:=by
   simp at b;refine⟨b.1, ?_⟩;have h2:=b.2;rcases Tx (bq l) with h|h
   .have:=g.2 h;omega
   exact h
  refine U1 1 U λR a=>Wb (Iz _ e.m_ _ (yR l) d.m_ c f) U7<|WS U6 (λ_=>(by have:=vQ c.1;simp only[SC,SZ];omega)) U2<|C6 1 [4] a U<|V6 U2<|⟨?_,U⟩;rw[Cc m _ (λ_=>hm.2),aK hm.1,iP];rfl
 have hm:m=true->bq l=0:=λh=>by
  rcases Tx (yR l).length with h0|h0
  .exact g.1 h0
  exfalso;have h1:decide ((0:Int)<((yR l).length:Nat))=true:=SB om_;rw[h,h1]at b;cases b
 refine U1 1 U λR a=>Wb (Iz _ e.m_ _ (yR l) d.m_ c f) U7<|C6 1 [4] a U<|V6 U2<|⟨?_,U⟩;rw[iP];congr 1;cases m with
|false=>rw[Cc false _ (λh=>by cases h)];rfl
|true=>rw[hm rfl];rfl
end Go.Proofs.YtfjcldheldflbaaGreatDoor
