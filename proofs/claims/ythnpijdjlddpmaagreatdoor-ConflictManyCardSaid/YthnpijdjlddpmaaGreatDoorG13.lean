/- Laws that the proofs of this seat share, part 13. -/
import Derived.Test.YthnpijdjlddpmaaGreatDoorG12
import Derived.Test.YthnpijdjlddpmaaGreatDoorShelf
import Derived.Shelf.SlSortCmp.NoneTotal
import Derived.Shelf.Sort.Plain
import Derived.Shelf.Slices.In.SortNone
import Derived.Shelf.Strings.Split
import Derived.Shelf.Slices.Delete
import Derived.Lib.AppendZeros
set_option maxHeartbeats 4000000
namespace Go.Proofs.YthnpijdjlddpmaaGreatDoor
open Tryz
open Go Go.Jog
set_option maxRecDepth 100000
variable {n:Nat}{rows:List RowQ}
def Wl (D:Int)(q:Rat):Prop:=∃ z:Int,q*(D:Rat)=(z:Rat)/\z.natAbs<=999999999
def RowI (r:RowQ):Prop:=∃ D:Int,D≠0/\D.natAbs<=999999999/\(∀ q∈r.f,Wl D q)/\Wl D r.b
def jM (rows:List RowQ):List (List Rat × Rat):=rows.map fun r=>(r.f,r.b)
theorem Wl.zero (D:Int):Wl D 0:=⟨0,by grind,by decide⟩
theorem rz {i:Nat}(h:i<rows.length):(jM rows).getD i ([],0)=(rows[i].f,rows[i].b):=by
 unfold jM;rw [ak,LU,aj h];rfl
theorem F8 {d:Nat->Rat}(i:n<=12)(h:∀ r∈rows,RowI r)(k:∃ D:Int,D≠0/\D.natAbs<=999999999/\∀ j,j<n->Wl D (d j)):Lp.Lim (ek n (jM rows)) d 16:=by
 have l:∀ r:Nat,∃ D:Int,∀ hr:r<rows.length,D≠0/\D.natAbs<=999999999/\(∀ q∈rows[r].f,Wl D q)/\Wl D rows[r].b:=fun r=>by
  by_cases hr:r<rows.length
  ·obtain ⟨D,c⟩:=h rows[r] (MP hr);exact ⟨D,fun _=>c⟩
  ·exact ⟨0,fun h=>absurd h hr⟩
 obtain ⟨D,c⟩:=Classical.axiomOfChoice l;obtain ⟨o,p,c2,s⟩:=k;have hm:(ek n (jM rows)).m=rows.length:=ax _;refine ⟨⟨D,999999999,o,by decide,⟨fun r hr=>?_,fun r j hr g=>?_,fun r hr=>?_⟩,⟨p,c2⟩,fun j g=>?_, ?_⟩⟩
 ·rw [hm] at hr;exact ⟨(c r hr).1,(c r hr).2.1⟩
 ·rw [hm] at hr;have e:(ek n (jM rows)).a r j=rows[r].f.getD j 0:=by show ((jM rows).getD r ([],0)).1.getD j 0=_;rw [rz hr]
  have t:Wl (D r) (rows[r].f.getD j 0):=by
   rw [ak];cases u:rows[r].f[j]? with
   | none=>exact Wl.zero _
   | some q=>exact (c r hr).2.2.1 q (LQ u)
  obtain ⟨z,h1,h2⟩:=t;exact ⟨z,by rw [e,Rat.mul_comm];exact h1,h2⟩
 ·rw [hm] at hr;have e:(ek n (jM rows)).b r=rows[r].b:=by show ((jM rows).getD r ([],0)).2=_;rw [rz hr]
  obtain ⟨z,h1,h2⟩:=(c r hr).2.2.2;exact ⟨z,by rw [e,Rat.mul_comm];exact h1,h2⟩
 ·obtain ⟨z,h1,h2⟩:=s j g;exact ⟨z,by rw [Rat.mul_comm];exact h1,h2⟩
 ·unfold Lp.bdQ Lp.bdT;have:∀ n,n<=12->(n+1)*(999999999*Lp.fctM (2*999999999) n)<B9 ^ 16:=by decide +kernel
  exact this _ i
theorem F7 (a:n<=12)(h:∀ r∈rows,RowI r):Lp.Lim (ek n (jM rows)) (fun _=>0) 16:=F8 a h ⟨1,by decide,by decide,fun _ _=>Wl.zero _⟩
end Go.Proofs.YthnpijdjlddpmaaGreatDoor
namespace Go.Jog
def bY (s:Nat):List Nat:=(List.range 5).filter fun i=>s.testBit i
def fZ (s:Nat):Nat:=(bY s).length
def IS:List Nat->List Nat->Int
 | [],[]=>0
 | [],_::_=>-1
 | _::_,[]=>1
 | x::a,y::b=>if x<y then -1 else if y<x then 1 else IS a b
def GJ (a b:Nat):Int:=if fZ a=fZ b then IS (bY a) (bY b) else (fZ a:Int)-fZ b
def Ky (x:Nat):List Nat->List Nat
 | []=>[x]
 | y::l=>if GJ x y<0 then x::y::l else y::Ky x l
def bO (n:Nat):List Nat:=(List.range (2 ^ n)).foldr Ky []
def zt (s:Nat):Nat:=(bO 5).idxOf s
theorem AH:∀ s<32,s≠0->bY s=(bY s).headD 0::bY (s &&& (s-1)):=by decide +kernel
theorem AI:∀ s<32,s≠0->(s &&& (s-1))<s:=by decide +kernel
theorem ef:∀ a<32,∀ b<32,(GJ a b<0 ↔ zt a<zt b):=by decide +kernel
theorem Fz:∀ a<32,∀ b<32,zt a=zt b->a=b:=by decide +kernel
theorem yj (x:Nat):∀ l:List Nat,(Ky x l).Perm (x::l)
 | []=>LR _
 | y::l=>by
  unfold Ky;split
  ·exact LR _
  ·exact ((yj x l).cons y).trans (List.Perm.swap _ _ _)
theorem qu:∀ l:List Nat,(l.foldr Ky []).Perm l
 | []=>LR _
 | x::l=>(yj x _).trans ((qu l).cons x)
theorem kV (n:Nat):(bO n).Perm (List.range (2 ^ n)):=qu _
theorem Fk:∀ n<6,(bO n).Pairwise fun a b=>zt a<zt b:=by decide +kernel
theorem eJ {n s:Nat}(h:s∈bO n):s<2 ^ n:=Me.1 ((kV n).mem_iff.1 h)
theorem nq (n:Nat):(bO n).length=2 ^ n:=by rw [(kV n).length_eq,MJ]
theorem tZ {n:Nat}(a:n<6):2 ^ n<=32:=by
 have:∀ n<6,2 ^ n<=32:=by decide
 exact this n a
theorem tJ {n:Nat}(g:n<6){l:List Nat}(i:l.Perm (List.range (2 ^ n)))(j:l.Pairwise fun x y=>¬ GJ y x<0):l=bO n:=by
 have o:=tZ g;have k:∀ x∈l,x<32:=fun x m=>by have:=Me.1 (i.mem_iff.1 m);omega
 refine (i.trans (kV n).symm).eq_of_pairwise (le:=fun a b=>¬ GJ b a<0) (fun a b e f h1 h2=>?_) j ((Fk n g).imp_of_mem fun {a b} e f h=>?_)
 ·have c:=k a e;have d:b<32:=by have:=eJ f;omega
  rw [ef b d a c] at h1;rw [ef a c b d] at h2;exact Fz a c b d om_
 ·have c:a<32:=by have:=eJ e;omega
  have d:b<32:=by have:=eJ f;omega
  rw [ef b d a c];omega
def fe (h:Nat->Bool)(f:List Nat)(s:Nat):List Nat:=if (f.any fun x=>x &&& s == x) || h s then f else f++[s]
def dP (h:Nat->Bool)(l:List Nat):List Nat:=l.foldl (fe h) []
def kL (h:Nat->Bool)(f:List Nat)(s:Nat):List Nat:=if (f.head?.elim false fun x=>decide (fZ x<fZ s)) || !h s then f else f++[s]
def nE (h:Nat->Bool)(l:List Nat):List Nat:=l.foldl (kL h) []
theorem uB {a c:Type}{f:c->a->c}{b:c}{l:List a}{i:Nat}{s:a}(d:l[i]?=some s):(l.take (i+1)).foldl f b=f ((l.take i).foldl f b) s:=by
 rw [List.take_add_one,d,List.foldl_append];rfl
theorem Ea (h:Nat->Bool)(f:List Nat)(s:Nat):∃ t,fe h f s=f++t:=by
 unfold fe;split
 ·exact ⟨[],by simp⟩
 ·exact ⟨[s],Z⟩
theorem uI (h:Nat->Bool):∀ (l f:List Nat),∃ t,l.foldl (fe h) f=f++t
 | [],f=>⟨[],by simp⟩
 | s::l,f=>by
  obtain ⟨a,b⟩:=Ea h f s;obtain ⟨c,d⟩:=uI h l (fe h f s);exact ⟨a++c,by rw [M8,d,b,Mo]⟩
theorem tT {h:Nat->Bool}{f:List Nat}{x:Nat}(a:f.head?=some x):∀ l:List Nat,(∀ s∈l,fZ x<fZ s)->l.foldl (kL h) f=f
 | [],_=>rfl
 | s::l,b=>by
  have e:kL h f s=f:=by
   unfold kL;rw [a];have:=b s (aF ..);simp [this]
  rw [M8,e];exact tT a l fun s hs=>b s (LW _ hs)
theorem oF {h:Nat->Bool}:∀ (l f:List Nat){x:Nat},x∈l.foldl (fe h) f->x∈f∨x∈l
 | [],f,x,a=>.inl a
 | s::l,f,x,a=>by
  rcases oF l (fe h f s) a with h1 | h1
  ·unfold fe at h1;split at h1
   ·exact .inl h1
   ·rcases Mh.1 h1 with h2 | h2
    ·exact .inl h2
    ·rw [Mn.1 h2];exact .inr aF
  ·exact .inr (LW _ h1)
theorem oG {h:Nat->Bool}:∀ (l f:List Nat),(l.foldl (fe h) f).length<=f.length+l.length
 | [],f=>LP _
 | s::l,f=>by
  have h1:=oG (h:=h) l (fe h f s);have h2:(fe h f s).length<=f.length+1:=by
   unfold fe;split
   ·omega
   ·rw [LZ];exact LP _
  rw [M8,Ml];omega
theorem Hm:∀ n<6,(bO n).Pairwise fun a b=>fZ a<=fZ b:=by decide +kernel
end Go.Jog
namespace Go.Jog
open Go Go.Proofs Go.Shelf
section
variable {α:Type} [Inhabited α]
theorem Gh {a:Type}[Inhabited a](c:a->Value)(w:World)(m b:Nat)(F:Array a)(h:Array Obj){d:Array Value}{e:TypeId}{f:Nat × Nat}(g:w.heap[b]?=some (.cells d e f)) :
  (Sort.grow (Sort.putRow c (Sort.ahead w m) b 0 F) h).heap[b]?=some (.cells (Sort.putCells c 0 F d) e f):=by
 have i:=bW g;rw [Sort.heap_grow_old _ _ (by simpa [Sort.ahead] using i)];simp [Sort.putRow,Sort.mapBlock,Sort.ahead,N2,g,Sort.onCells]
theorem jv {a:Type}[Inhabited a](c:a->Value)(w:World)(m b:Nat)(F:Array a)(d:Array Obj){q:Nat}(e:q<w.heap.size)(f:q≠b) :
  (Sort.grow (Sort.putRow c (Sort.ahead w m) b 0 F) d).heap[q]?=w.heap[q]?:=by
 rw [Sort.heap_grow_old _ _ (by simpa [Sort.ahead] using e)];simp [Sort.putRow,Sort.mapBlock,Sort.ahead,N2,Ne.symm f]
theorem rI {b:Type}[Inhabited b](d:b->Value)(F:Array b)(c:Array Value)(h:F.size<=c.size):(Sort.putCells d 0 F c).toList.take F.size=F.toList.map d:=by
 apply List.ext_getElem?;intro q;rw [Mz];split
 ·rename_i a;simp only [Sort.putCells,Array.getElem?_toList,Array.getElem?_mapIdx,LU,LV,M6,true_and,a,Ny,Od];rw [Array.getElem?_eq_getElem (by omega:q<c.size),Array.getElem?_eq_getElem a];simp [a]
 ·rename_i a;rw [LX (by simp;omega)]
theorem St.sorted {c:Type}[Inhabited c](b:c->Value){C:Mem}{w:World}{e s n g a m:Nat}{d:List Value}(j:Sep C [.arr (.slice (some ⟨g,0,none⟩) n a) e s n d] w)(F:Array c)(f:F.size=n*s)(i:Array Obj) :
  St w C [.arr (.slice (some ⟨g,0,none⟩) n a) e s n d] C [.arr (.slice (some ⟨g,0,none⟩) n a) e s n (F.toList.map b)] (Sort.grow (Sort.putRow b (Sort.ahead w m) g 0 F) i):=by
 have l:w.ownsRow 0 e s (.slice (some ⟨g,0,none⟩) n a) n d:=j.e _ (aF ..);obtain ⟨_,h1,h2,o,p,k,_⟩:=cG l;have r:n*s<=a*s:=MG _ h1;refine St.turn (St.start j) ⟨by simpa using f,.inr ⟨g,a,_,Z,LV _,Gh b w m g F i p,h1,h2,by simpa [Sort.putCells] using k, ?_⟩⟩ ⟨Z,Z,Z,by simp [Sort.ahead],fun q t u=>jv b w m g F i t (fun h=>u (by simp [Value.ownBlock,h]))⟩ ?_ (.inl Z)
 ·rw [<- f];exact rI b F o (by rw [f,k];exact r)
 ·show w.drawn<=w.drawn+m;omega
theorem zR {w a:World}{C c:Mem}(h:St w C [] c [] a):∃ q os,a=Sort.grow (w.drewN q) os:=by
 refine ⟨a.drawn-w.drawn,(a.heap.toList.drop w.heap.size).toArray, ?_⟩;have h1:a.heap=w.heap++(a.heap.toList.drop w.heap.size).toArray:=by
  apply Array.ext_getElem?;intro k;rw [Array.getElem?_append];split
  ·rename_i b;exact h.ev.block k b (fun ⟨x,d,_⟩=>by cases d)
  ·rename_i b;simp only [MQ,List.getElem?_drop,Array.getElem?_toList];congr 1;omega
 have h2:w.drawn+(a.drawn-w.drawn)=a.drawn:=by have:=h.ev.drawn;omega
 obtain ⟨i,j,l,m,op⟩:=a;have e:=h.ev.os;have f:=h.ev.tape;have g:=h.ev.output;simp only at h1 h2 e f g;simp only [Sort.grow,World.drewN];congr 1
 ·exact h2.symm
end
section
variable {P:Program} {ρ:Ren}
theorem Iv {a:Type}[Inhabited a]{l:List a}{d:Array a}(h:Sort.PermIn 0 l.toArray.size l.toArray d):d.toList.Perm l:=by
 obtain ⟨h1,_,h3⟩:=h;have b:d.extract 0 l.toArray.size=d:=by apply Ni;rw [<- h1];simp
 have c:l.toArray.extract 0 l.toArray.size=l.toArray:=by apply Ni;simp
 rw [b,c] at h3;simpa using h3
theorem BI {a:Type}[Inhabited a]{b:a->a->Bool}{d:Array a}(h:Sort.SortedIn b 0 d.size d):d.toList.Pairwise fun x y=>b y x=false:=by
 rw [List.pairwise_iff_getElem];intro i j e c f;have:=h i j (LV _) f (by simpa using c);rw [getElem!_pos d j (by simpa using c),getElem!_pos d i (by simpa using e)] at this;simpa using this
end
end Go.Jog
namespace Go.Jog
open Go Go.Proofs Go.Shelf
section
variable {P:Program} {ρ:Ren}
theorem zf {α:Type}[Inhabited α](G:SlLaysF.n6 P ρ)(a:α->Value)(d:∀ x,nT (a x)=true)(p:α->α->Int)(N:Sort.SWO (ltOf p))(g:FuncId)(i:List Value)(C:Mem)
  (O:∀ x y C',C.le C'->Gives P g ([a x,a y]++i) C' (.int .i64 (p x y))) (v:Value) (e:TypeId) (l:List α) (Q:l.length<4611686018427387904) (R:Enters P (ρ.f 6)=true) (S:Enters P g=true) :
  Fn P (ρ.f 6) [v,.func (.func g) #[] ⟨i⟩] C [.arr v e 1 l.length (l.map a)] fun u _ad H=>∃ s:List α,u=.tuple #[]/\H=[.arr v e 1 l.length (s.map a)]/\s.Perm l/\s.Pairwise (fun x y=>ltOf p y x=false):=by
 refine ⟨R,fun w r=>?_⟩;have T:w.ownsRow 0 e 1 v l.length (l.map a):=r.e _ (aF ..);rcases T.2 with ⟨rfl,U⟩ | ⟨b,V,t,rfl,_,z,h2,h3,h4,h5⟩
 ·have W:l=[]:=MA U;subst W;refine (AnyF.slices_SortFunc_none ({ G with }:SlLaysF0.n6 P ρ) none 0 (.func (.func g) #[] ⟨i⟩) w).mono fun I w' ⟨d,h2⟩=>?_;subst h2;exact ⟨_,C,_,d,St.start r,[],Z,Z,LR _,List.Pairwise.nil⟩
 ·have X:b<w.heap.size:=bW z;have Y:Sort.Holds a w b 0 l.toArray:=by
   intro j A;simp only [NG] at A;have J:j<t.size:=by omega
   have B:(l.map a)[j]?=some t[j]:=by
    rw [<- h5,Mz,aI om_,Array.getElem?_toList,Array.getElem?_eq_getElem J]
   rw [LU,aj A] at B;simp only [Nt,Mq] at B;refine ⟨?_, ?_⟩
   ·rw [M6,cell_of_row w b j t e (0,0) z,getElem!_pos l.toArray j (by simpa using A)];rw [Array.getElem?_eq_getElem J,<- B];simp
   ·simp [World.frozen?,z]
  have aa:CmpLays1 P g ⟨i⟩ a p b 0 l.toArray.size w:=by
   intro m os dk ae x y;have hW:Sep C [] (sortWorld a w b 0 m dk os):=⟨fun q o D=>by
     have K:=r.c q o D;unfold sortWorld;rw [jv a w m b _ os (bW K) (fun h=>by
      subst h;have:=r.n q ⟨_,aF ..,rfl⟩;rw [this] at D;cases D)]
     exact K,fun x E=>(by cases E),List.Pairwise.nil,fun k ⟨x,E,_⟩=>(by cases E)⟩
   have ea:(#[a x,a y]++(⟨i⟩:Array Value))=([a x,a y]++i).toArray:=by apply Ni;simp
   rw [ea];refine ((O x y C (Mem.le.refl _)).2 _ hW).mono fun I w' ⟨u,C',H,d,h2,h3,h4⟩=>?_;subst h3;subst h4;exact ⟨d,zR h2⟩
  have ab:=Any.slices_SortFunc G a (fun x=>iq (d x)) p N g ⟨i⟩ b 0 V l.toArray w (fun args w=>eo S args w) aa Y X (by simpa using Q);refine ab.mono fun I w' ⟨d,F,m,os,L,hs,ac⟩=>?_;subst ac;have M:F.size=l.length:=by simpa using L.1
  have hS:=St.sorted (m:=m) a r F (by simp [M]) os;exact ⟨_,C,_,d,hS,F.toList,Z,Z,Iv L,BI (by rw [M];simpa using hs)⟩
end
end Go.Jog
namespace Go.Jog
open Go
theorem RC {P:Program}{f:FuncId}{b:List Value}{C:Mem}{t s n:Nat}{a:List (List Value)}(d:∀ r∈a,r.length=s)(g:a.length=n)(h:Fn P f b C [] fun u _ c=>c=[.arr u t s n a.flatten]) :
  Pur P f b C fun u D=>Sl D s u a:=⟨h.1,fun w i=>(h.2 w i).mono fun e w' ⟨v,C',c,j,hs,k⟩=>by
 subst k;obtain ⟨l,h1,h2,h3⟩:=St.freezeArr hs d g;exact ⟨v,l,[],j,h3,Z,h2⟩⟩
end Go.Jog
namespace Go.Proofs.YthnpijdjlddpmaaGreatDoor
open Tryz
open Go Go.Jog
set_option maxRecDepth 100000
variable {p:Lp.Sys}{s:Nat}{t:Lp.Tab}{u:Value}{z:Nat}
theorem rj (h:z<18446744073709551616):IntKind.u64.wrap ((z:Nat):Int)=(z:Int):=by
 simp only [IntKind.wrap,IntKind.bits,IntKind.signed];simp;omega
theorem K6 (h:z<9223372036854775808):IntKind.i64.wrap ((z:Nat):Int)=(z:Int):=by
 simp only [IntKind.wrap,IntKind.bits,IntKind.signed];simp;omega
def o1 (s:Nat):Nat:=(s / 2 ^ 1 &&& 6148914691236517205)+(s &&& 6148914691236517205)
def o2 (s:Nat):Nat:=(s / 2 ^ 2 &&& 3689348814741910323)+(s &&& 3689348814741910323)
def o3 (s:Nat):Nat:=(s / 2 ^ 4+s) &&& 1085102592571150095
def o4 (s:Nat):Nat:=s+s / 2 ^ 8
def o5 (s:Nat):Nat:=s+s / 2 ^ 16
def o6 (s:Nat):Nat:=s+s / 2 ^ 32
theorem o_bd:∀ s<32,o1 s<1000/\o2 (o1 s)<1000/\o2 (o1 s) / 2 ^ 4+o2 (o1 s)<1000/\o3 (o2 (o1 s))<1000/\o4 (o3 (o2 (o1 s)))<1000/\o5 (o4 (o3 (o2 (o1 s))))<1000/\o6 (o5 (o4 (o3 (o2 (o1 s)))))<1000/\o6 (o5 (o4 (o3 (o2 (o1 s))))) &&& 127=fZ s:=by decide +kernel
theorem CQ (C:Mem)(s:Nat)(b:s<32):Gives cx.P 74 [.int .u64 s] C (.int .i64 (fZ s:Int)):=by
 obtain ⟨h1,h2,h3,h4,h5,e,f,d⟩:=o_bd s b;exact Ph func74 35 U3 fun w0=>C6 1 [0] Z<|O7 1 Z fun R a=>Qe (s) (1) U8 dc_ U2<|Qa (s / 2 ^ 1) (6148914691236517205) U8 om_ om_ U2<|Pa U6<|Qa (s) (6148914691236517205) U8 om_ om_ U2<|D.int (((o1 s:Nat):Int)) U4 (rj (by show o1 s<_;omega)) U2<|C4 1 [0] a Z<|O7 1 Z fun R a=>Qe (o1 s) (2) U8 dc_ U2<|Qa (o1 s / 2 ^ 2) (3689348814741910323) U8 om_ om_ U2<|Pa U6<|Qa (o1 s) (3689348814741910323) U8 om_ om_ U2<|D.int (((o2 (o1 s):Nat):Int)) U4 (rj (by show o2 (o1 s)<_;omega)) U2<|C4 1 [0] a Z<|O7 1 Z fun R a=>Qe (o2 (o1 s)) (4) U8 dc_ U2<|Pa U6<|D.int (((o2 (o1 s) / 2 ^ 4+o2 (o1 s):Nat):Int)) U4 (rj om_) U2<|Qa (o2 (o1 s) / 2 ^ 4+o2 (o1 s)) (1085102592571150095) U8 om_ om_ U2<|C4 1 [0] a Z<|O7 2 Z fun R a=>Qe (o3 (o2 (o1 s))) (8) U8 dc_ U2<|D.int (((o4 (o3 (o2 (o1 s))):Nat):Int)) U4 (rj (by show o4 (o3 (o2 (o1 s)))<_;omega)) U2<|C4 1 [0] a Z<|O7 2 Z fun R a=>Qe (o4 (o3 (o2 (o1 s)))) (16) U8 dc_ U2<|D.int (((o5 (o4 (o3 (o2 (o1 s)))):Nat):Int)) U4 (rj (by show o5 (o4 (o3 (o2 (o1 s))))<_;omega)) U2<|C4 1 [0] a Z<|O7 2 Z fun R a=>Qe (o5 (o4 (o3 (o2 (o1 s))))) (32) U8 dc_ U2<|D.int (((o6 (o5 (o4 (o3 (o2 (o1 s))))):Nat):Int)) U4 (rj (by show o6 (o5 (o4 (o3 (o2 (o1 s)))))<_;omega)) U2<|C4 1 [0] a Z<|O7 1 Z fun R a=>PS (c:=((o6 (o5 (o4 (o3 (o2 (o1 s))))):Nat):Int)) U8 (K6 om_) fl_<|Rp (o6 (o5 (o4 (o3 (o2 (o1 s)))))) (127) Z Z Z Z Z Z Z Z om_ om_ Z Z<|C4 1 [2] a Z<|Pf U2<|⟨by rw [d],Z⟩
theorem rQ (C:Mem)(s:Nat)(b:s<32):Gives cx.P 39 [.int .u64 s] C (.int .i64 (fZ s:Int)):=by
 refine Ph func39 8 U3 fun w0=>C6 1 [0] Z<|O9 (fun a=>?_) fun a=>?_
 ·cases a
 ·exact O7 1 Z fun R c=>Pn (CQ _ s b) U7<|C4 1 [2] c Z<|Pf U2<|⟨Z,Z⟩
theorem GC:∀ s<32,s≠0->Lib.ctz 64 s=(bY s).headD 0:=by decide +kernel
theorem JK (C:Mem)(a:Tabs C)(s:Nat)(b:s<32)(c:s≠0):Gives cx.P 75 [.int .u64 s] C (.int .i64 (((bY s).headD 0:Nat):Int)):=by
 rw [<- GC s b c];exact K9 Tryz.tz s om_ C kr_ a.db kr_
theorem uu (C:Mem)(a:Int):Gives cx.P 172 [.int .i64 a] C (.bool false):=by
 exact Ph func172 6 U3 fun w0=>C6 1 [0] Z<|C6 4 [2] Z<|Pf U2<|⟨by simp,Z⟩
theorem wk (C:Mem)(a b:Int):Gives cx.P 111 [.int .i64 a,.int .i64 b] C (.int .i64 (HK a b)):=by
 refine Ph func111 20 U3 fun w0=>C6 1 [0,1] Z<|O7 1 Z fun R d=>Pn (uu _ _) U7<|C4 1 [0,1,5] d Z<|O7 1 Z fun R d=>Pn (uu _ _) U7<|C4 1 [0,1,5,6] d Z<|C6 1 [0,1,6,11] Z<|O9 (fun f=>?_) fun f=>?_
 ·cases f
 ·refine C6 1 [0,1,13] Z<|O9 (fun g=>?_) fun g=>?_
  ·cases g
  ·refine C6 3 [0,1,16] Z<|O9 (fun c=>?_) fun c=>?_
   ·refine C6 1 [4] Z<|Pf U2 ?_;simp only [LY] at c;exact ⟨by rw [HK,aI c],Z⟩
   ·refine C6 3 [19] Z<|O9 (fun e=>?_) fun e=>?_
    ·refine C6 1 [4] Z<|Pf U2 ?_;simp only [LY,Mf] at c e;exact ⟨by rw [HK,aC c,aC om_],Z⟩
    ·refine C6 1 [4] Z<|Pf U2 ?_;simp only [Mf] at c e;exact ⟨by rw [HK,aC c,aI om_],Z⟩
theorem wm (C:Mem)(v w:Value)(a b:List Nat)(l:Sl C 1 v (a.map aU))(n:Sl C 1 w (b.map aU))(L:a.length<=1000000)(_M:b.length<=1000000) :
  Gives cx.P 72 [v,w] C (.int .i64 (IS a b)):=by
 obtain ⟨A,c,rfl,_⟩:=id l;obtain ⟨B,d,rfl,_⟩:=id n;simp only [ax] at l n ⊢;refine Ph func72 36 U3 fun w0=>C6 1 [0,1] Z<|C6 3 [0,1,9,10,11] Z<|G.loop (fun fr C' z D=>∃ (k:Nat),(k<=a.length/\k<=b.length/\IS (a.drop k) (b.drop k)=IS a b)/\fr=[(0,[],.slice A a.length c),(1,[],.slice B b.length d),(9,[],.slice A a.length c),(10,[],.int .i64 a.length),(11,[],.int .i64 k)]/\z=[]/\D=a.length-k) (hn_ [0,1,9,10,11] Z) ⟨0,⟨LV _,LV _,Z⟩,Z,Z,Z⟩ (fun fr N O m _ E=>?_);obtain ⟨k,⟨Q,S,g⟩,rfl,rfl,rfl⟩:=E;refine C6 1 [0,1,9,10,11,12] Z<|O9 (fun o=>?_) fun o=>?_
 ·have h:k<a.length:=by simpa using o
  obtain ⟨x,t⟩:∃ x,a[k]?=some x:=⟨a[k],aj h⟩;have F:(a.map aU)[k]?=some (aU x):=by rw [LU,t];rfl
  have p:a.drop k=x::a.drop (k+1):=by rw [MB h,(aX.1 t).2]
  refine O7 1 Z fun R f=>Pm l.m_ U10 om_ F fl_ fun T H=>O8 H U8<|C4 2 [0,1,5,6,9,10,11] f Z<|C6 4 [0,1,5,6,9,10,11,19] Z<|O9 (fun q=>?_) fun q=>?_
  ·have i:b.length<=k:=by simpa using q
   have j:b.drop k=[]:=MY i;exact C6 1 [4] Z<|Pf U2<|⟨by rw [<- g,p,j];rfl,Z⟩
  ·have i:k<b.length:=by
    have:¬ b.length<=k:=by simpa using q
    omega
   obtain ⟨y,hy⟩:∃ y,b[k]?=some y:=⟨b[k],aj i⟩;have I:(b.map aU)[k]?=some (aU y):=by rw [LU,hy];rfl
   have j:b.drop k=y::b.drop (k+1):=by rw [MB i,(aX.1 hy).2]
   refine O7 2 Z fun R f=>Pm n.m_ U10 om_ I fl_ fun U J=>O8 J U8<|C4 1 [0,1,6,7,9,10,11] f Z<|O7 2 Z fun R f=>Pn (wk _ _ _) U7<|C4 1 [0,1,8,9,10,11] f Z<|C6 2 [0,1,8,9,10,11,28] Z<|O9 (fun r=>?_) fun r=>?_
   ·have e:HK x y≠0:=by simpa using r
    refine C6 2 [4] Z<|Pf U2<|⟨?_,Z⟩;rw [<- g,p,j];simp only [IS];unfold HK at e ⊢;by_cases h1:x<y
    ·have h3:(x:Int)<y:=by omega
     rw [aI h1,aI h3]
    ·have h3:¬ (x:Int)<y:=by omega
     rw [aC h1,aC h3];rw [aC h3] at e;by_cases h2:y<x
     ·have h4:¬ (x:Int)=y:=by omega
      rw [aI h2,aC h4]
     ·have h4:(x:Int)=y:=by omega
      rw [aI h4] at e;exact absurd Z e
   ·have e:HK x y=0:=by simpa using r
    have K:x=y:=by
     unfold HK at e;split at e
     ·cases e
     ·split at e
      ·omega
      ·cases e
    refine Pb fun R f=>Pi _ U7<|C4 1 [0,1,9,10,11] f Z<|Pk (m':=a.length-(k+1)) om_ mup (hn_ [0,1,9,10,11] Z) ⟨k+1,⟨by omega,by omega,by rw [<- g,p,j,K];simp [IS]⟩,Z,Z,Z⟩
 ·have h:k=a.length:=by
   have:¬ k<a.length:=by simpa using o
   omega
  subst h;rw [Nm] at g;refine C6 5 [35] Z<|O9 (fun s=>?_) fun s=>?_
  ·have u:a.length<b.length:=by simpa using s
   refine C6 1 [4] Z<|Pf U2<|⟨?_,Z⟩;rw [<- g,MB u];rfl
  ·have u:¬ a.length<b.length:=by simpa using s
   refine C6 1 [4] Z<|Pf U2<|⟨?_,Z⟩;rw [<- g,MY om_];rfl
theorem rZ (C:Mem)(p:Tabs C)(s:Nat)(r:s<32):Jog.Fn cx.P 41 [.int .u64 s] C [] fun u _ b=>∃ A n c,u=.slice A n c/\b=[.arr u 3 1 (bY s).length ((bY s).map aU).flatten]:=by
 have z:maxLen<=9223372036854775807:=by simp [maxLen]
 refine Ph func41 16 U3 fun w0=>C6 1 [0] Z<|C6 1 [0,3] Z<|G.nilArr 3 1<|G.loop (fun fr C' b t=>∃ (x:Nat)(q:List Nat)(d:Option Addr)(n1 e:Nat),(x<32/\q++bY x=bY s)/\fr=[(0,[],.int .u64 x),(3,[],.slice d n1 e)]/\b=[.arr (.slice d n1 e) 3 1 q.length (q.map aU).flatten]/\t=x+x) (hn_ [0,3] Z) ⟨s,[],none,0,0,⟨r,Z⟩,Z,Z,Z⟩ (fun fr B E m _ v=>?_);obtain ⟨x,q,d,n1,e,⟨f,g⟩,rfl,rfl,rfl⟩:=v;refine C6 2 [0,3,5] Z<|O9 (fun h5=>?_) fun h5=>?_
 ·have a:x≠0:=by simpa using h5
  have w:=AH x f a;have F:=AI x f a;have H:q.length<=5:=by
   have h:=congrArg List.length g;rw [LZ] at h;have:(bY s).length<=5:=No _ _;omega
  refine O7 2 Z fun R i=>Pn (JK _ p.m_ x f a) U7<|Ps [[.int .i64 (((bY x).headD 0:Nat):Int)]] U12 fun I _ _ y=>Pu (j:=0) U11 y Z (by simp only [aE,maxLen];omega) (by show (q.length+1)*8<=_;omega) fl_ fun k l o=>C4 1 [0,3] i Z<|O7 2 Z fun R i=>D.int (((x-1:Nat):Int)) U4 (by rw [show ((x:Int)-1)=((x-1:Nat):Int) by omega];exact rj om_) U2<|Qa (x) (x-1) U8 om_ om_ U2<|C4 1 [0,3] i Z<|Po (L':=[.arr (.slice k l o) 3 1 (q++[(bY x).headD 0]).length ((q++[(bY x).headD 0]).map aU).flatten]) (by rw [My,MK,LZ];rfl)<|Pk (m':=(x &&& (x-1))+(x &&& (x-1))) om_ mup (hn_ [0,3] Z) ⟨(x &&& (x-1)),q++[(bY x).headD 0],k,l,o,⟨by omega,by rw [Mo,List.singleton_append,<- w,g]⟩,Z,Z,Z⟩
 ·have a:x=0:=by simpa using h5
  subst a;refine C6 2 [2] Z<|Pl (PM Z Z ?_);exact ⟨d,n1,e,Z,by rw [<- g,show bY 0=[] from by decide,Mi]⟩
theorem ml (C:Mem)(a:Tabs C)(s:Nat)(b:s<32):Pur cx.P 41 [.int .u64 s] C fun u D=>Sl D 1 u ((bY s).map aU) :=
 RC (t:=3) (n:=(bY s).length) (fun r hr=>by
  obtain ⟨x,_,rfl⟩:=L4.1 hr;rfl) (ax _) (Fn.mono (rZ C a s b) fun u C' d _ ⟨A,n,c,h1,h2⟩=>h2)
theorem Hn (s:Nat):fZ s<=5:=No _ _
theorem Jm (C:Mem)(e:Tabs C)(a b:Nat)(f:a<32)(g:b<32):Gives cx.P 71 [.int .u64 a,.int .u64 b] C (.int .i64 (GJ a b)):=by
 have j:=Hn a;have k:=Hn b;refine Ph func71 19 U3 fun w0=>?_;refine C6 1 [0,1] Z ?_;refine O7 1 Z fun R c=>?_;refine Pn (rQ _ a f) U7 ?_;refine Pa U6 ?_;refine Pn (rQ _ b g) U7 ?_;refine Pi _ U7 ?_;refine C4 1 [0,1,5] c Z ?_;refine C6 2 [0,1,5,12] Z ?_;refine O9 (fun d=>?_) fun d=>?_
 ·have i:(fZ a:Int)-fZ b≠0:=by simpa using d
  refine C6 2 [4] Z ?_;refine Pf U2 ?_;refine ⟨?_,Z⟩;unfold GJ;rw [aC (fun h=>i (by rw [h];omega))]
 ·have i:(fZ a:Int)-fZ b=0:=by simpa using d
  refine O7 1 Z fun R c=>?_;refine PK (ml _ e.m_ a f) U7 (fun n _ _ l=>?_);refine Pa U6 ?_;refine PK (ml _ e.m_ b g) U7 (fun o _ _ m=>?_);refine Pp (wm _ _ _ _ _ l.m_ m.m_ (Md j dc_) (Md k dc_)) U7 fl_ ?_;refine C4 1 [4] c Z ?_;refine Pf U2 ?_;refine ⟨?_,Z⟩;unfold GJ;rw [aI om_]
open Go Go.Jog Go.Shelf
set_option maxRecDepth 100000
def uV (s:Nat):Value:=.int .u64 (s:Nat)
theorem HU (l:List Nat):l.map uV=(l.map bX).flatten:=(eB uV l).symm
abbrev KN:Type:={ s:Nat // s<32 }
instance:Inhabited KN:=⟨⟨0,by decide⟩⟩
theorem GI:Sort.SWO (ltOf fun (x y:KN)=>GJ x.1 y.1) where
 irrefl x:=by unfold ltOf;exact Mk (fun h=>by have:=(ef x.1 x.2 x.1 x.2).1 h;omega)
 trans x y z h1 h2:=by
  unfold ltOf at *;simp only [LY] at *;rw [ef x.1 x.2 y.1 y.2] at h1;rw [ef y.1 y.2 z.1 z.2] at h2;rw [ef x.1 x.2 z.1 z.2];omega
 ntrans x y z h1 h2:=by
  unfold ltOf at *;simp only [Mf] at *;rw [ef x.1 x.2 y.1 y.2] at h1;rw [ef y.1 y.2 z.1 z.2] at h2;rw [ef x.1 x.2 z.1 z.2];omega
theorem tK:∀ l:List Nat,(∀ s∈l,s<32)->∃ q:List KN,q.map (·.1)=l
 | [],_=>⟨[],rfl⟩
 | s::l,h=>by
  obtain ⟨q,a⟩:=tK l fun s hs=>h s (LW _ hs);exact ⟨⟨s,h s aF⟩::q,by rw [Mp,a]⟩
theorem E7 (C:Mem)(e:Tabs C)(v:Value)(n:Nat)(b:n<6) :
  Jog.Fn cx.P 70 [v,.func (.func 71) #[] #[]] C [.arr v 99 1 (2 ^ n) ((List.range (2 ^ n)).map uV)] fun u _ c=>u=.tuple #[]/\c=[.arr v 99 1 (2 ^ n) ((bO n).map uV)]:=by
 have t:=tZ b;obtain ⟨q,a⟩:=tK (List.range (2 ^ n)) fun s hs=>by have:=Me.1 hs;omega
 have g:q.length=2 ^ n:=by rw [<- ax (f:=(·.1)),a,MJ]
 have d:=zf (P:=cx.P) (α:=KN) Tryz.sortU (fun x=>uV x.1) (fun x=>rfl) (fun x y=>GJ x.1 y.1) GI 71 [] C
  (fun x y C' i=>Jm C' (e.mono i) x.1 y.1 x.2 y.2) v 99 q om_ kr_ kr_
 rw [g,show q.map (fun x:KN=>uV x.1)=(q.map (·.1)).map uV by rw [ME];rfl,a] at d;refine Fn.mono d (fun u C' c _ ⟨j,k,l,m,o⟩=>⟨k, ?_⟩);have p:(j.map (·.1)).Perm (List.range (2 ^ n)):=by rw [<- a];exact m.map _
 have r:=tJ b p (by
  rw [List.pairwise_map];refine o.imp fun {x y} h=>?_;unfold ltOf at h;exact LS h)
 rw [l,<- r,ME];rfl
theorem H6 (C:Mem)(q:Tabs C)(g n:Nat)(r s t v w:Value)(x:Option Addr)(y:Nat)(B:C g=some (.cells ⟨[r,s,t,v,.slice x n y,w]⟩ 153 (0,0)))(h:n<6) :
  Jog.Fn cx.P 38 [.pointer (some ⟨g,0,none⟩)] C [] fun u _ b=>∃ A n2 c,u=.slice A n2 c/\b=[.arr u 99 1 (2 ^ n) ((bO n).map uV)]:=by
 have J:maxLen<=9223372036854775807:=by simp [maxLen]
 have K:=tZ h;refine Ph func38 23 U3 fun w0=>C6 1 [0] Z<|C6 1 [0,3] Z<|O7 4 Z fun R a=>O8 (bkT B 1) U8<|Pa U6<|QH (n) Z Z Z Z Z Z (by first | exact .inl Z | exact .inr Z) Z om_ Z Z<|C4 1 [3,11,12] a Z<|G.nilArr 99 1<|G.loop (fun fr C' b E=>∃ (i:Nat)(d:Option Addr)(n1 e:Nat),(i<=2 ^ n)/\fr=[(3,[],.slice d n1 e),(11,[],.int .u64 ((2 ^ n:Nat):Int)),(12,[],.int .u64 i)]/\b=[.arr (.slice d n1 e) 99 1 i ((List.range i).map uV)]/\E=2 ^ n-i) (hn_ [3,11,12] Z) ⟨0,none,0,0,LV _,Z,Z,Z⟩ (fun fr L M m _ F=>?_);obtain ⟨i,d,n1,e,N,rfl,rfl,rfl⟩:=F;refine C6 1 [3,11,12,13] Z<|O9 (fun f=>?_) fun f=>?_
 ·have k:i<2 ^ n:=by
   have:=K5 f;omega
  refine C6 2 [3,4,11,12] Z<|O7 2 Z fun R a=>Ps [[uV i]] U12 fun O _ _ H=>Pu (j:=0) U11 H Z (by simp only [aE,maxLen];omega) (by show (i+1)*8<=_;omega) fl_ fun l o p=>C4 1 [3,11,12] a Z<|Pb fun R a=>D.int (((i+1:Nat):Int)) U4 (rj (z:=i+1) om_) U2<|C4 1 [3,11,12] a Z<|Po (L':=[.arr (.slice l o p) 99 1 (i+1) ((List.range (i+1)).map uV)]) (by rw [MU,My];rfl)<|Pk (m':=2 ^ n-(i+1)) om_ mup (hn_ [3,11,12] Z) ⟨i+1,l,o,p,om_,Z,Z,Z⟩
 ·have k:i=2 ^ n:=by
   have:=LS f;omega
  subst k;refine Px [(1,3)] Z fun R a=>Pa U6<|D.call (E7 _ q.m_ _ n h) Z (.inr dc_) U6 (LR _) fl_ fun Q _ S _ I=>Pd [3] a Z ?_;obtain ⟨rfl,rfl⟩:=I;refine C6 2 [2] Z<|Pl (PM Z Z ?_);exact ⟨d,n1,e,Z,Z⟩
theorem Lt {z:Int}{p:Nat}(h:s*p<=60):ofE z s p=z:=by
 unfold ofE;split
 ·rfl
 ·rename_i h2;have:z=0:=by simpa using h2
  rw [aC om_,this]
theorem D9 (C:Mem)(a:Value)(B:Bk)(z:Int)(b:BookZ C a B z)(h:bs B*bp B<=60):Gives cx.P 35 [a] C (.tuple #[.int .i64 (if z=0 then ((bs B*bp B:Nat):Int) else 0),.int .i64 z]):=by
 have h1:=GD C a B z b;rw [Lt h] at h1;exact h1
def kG (n:Nat)(l:List Int)(i:Nat):Int:=if l.getD i 0<0∨(n:Int)<=l.getD i 0 then 3 else if 0<i/\l.getD i 0<=l.getD (i-1) 0 then 6 else 0
def JD (n:Nat)(l:List Int):Int:=bQ (kG n l) l.length
theorem GM (C:Mem)(g j:Value)(B:Bk)(z:Int)(l:List Int)(w:BookZ C g B z)(K:bs B*bp B<=60)(e:Sl C 1 j (l.map wd))(X:l.length<=1000)
  (x:z=0->JD B.obs.length l=0->∀ D:Mem,C.le D->Pur cx.P 52 [g,j] D fun u _=>∃ v,u=.tuple #[v,.int .i64 0]) :
  Gives cx.P 49 [g,j] C (.int .i64 (if z≠0 then z else JD B.obs.length l)):=by
 have y:=w;obtain ⟨Y,v2,tv,cv,ov,rfl,h1,h2,h3,h4,h5⟩:=id w.i.ex;obtain ⟨A5,c5,rfl,L,aa,_⟩:=id h5;obtain ⟨A,E,rfl,M,ab,_⟩:=id e;have ac:maxLen<=9223372036854775807:=by simp [maxLen]
 simp only [ax] at h5 L y e M x ⊢;refine Ph func49 56 U3 fun w0=>Pb fun R a=>Pr U6 fun N=>C4 1 [1,2] a Z<|G.freeze 0 Z fun _ _ n=>Pb fun R a=>O8 (bkT n 5) U8<|Pn (D9 _ _ B z y.m_ K) U7<|C4 5 [1,2,6] a Z<|C6 2 [1,2,6,17] Z<|O9 (fun o=>?_) fun o=>?_
 ·have f:z≠0:=by simpa using o
  exact C6 2 [4] Z<|Pf U2<|⟨by rw [aI f],Z⟩
 ·have f:z=0:=by simpa using o
  rw [aC (fun h=>h f)];refine C6 3 [1,2,19,20,21] Z<|G.loop (fun fr C' O Q=>∃ (i:Nat),(i<=l.length/\bQ (kG B.obs.length l) i=0)/\fr=[(1,[],.slice A l.length E),(2,[],.pointer (some ⟨N,0,none⟩)),(19,[],.slice A l.length E),(20,[],.int .i64 l.length),(21,[],.int .i64 i)]/\O=[]/\Q=l.length-i) (hn_ [1,2,19,20,21] Z) ⟨0,⟨LV _,Z⟩,Z,Z,Z⟩ (fun fr ad ae m _ S=>?_);obtain ⟨i,⟨hi,c⟩,rfl,rfl,rfl⟩:=S;refine C6 1 [1,2,19,20,21,22] Z<|O9 (fun p=>?_) fun p=>?_
  ·have d:i<l.length:=by
    have:=K5 p;omega
   obtain ⟨k,F⟩:∃ k,l[i]?=some k:=⟨l[i],aj d⟩;obtain ⟨q,H⟩:∃ q,l[i-1]?=some q:=⟨l[i-1]'om_,aj om_⟩;have r:l.getD i 0=k:=by rw [ak,F,M9]
   have I:l.getD (i-1) 0=q:=by rw [ak,H,M9]
   refine O7 1 Z fun R a=>Pm e.m_ U10 om_ (ce F) fl_ fun af T=>O8 T U8<|C4 2 [1,2,7,8,19,20,21] a Z<|O7 5 Z fun R a=>PC U6 (fun _=>PtrTo.blockT (Mem.get n mup) _ 1) U3<|Pc 2 Z<|PD U8<|C4 1 [1,2,7,8,19,20,21,26] a Z<|O9 (fun s=>?_) fun s=>?_
   ·have b:kG B.obs.length l i=3:=by
     unfold kG;rw [r,aI (by simp only [Nl,LY] at s;omega)]
    exact C6 1 [4] Z<|Pf U2<|⟨by unfold JD;rw [fA c (by rw [b];decide) d,b],Z⟩
   ·have J:¬ (k<0∨(B.obs.length:Int)<=k):=by
     simp only [Nb,Mf] at s;omega
    refine O7 6 Z fun R a=>Pi _ U7<|D.index U10 (fun U=>⟨e.mono mup,(by have h:decide ((i:Int) > 0)=true:=U.1;have:=K5 h;omega),(by rw [show ((i:Int)-1).toNat=i-1 by omega];exact ce H)⟩) fl_ Z fun ag V=>PC U6 V U3<|Pa U6<|Pz U8<|C4 1 [1,2,19,20,21,36] a Z<|O9 (fun t=>?_) fun t=>?_
    ·have b:kG B.obs.length l i=6:=by
      unfold kG;rw [r,I,aC J,aI (by simp only [L3,LY] at t;omega)]
     exact C6 1 [4] Z<|Pf U2<|⟨by unfold JD;rw [fA c (by rw [b];decide) d,b],Z⟩
    ·have b:kG B.obs.length l i=0:=by
      unfold kG;rw [r,I,aC J,aC (fun h=>by simp only [OH,Mf] at t;omega)]
     refine Pb fun R a=>Pi _ U7<|C4 1 [1,2,19,20,21] a Z<|Pk (m':=l.length-(i+1)) om_ mup (hn_ [1,2,19,20,21] Z) ⟨i+1,⟨by omega,gA c b⟩,Z,Z,Z⟩
  ·have d:i=l.length:=by
    have:=LS p;omega
   subst d;refine Pb fun R a=>O8 (bkT n 5) U8<|Pa U6<|PK (x f c _ mup) U7 (fun ah _ _ W=>?_);obtain ⟨rv,rfl⟩:=W;exact C4 5 [10] a Z<|C6 2 [4] Z<|Pf U2<|⟨by rw [show JD B.obs.length l=0 from c],Z⟩
theorem zZ (h:FeasO p t u):∃ (row:Int)(a:Bool),u=.tuple #[.int .i64 row,.bool a]/\(a=true->t.Feas p.n) /\
  (a=false->∃ r:Nat,row=r/\r<t.basic.length/\p.n<=t.bas r/\(t.line r).c<0/\∀ s,s<t.others.length->p.n<=t.oth s->(t.line r).g s<=0):=by
 cases h with
 | yes h=>exact ⟨0,true,rfl,fun _=>h,fun h=>by cases h⟩
 | no r h1 h2 h3 h4=>exact ⟨r,false,rfl,fun h=>(by cases h),fun _=>⟨r,rfl,h1,h2,h3,h4⟩⟩
theorem CW (h:MinO p t u):∃ (b:Int)(a:Bool),u=.tuple #[.int .i64 b,.bool a]/\(a=true->Lp.RelW p.n t/\∀ s,s<t.others.length->p.n<=t.oth s->0<=t.worth.g s) /\
  (a=false->∃ s:Nat,b=s/\s<t.others.length/\jN t s*t.worth.g s<0/\(∀ i,i<t.basic.length->p.n<=t.bas i->0<=jN t s*(t.line i).g s)/\(p.n<=t.oth s->0<=jN t s)):=by
 cases h with
 | yes h1 h2=>exact ⟨0,true,rfl,fun _=>⟨h1,h2⟩,fun h=>by cases h⟩
 | no s h1 h2 h3 h4=>exact ⟨s,false,rfl,fun h=>(by cases h),fun _=>⟨s,rfl,h1,h2,h3,h4⟩⟩
inductive SolO (p:Lp.Sys) (cc:Nat->Rat) (D:Mem):Value->Prop where
 | opt (val:Rat) (pt du:Nat->Rat) (vp vd:Value):Lp.OptR p cc 16 val pt du->Sl D 1 vp (((List.range p.n).map pt).map aT)->Sl D 1 vd (((List.range p.m).map du).map aT)->SolO p cc D (.agg ⟨[.int .i64 1,al (qtx val),vp,vd,.slice none 0 0]⟩)
 | inf (du:Nat->Rat) (vd:Value):Lp.InfR p 16 du->Sl D 1 vd (((List.range p.m).map du).map aT)->SolO p cc D (.agg ⟨[.int .i64 2,al [],.slice none 0 0,vd,.slice none 0 0]⟩)
 | unb (pt ra:Nat->Rat) (vp vr:Value):Lp.UnbR p cc 16 pt ra->Sl D 1 vp (((List.range p.n).map pt).map aT)->Sl D 1 vr (((List.range p.n).map ra).map aT)->SolO p cc D (.agg ⟨[.int .i64 3,al [],vp,.slice none 0 0,vr]⟩)
theorem Fw :jN t s=1∨jN t s=-1:=by unfold jN;split <;> simp
theorem E8 (C:Mem)(x:Tabs C)(n:Nat)(V F:Value)(k:List (List Rat × Rat))(l:List Rat)(H:RowsT C V (k.map gZ))(ho:Sl C 1 F (l.map aT))(X:RowsQ n k)(Y:n<=1000)(ag:l.length=n)(f:Lp.Lim (ek n k) (fun j=>l.getD j 0) 16) :
  Pur cx.P 77 [.agg ⟨[.int .i64 n,V,F]⟩] C fun u D=>SolO (ek n k) (fun j=>l.getD j 0) D u:=by
 have aP:maxLen<=9223372036854775807:=by simp [maxLen]
 have hm:=X.m;have ah:=H;obtain ⟨vs,ai,_,aj⟩:=ah;obtain ⟨Ar,cr,rfl,_⟩:=id aj;rw [rh ai,ax] at H ⊢;obtain ⟨p,I⟩:∃ p,ek n k=p:=⟨_,rfl⟩;obtain ⟨cc,ak⟩:∃ cc:Nat->Rat,(fun j=>l.getD j 0)=cc:=⟨_,rfl⟩;have am:p.n=n:=by rw [<- I];rfl
 have an:p.m=k.length:=by rw [<- I];rfl
 have z:=fun (D:Mem)(J:C.le D)=>FN D (x.mono J) n (.slice Ar k.length cr) F k l (H.mono J) (ho.mono J) X Y ag;rw [I,ak] at f z ⊢;rw [<- am] at z Y ⊢;rw [<- an] at z ⊢;refine Ph func77 57 U3 fun w0=>?_;refine Pb fun R a=>?_;refine Pr U6 (fun b1=>?_);refine Pq U5 (fun b2=>?_);refine Pd [1,2] a Z ?_;clear a R;refine G.freeze 1 Z (fun _ _ K=>?_);refine Px [(1,3)] Z (fun R a=>?_);refine O8 (bkT K 3) U8 ?_;refine D.call (z _ mup) Z (.inr dc_) U6 (LR _) fl_ (fun v9 C9 L9 _ ao=>?_);obtain ⟨b,wB,wL,wO,wW,wF,rfl,rfl⟩:=ao;refine C4 1 [1,2,3] a Z ?_;clear a R;refine Px [(1,3)] Z (fun R a=>?_);refine Pa U6 ?_;refine D.call (zr _ x.m_ p cc b _ wB wL wO wW wF Lp.openT_inv Z f om_ om_) Z (.inr dc_) U6 (LR _) fl_ (fun aQ _ aR _ ap=>?_);refine Pd [1,2,3] a Z ?_;clear a R;obtain ⟨-,t1,aq,ar,au,rfl⟩:=ap;refine Px [(1,3)] Z (fun R a=>?_);refine Pa U6 ?_;refine D.call (wa _ x.m_ p cc b t1 wB wL wO wW aq ar au f om_ om_) Z (.inr dc_) U6 (LR _) fl_ (fun aS _ aU _ av=>?_);obtain ⟨t,aa,w,ab,hF,rfl⟩:=av;obtain ⟨row,is,rfl,aw,ay⟩:=zZ hF;refine C4 5 [1,2,3,4,5] a Z ?_;clear a R;refine C6 2 [1,2,3,4,18] Z ?_;refine O9 (fun L=>?_) fun L=>?_
 ·have M:is=false:=by simpa using L
  obtain ⟨r,rfl,N,ac,az,aA⟩:=ay M;refine Qg (eD b p.n t wB wL wO wW aa) (fB w.tab.ok) (fun C5 _ y=>?_);have h:=ei w.tab.ok y;refine O7 3 Z fun R a=>?_;refine O8 (bkT K 1) U8 ?_;refine Pa U6 ?_;refine PI (Fv _ p b r t wB wL wO wW _ h.m_ w.tab om_ N ac (fun q=>(w.dualQ f dc_ N q).le dc_)) U7 fl_ (fun aV _ _ aB=>?_);obtain ⟨g,rfl,hg⟩:=aB;refine PB [.int .i64 2,al [],.slice none 0 0,.slice (some ⟨g,0,none⟩) p.m p.m,.slice none 0 0] U8 ?_;refine Pg (j:=0) U12 ?_;refine Pd [2] a Z ?_;clear a R;refine Pl (PW (.head _) U4 ?_);exact ⟨Z,.inf _ _ (w.inf f dc_ ab N ac az aA) hg.m_⟩
 ·have M:is=true:=by simpa using L
  have aC:=aw M;refine Px [(1,3)] Z (fun R a=>?_);refine Pa U6 ?_;refine D.call (vK _ x.m_ p cc b t wB wL wO wW aa w ab aC f om_ om_) Z (.inr dc_) U6 (LR _) fl_ (fun aW _ aX _ aD=>?_);obtain ⟨d,ad,e,ae,hM,rfl⟩:=aD;obtain ⟨aY,af,rfl,aE,aF⟩:=CW hM;refine C4 5 [1,2,3,6,7] a Z ?_;clear a R;refine C6 2 [1,2,3,6,32] Z ?_;refine O9 (fun O=>?_) fun O=>?_
  ·have Q:af=false:=by simpa using O
   obtain ⟨s,rfl,A,aG,aH,aI⟩:=aF Q;refine Qg (eD b p.n d wB wL wO wW ad) (fB e.tab.ok) (fun C5 _ y=>?_);have h:=ei e.tab.ok y;refine Px [(1,3),(4,3)] Z (fun R a=>?_);refine Pa U6 ?_;refine D.call (xN _ b p.n (p.n+p.m) d wB wL wO wW _ h.m_ e.tab.ok om_) Z (.inr dc_) U6 (LR _) fl_ (fun aZ _ a0 _ aJ=>?_);obtain ⟨S,rfl,rfl⟩:=aJ;refine Pc 2 Z ?_;refine D.call (J6 _ x.m_ p b s d wB wL wO wW _ h.m_ e.tab A om_ (fun i hi=>e.fac f hi A) (e.wfac f A)) Z (.inr dc_) U6 (LR _) fl_ (fun a1 _ a2 _ aK=>?_);obtain ⟨B,rfl,rfl⟩:=aK;refine PB [.int .i64 3,al [],.slice (some ⟨S,0,none⟩) p.n p.n,.slice none 0 0,.slice (some ⟨B,0,none⟩) p.n p.n] U8 ?_;refine Pg (j:=2) U12 ?_;refine Pd [2] a Z ?_;clear a R;refine G.freezeArr 1 (((List.range p.n).map fun v=>jN d s*d.dir s v).map aT) Z Z dy (by simp) (fun C8 _ T=>?_);refine G.freezeArr 1 (((List.range p.n).map d.sol).map aT) Z Z dy (by simp) (fun C9 _ U=>?_);refine Pl (PW (.head _) U4 ?_);exact ⟨Z,.unb _ _ _ _ (e.unb f dc_ ae A Fw aG aH aI) U T.m_⟩
  ·have Q:af=true:=by simpa using O
   obtain ⟨aL,aM⟩:=aE Q;refine Qg (eD b p.n d wB wL wO wW ad) (fB e.tab.ok) (fun C5 _ y=>?_);have h:=ei e.tab.ok y;refine Pv [0,1,2,3,4,5,7,8,9,10,11,12,13,14,6,15,16,17,18] [(6,3),(15,3),(4,0),(11,0),(13,0)] Z kr_ (fun R E a=>?_);refine Pc 4 Z ?_;refine P4 (fun _=>((PtrTo.blockT h.o _ 1).mono E)) U9 ?_;refine Pc 5 Z ?_;refine P4 (fun _=>((PtrTo.blockT h.o _ 2).mono E)) U9 ?_;refine Pa U6 ?_;refine P4 (fun _=>((bkT K 1).mono E)) U9 ?_;refine Pa U6 ?_;refine D.call (xN _ b p.n (p.n+p.m) d wB wL wO wW _ h.m_ e.tab.ok om_) Z (.inr dc_) U6 (LR _) fl_ (fun a3 _ a4 _ aN=>?_);refine D.call (DO _ p b d d.worth wB wL wO wW wW _ h.m_ e.tab om_ h.W.m_ e.tab.ok.wl) Z (.inr dc_) U6 (LR _) fl_ (fun a5 _ a6 _ aO=>?_);obtain ⟨B,rfl,rfl⟩:=aO;obtain ⟨S,rfl,rfl⟩:=aN;refine PB [.slice (some ⟨B,0,none⟩) p.m p.m] U8 ?_;refine PB [.int .i64 1,al (qtx d.worth.c),.slice (some ⟨S,0,none⟩) p.n p.n,.slice (some ⟨B,0,none⟩) p.m p.m,.slice none 0 0] U8 ?_;refine Pg (j:=2) U12 ?_;refine Pd [2] a Z ?_;clear a E R;refine G.freezeArr 1 (((List.range p.m).map (Lp.dualV p d d.worth)).map aT) Z Z dy (by simp) (fun C8 _ T=>?_);refine G.freezeArr 1 (((List.range p.n).map d.sol).map aT) Z Z dy (by simp) (fun C9 _ U=>?_);refine Pl (PW (.head _) U4 ?_);exact ⟨Z,.opt _ _ _ _ _ (e.opt f dc_ ae aL aM) U T.m_⟩
end Go.Proofs.YthnpijdjlddpmaaGreatDoor
namespace Go.Jog
open Go
section
variable {cx:Cx} {n:Nat} {ds:List (Option Nat)} {R:Rg n ds} {its:List It} {fr:Fr} {C:Mem} {L:List Ent} {i k d:Nat} {o:Oper}
theorem QJ {t e h b:Nat}{A:Option Addr}{x:Operand}{g:GL}{c:TI}(j:Nat.ble k 1=true)(l:o.dst=some d)(m:o.op=.call ⟨.builtin .cap,#[x],#[t]⟩)(p:gOf ds fr o.guard=some g)(q:ev fr g x=some (.slice A h b))
  (r:cx.T.get t=some c) (f:c.k=.slice e) (s:aO n ds ((d,g,.int .i64 b)::fr) d=true) (u:wfG ds fr g=true)
  (v:D cx R its ((d,g,.int .i64 b)::fr) C L):D cx R ((i,k,o)::its) fr C L:=by
 have y:cx.P.underlying t=some (.slice e):=by
  obtain ⟨B,E,F,G,H⟩:=c;simp only at f;subst f;exact ck cx.hT r
 refine D.run _ j l p (fun I a hs w=>?_) s u v;have z:execOp a.eval o=(do let dd <- resolve a.eval ⟨.builtin .cap,#[x],#[t]⟩ o.type;invoke dd.target dd.args:Sem Next):=by unfold execOp;rw [m]
 rw [z];simp [resolve,invoke,builtin,Sem.run_bind,hs _ _ q,Builtin.cap_,run_underlying y,goInt]
theorem Rr {t g e m:Nat}{x y:Operand}{s j:IntKind}{l p f:TI}(M:k=3)(N:o.dst=some d)(O:gOn ds fr o.guard=true)(Q:o.op=.call ⟨.builtin .append,#[x,y],#[t,g]⟩)
  (U:cx.T.get t=some l) (u:l.k=.slice e) (z:cx.T.get e=some f) (A:Nat.beq f.size 0=false) (V:cx.T.get g=some p) (B:p.k=.int j)
  (W:ev fr [] x=some (.slice none 0 0)) (X:ev fr [] y=some (.int s (m:Nat))) (Y:0<m) (hb:m*f.bytes<=281474976710656) (aa:m<=maxLen) (hp:∀ v,aO n ds ((d,[],v)::fr) d=true)
  (h:∀ b c,m<=c->D cx R its ((d,[],.slice (some ⟨b,0,none⟩) m c)::fr) C (.arr (.slice (some ⟨b,0,none⟩) m c) e f.size m (jx (f.zero.map Zv.val) m)::L)):D cx R ((i,k,o)::its) fr C L:=by
 have hu:cx.P.underlying t=some (.slice e):=by
  obtain ⟨kk,s1,b1,z1,g1⟩:=l;simp only at u;subst u;exact ck cx.hT U
 have ab:cx.P.underlying g=some (.int j):=by
  obtain ⟨kk,s1,b1,z1,g1⟩:=p;simp only at B;subst B;exact rq cx.hT V
 obtain ⟨inf,hi,ac,ad,hz,E⟩:=(dO cx.hT z).info;have ae:0<f.size:=NK (fun e=>by rw [e] at A;cases A);have ai:maxLen<=9223372036854775807:=by simp [maxLen]
 refine PP (S:=fun F C' G=>C'=C/\∃ b c,m<=c/\F=.slice (some ⟨b,0,none⟩) m c/\G=.arr (.slice (some ⟨b,0,none⟩) m c) e f.size m (jx (f.zero.map Zv.val) m)::L) (by subst M;rfl) N O hp (fun a hs w _ hw=>?_) (fun F C' G _ ⟨e0,b,c,hc,r,e2⟩=>by subst e0;subst r;subst e2;exact h b c hc);have hr:=Lib.run_append_nil_zeros (P:=cx.P) w t g o.type e inf f.zv s j hu ab hi hz m Y (by rw [ac];exact ae) om_ (by rw [ad];exact hb);have af:(execOp a.eval o).run cx.P w=.ok (.value (.slice (some ⟨w.heap.size,0,none⟩) m (grownCap w m 0 e))) (w.drew.alloc (.cells (Builtin.zeroCells f.zv.cells m++Builtin.zeroCells f.zv.cells (grownCap w m 0 e-m)) e)):=by
  have r:execOp a.eval o=(do let dd <- resolve a.eval ⟨.builtin .append,#[x,y],#[t,g]⟩ o.type;invoke dd.target dd.args:Sem Next):=by unfold execOp;rw [Q]
  rw [r];simp only [resolve,invoke,builtin,Sem.run_bind,Sem.run_pure,Result.andThen_ok,NS,Mp,NQ,hs _ _ W,hs _ _ X,hr]
 unfold Oper.wp;rw [af];have H:=grownCap_ge w m 0 e;have ag:=grownCap_le_maxLen w m 0 e aa;have I:=St.alloc (St.drew hw) (.cells (Builtin.zeroCells f.zv.cells m++Builtin.zeroCells f.zv.cells (grownCap w m 0 e-m)) e);have J:(f.zero.map Zv.val).length=f.size:=by
  have:=(dO cx.hT z).zsize;rw [E] at this;simpa using this
 have K:∀ q,Builtin.zeroCells f.zv.cells q=⟨jx (f.zero.map Zv.val) q⟩:=fun q=>by
  rw [<- Dd,E];rfl
 have ah:(⟨jx (f.zero.map Zv.val) m⟩++⟨jx (f.zero.map Zv.val) (grownCap w m 0 e-m)⟩:Array Value)=⟨jx (f.zero.map Zv.val) m++jx (f.zero.map Zv.val) (grownCap w m 0 e-m)⟩:=by simp
 rw [K,K,ah] at I ⊢;refine ⟨_,C,.arr (.slice (some ⟨w.heap.size,0,none⟩) m (grownCap w m 0 e)) e f.size m (jx (f.zero.map Zv.val) m)::L,Z,Mem.le.refl _,fun h2=>by omega,St.objArr I (List.take_left' (by rw [cI,J])) ?_ H ag,Z,_,_,H,Z,Z⟩;rw [LZ,cI,cI,J,<- Nx];congr 1;omega
end
end Go.Jog
namespace Go.Proofs.YthnpijdjlddpmaaGreatDoor
open Tryz
open Go Go.Jog
set_option maxRecDepth 100000
theorem IX (C:Mem)(n:Nat)(j:n<=1000000):Jog.Fn cx.P 186 [.slice none 0 0,.int .i64 n] C [] fun u _ h=>∃ A n2 c,u=.slice A n2 c/\h=[.arr u 56 1 0 []]:=by
 have k:maxLen<=9223372036854775807:=by simp [maxLen]
 refine Ph func186 27 U3 fun w0=>C6 1 [0,1] Z<|C6 2 [0,1,6] Z<|O9 (fun d=>?_) fun d=>?_
 ·simp at d;omega
 ·refine O7 2 Z fun R a=>QJ Z Z Z Z Z Z Z Z Z<|Pc 2 Z<|Pi _ U7<|Pi _ U7<|C4 1 [0,1] a Z<|C6 2 [0,1,16] Z<|O9 (fun f=>?_) fun f=>?_
  ·have i:0<n:=by
    simp at f;omega
   refine O7 2 Z fun R a=>QJ Z Z Z Z Z Z Z Z Z<|PX 0 0 0 U12 (fun _=>⟨.inl ⟨Z,Z⟩,.inr ⟨_,Z⟩,.inl ⟨Z,Z⟩,LP _,LP _,LP _⟩) U2<|Pa U6<|Rr (m:=n) Z Z Z Z Z Z Z Z Z Z Z Z i (by show n*16<=_;omega) (by simp only [maxLen];omega) fl_ fun b g l=>Pc 2 Z<|PX 0 0 g U12 (fun _=>⟨.inl ⟨Z,Z⟩,.inr ⟨_,Z⟩,.inl ⟨Z,Z⟩,LP _,LV _,LP _⟩) U2<|C4 1 [0] a Z<|C6 2 [4] Z<|RJ 0 0 Z (LV _)<|Pl (PM Z Z ?_);refine ⟨_,_,_,Z, ?_⟩;have e:(if g=0 then some (⟨b,0,none⟩:Addr) else (some (⟨b,0,none⟩:Addr)).map (·.add (0*1)))=some ⟨b,0,none⟩:=by
    split
    ·rfl
    ·simp [Addr.add_lit]
   rw [e];simp
  ·refine C6 2 [4] Z<|G.nilArr 56 1<|Pl (PM Z Z ?_);exact ⟨none,0,0,Z,Z⟩
def lN (xs:List (Value × List Rat)):List Rat:=(xs.map (·.2)).flatten
theorem uQ {a:List (Value × List Rat)}{i:Nat}{x:Value × List Rat}(h:a[i]?=some x):lN (a.take (i+1))=lN (a.take i)++x.2:=by
 unfold lN;rw [Mx,h];simp
theorem Eh (a:List (Value × List Rat))(i:Nat):(lN (a.take i)).length<=(lN a).length:=by
 have h:lN a=lN (a.take i)++lN (a.drop i):=by
  unfold lN;rw [<- MK,<- My,M4]
 rw [h,LZ];omega
def I4 (x:Value × List Rat):List Value:=[x.1]
theorem Eb (C:Mem)(v:Value)(a:List (Value × List Rat))(h:Sl C 1 v (a.map I4))(B:∀ x∈a,Sl C 1 x.1 (x.2.map aT))(K:(lN a).length<=1000000) :
  Jog.Fn cx.P 122 [v] C [] fun u _ e=>∃ A n2 c,u=.slice A n2 c/\e=[.arr u 56 1 (lN a).length ((lN a).map aT).flatten]:=by
 obtain ⟨p,c0,rfl,L,X,_⟩:=id h;have Y:maxLen<=9223372036854775807:=by simp [maxLen]
 simp only [ax] at h L ⊢;refine Ph func122 36 U3 fun w0=>C6 1 [0] Z<|C6 1 [0,3] Z<|C6 3 [0,3,9,10,11] Z<|G.loop (fun fr C' e q=>∃ (i:Nat)(z:Int),(i<=a.length/\z=(lN (a.take i)).length)/\fr=[(0,[],.slice p a.length c0),(3,[],.int .i64 z),(9,[],.slice p a.length c0),(10,[],.int .i64 a.length),(11,[],.int .i64 i)]/\e=[]/\q=a.length-i) (hn_ [0,3,9,10,11] Z) ⟨0,0,⟨LV _,Z⟩,Z,Z,Z⟩ (fun fr aa ab m _ r=>?_);obtain ⟨i,z,⟨hi,s⟩,rfl,rfl,rfl⟩:=r;refine C6 1 [0,3,9,10,11,12] Z<|O9 (fun t=>?_) fun t=>?_
 ·have f:i<a.length:=by
   have:=K5 t;omega
  obtain ⟨x,d⟩:∃ x,a[i]?=some x:=⟨a[i],aj f⟩;have g:=B x (LQ d);obtain ⟨w,l⟩:=x;simp only at g;obtain ⟨Ax,ac,rfl,M,ad,_⟩:=id g;simp only [ax] at g M d;have k:=uQ d;have E:=Eh a (i+1);have N:(lN (a.take (i+1))).length=(lN (a.take i)).length+l.length:=by rw [k,LZ]
  refine Pb fun R b=>Pm h.m_ U10 om_ (show (a.map I4)[i]?=some [_] from fD d) fl_ fun ae O=>O8 O U8<|C4 1 [0,3,5,9,10,11] b Z<|O7 3 Z fun R b=>Pi _ U7<|C4 1 [0,3,9,10,11] b Z<|C6 2 [0,3,9,10,11,20] Z<|O9 (fun F=>?_) fun F=>?_
  ·exfalso;have af:=K5 F;omega
  ·refine Pb fun R b=>Pi _ U7<|C4 1 [0,3,9,10,11] b Z<|Pk (m':=a.length-(i+1)) om_ mup (hn_ [0,3,9,10,11] Z) ⟨i+1,_,⟨by omega,by rw [s];omega⟩,Z,Z,Z⟩
 ·have f:i=a.length:=by
   have:=LS t;omega
  rw [f,Mb] at s;subst s;refine Px [(1,3)] Z fun R b=>Pa U6<|D.call (IX _ (lN a).length K) Z (.inr dc_) U6 (LR _) fl_ (fun ag _ ah _ Q=>?_);obtain ⟨S,T,U,rfl,rfl⟩:=Q;refine C4 1 [0,6] b Z<|C6 3 [6,25,26,27] Z<|G.loop (fun fr C' e q=>∃ (i:Nat)(n:Option Addr)(n1 o:Nat),(i<=a.length)/\fr=[(6,[],.slice n n1 o),(25,[],.slice p a.length c0),(26,[],.int .i64 a.length),(27,[],.int .i64 i)]/\e=[.arr (.slice n n1 o) 56 1 (lN (a.take i)).length ((lN (a.take i)).map aT).flatten]/\q=a.length-i) (hn_ [6,25,26,27] Z) ⟨0,S,T,U,LV _,Z,Z,Z⟩ (fun fr ai ak m E r=>?_);obtain ⟨i,n,n1,o,am,rfl,rfl,rfl⟩:=r;refine C6 1 [6,25,26,27,28] Z<|O9 (fun y=>?_) fun y=>?_
  ·have f:i<a.length:=by
    have:=K5 y;omega
   obtain ⟨x,d⟩:∃ x,a[i]?=some x:=⟨a[i],aj f⟩;have g:=B x (LQ d);have k:=uQ d;have E:=Eh a (i+1);have N:(lN (a.take (i+1))).length=(lN (a.take i)).length+x.2.length:=by rw [k,LZ]
   refine Pb fun R b=>Pm h.m_ U10 om_ (show (a.map I4)[i]?=some [x.1] from fD d) fl_ fun an V=>O8 V U8<|C4 1 [6,8,25,26,27] b Z<|O7 2 Z fun R b=>Pu (j:=0) U11 g.m_ (by simp [aT,nT,al]) (by simp only [ax,maxLen];omega) (by show ((lN (a.take i)).length+(x.2.map aT).length)*16<=_;rw [ax];omega) fl_ fun H I J=>C4 1 [6,25,26,27] b Z<|Pb fun R b=>Pi _ U7<|C4 1 [6,25,26,27] b Z<|Po (L':=[.arr (.slice H I J) 56 1 (lN (a.take (i+1))).length ((lN (a.take (i+1))).map aT).flatten]) (by rw [k,My,MK,LZ,ax];rfl)<|Pk (m':=a.length-(i+1)) om_ mup (hn_ [6,25,26,27] Z) ⟨i+1,H,I,J,om_,Z,Z,Z⟩
  ·have W:i=a.length:=by
    have:=LS y;omega
   refine C6 2 [2] Z<|Pl (PM Z Z ?_);exact ⟨n,n1,o,Z,by rw [W,Mb]⟩
theorem Fh (C:Mem)(N:Tabs C)(o:Int)(y:Str)(f g i:Value)(a b c:List Rat)(z:Sl C 1 f (a.map aT))(A:Sl C 1 g (b.map aT))(B:Sl C 1 i (c.map aT))(O:∀ x∈a,QB 16 x)(Q:∀ x∈b,QB 16 x)(S:∀ x∈c,QB 16 x)(ae:a.length<=1000)(af:b.length<=1000)(ag:c.length<=1000)
  (T:o=1->∃ q,y=qtx q/\QB 16 q):Gives cx.P 78 [.agg ⟨[.int .i64 o,al y,f,g,i]⟩] C (.bool true):=by
 have E:lN [(f,a),(g,b),(i,c)]=a++(b++(c++[])):=rfl;have F:(lN [(f,a),(g,b),(i,c)]).length<=1000000:=by rw [E];simp;omega
 obtain ⟨all,H⟩:∃ all,lN [(f,a),(g,b),(i,c)]=all:=⟨_,rfl⟩;have I:∀ x∈all,QB 16 x:=fun x d=>by
  rw [<- H,E] at d;simp only [Mh,M3,Ol] at d;rcases d with h | h | h
  ·exact O x h
  ·exact Q x h
  ·exact S x h
 have U:∀ l:List Rat,(∀ x∈l,QB 16 x)->((l.map qtx).any fun s=>!bd s)=false:=fun l V=>List.any_eq_false.2 fun s hs=>by
  obtain ⟨x,d,rfl⟩:=L4.1 hs;rw [bx ((V x d).le dc_)];decide
 obtain ⟨p,r,rfl,_⟩:=id z;obtain ⟨t,u,rfl,_⟩:=id A;obtain ⟨v,w,rfl,_⟩:=id B;have W:∀ D:Mem,C.le D->∀ x∈[(Value.slice p (a.map aT).length r,a),(Value.slice t (b.map aT).length u,b),(Value.slice v (c.map aT).length w,c)],Sl D 1 x.1 (x.2.map aT):=fun D k x d=>by
  simp only [Ma,M3,Ol] at d;rcases d with h | h | h
  ·rw [h];exact z.mono k
  ·rw [h];exact A.mono k
  ·rw [h];exact B.mono k
 refine Ph func78 24 U3 fun w0=>Pb fun R e=>Pr U6 fun b1=>C4 1 [1] e Z<|G.freeze 0 Z fun _ _ m=>Px [(8,3)] Z fun R e=>Pa U6<|O8 (bkT m 1) U8<|Pc 2 Z<|O8 (bkT m 1) U8<|Pa U6<|O8 (bkT m 1) U8<|Ps [[.slice p (a.map aT).length r],[.slice t (b.map aT).length u],[.slice v (c.map aT).length w]] U12 fun ah _ _ X=>D.call (Eb _ _ [(.slice p (a.map aT).length r,a),(.slice t (b.map aT).length u,b),(.slice v (c.map aT).length w,c)] X.m_ (W _ mup) F) Z (.inr dc_) U6 (LR _) fl_ (fun ai _ aj _ Y=>?_);obtain ⟨A3,n3,c3,rfl,rfl⟩:=Y;rw [H] at F ⊢;refine C4 1 [1,3] e Z<|O7 1 Z fun R e=>O8 (bkT m 1) U8<|C4 1 [1,3,15] e Z<|G.cut (fun fr C' J μ=>∃ (n:Value)(l:List Rat),(∀ x∈l,QB 16 x)/\fr=[(3,[],n)]/\J=[.arr n 56 1 l.length (l.map aT).flatten]) ?_ (fun fr _ ak μ _ hI=>?_)
 ·refine O9 (fun K=>?_) fun K=>?_
  ·have aa:o=1:=by simpa using K
   obtain ⟨q,rfl,ab⟩:=T aa;refine O7 2 Z fun R e=>O8 (bkT m 1) U8<|Ps [[al (qtx q)]] U12 fun am _ _ ac=>D.append (j:=0) U11 ac Z (by simp only [aE,maxLen];omega) (by show (all.length+1)*16<=_;omega) fl_ fun L=>C4 1 [3] e Z<|Po (L':=[.arr L 56 1 (all++[q]).length ((all++[q]).map aT).flatten]) (by rw [My,MK,LZ];rfl)<|Pj 0 mup (hn_ [3] Z) ⟨L,all++[q],fun x d=>by
    rcases Mh.1 d with h | h
    ·exact I x h
    ·rw [Mn.1 h];exact ab,rfl,rfl⟩
  ·refine Pj 0 (Mem.le.refl _) (hn_ [3] Z) ⟨_,all,I,Z,Z⟩
 ·obtain ⟨n ,l,M,rfl,rfl⟩:=hI;refine G.freezeArr 0 (l.map aT) Z Z dy (by simp) fun _ _ ad=>O7 1 Z fun R e=>Pp (CG _ n (l.map qtx) 89 [] (fun s=>!bd s) (by rw [<- yo];exact ad.mono mup) kr_ (fun s hs D k=>by
   obtain ⟨x,d,rfl⟩:=L4.1 hs;exact nI D (N.mono (Mem.le.trans mup k)) (qtx x) (Md (bE (M x d) dc_) dc_))) U7 fl_ ?_
  exact C4 2 [2] e Z<|Pf U2<|⟨by rw [U l M];rfl,Z⟩
theorem qj {n:Int}{l:List Str}:iv n l=0 ↔ (l.length:Int)=n/\l.all bd=true:=by
 unfold iv;by_cases h:(l.length:Int)=n
 ·rw [aI h];rcases qO (l.all bd) with ⟨h1,h2⟩ | ⟨h1,h2⟩
  ·rw [h1];exact ⟨fun _=>⟨h,h2⟩,fun _=>rfl⟩
  ·rw [h1,h2];exact ⟨fun h=>(by cases h),fun h=>(by cases h.2)⟩
 ·rw [aC h];exact ⟨fun h=>(by cases h),fun h2=>absurd h2.1 h⟩
theorem BX {n:Int}{r:List Str × Str}:BY n r=0 ↔ iv n r.1=0/\bd r.2=true:=by
 unfold BY;by_cases h:iv n r.1=0
 ·rw [aC (fun a=>a h)];rcases qO (bd r.2) with ⟨h1,h2⟩ | ⟨h1,h2⟩
  ·rw [h1];exact ⟨fun _=>⟨h,h2⟩,fun _=>rfl⟩
  ·rw [h1,h2];exact ⟨fun h=>(by cases h),fun h=>(by cases h.2)⟩
 ·rw [aI h];exact ⟨fun h2=>absurd h2 h,fun h2=>absurd h2.1 h⟩
theorem BK {p:Lp.Sys}{o:Nat->Rat}{D:Mem}{u:Value}(h:SolO p o D u):∃ (kd:Int)(val:Str)(e g i:Value)(a b c:List Rat),u=.agg ⟨[.int .i64 kd,al val,e,g,i]⟩/\Sl D 1 e (a.map aT)/\Sl D 1 g (b.map aT)/\Sl D 1 i (c.map aT) /\
  (∀ x∈a,QB 16 x)/\(∀ x∈b,QB 16 x)/\(∀ x∈c,QB 16 x)/\a.length<=p.n/\b.length<=p.m/\c.length<=p.n/\(kd=1->∃ q,val=qtx q/\QB 16 q):=by
 have hr:∀ (n:Nat)(f:Nat->Rat),(∀ j,QB 16 (f j))->∀ x∈(List.range n).map f,QB 16 x:=fun n f r x d=>by
  obtain ⟨j,_,rfl⟩:=L4.1 d;exact r j
 cases h with
 | opt val pt du e g k h1 h2=>exact ⟨1,qtx val,e,g,.slice none 0 0,_,_,[],rfl,h1,h2,Sl.nil _ _,hr _ _ k.qp,hr _ _ k.qd,fun x d=>(by cases d),by simp,by simp,LV _,fun _=>⟨val,rfl,k.qv⟩⟩
 | inf du g s h1=>exact ⟨2,[],.slice none 0 0,g,.slice none 0 0,[],_,[],rfl,Sl.nil _ _,h1,Sl.nil _ _,fun x d=>(by cases d),hr _ _ s.qd,fun x d=>(by cases d),LV _,by simp,LV _,fun h=>absurd h dc_⟩
 | unb pt ra e i l h1 h2=>exact ⟨3,[],e,.slice none 0 0,i,_,[],_,rfl,h1,Sl.nil _ _,h2,hr _ _ l.qp,fun x d=>(by cases d),hr _ _ l.qr,by simp,LV _,by simp,fun h=>absurd h dc_⟩
theorem qR {l:List Rat}(h:∀ x∈l,QB 22 x):(l.map qtx).all bd=true:=Mg.2 fun s hs=>by
 obtain ⟨x,a,rfl⟩:=L4.1 hs;exact bx (h x a)
theorem nA {n:Nat}:∀ {rs:List (List Rat × Rat)},(∀ r∈rs,r.1.length=n)->(∀ r∈rs,(∀ x∈r.1,QB 22 x)/\QB 22 r.2)->rA n (rs.map gZ)=0
 | [],_,_=>rfl
 | r::rs,b,a=>by
  have e:rA n ((r::rs).map gZ)=if BY n (gZ r)≠0 then BY n (gZ r) else rA n (rs.map gZ):=rfl;have h0:BY n (gZ r)=0:=BX.2 ⟨qj.2 ⟨by show ((r.1.map qtx).length:Int)=n;rw [ax,b r aF],qR (a r aF).1⟩,bx (a r aF).2⟩;rw [e,aC fun h=>h h0];exact nA (fun r hr=>b r (LW _ hr)) fun r hr=>a r (LW _ hr)
theorem AA {n:Nat}{a:List (List Rat × Rat)}{b:List Rat}(g:n<=60)(i:a.length<=300)(c:∀ r∈a,r.1.length=n)(d:∀ r∈a,(∀ x∈r.1,QB 22 x)/\QB 22 r.2)(e:b.length=n)(f:∀ x∈b,QB 22 x):GK n (a.map gZ) (b.map qtx)=0:=by
 unfold GK;rw [aC om_,aC (by rw [ax];omega),aC fun h=>h (qj.2 ⟨by rw [ax,e],qR f⟩)];exact nA c d
end Go.Proofs.YthnpijdjlddpmaaGreatDoor
namespace Go.Jog.Lp
def Sys.Hold (p:Sys):Prop:=∃ y:Nat->Rat,∀ r,r<p.m->sumN (fun j=>p.a r j*y j) p.n<=p.b r
theorem tA (g:Nat->Nat->Rat)(n:Nat):∀ m,sumN (fun r=>sumN (fun j=>g r j) n) m=sumN (fun j=>sumN (fun r=>g r j) m) n
 | 0=>(bU fun _ _=>rfl).symm
 | m+1=>by
  show sumN (fun r=>sumN (fun j=>g r j) n) m+sumN (fun j=>g m j) n=_;rw [tA g n m,<- cX];rfl
theorem BC {g h:Nat->Rat}{n:Nat}(e:∀ j,j<n->g j<=h j):sumN g n<=sumN h n:=by
 have h1:sumN (fun j=>g j + -1*h j) n<=0:=vy fun j a=>by have:=e j a;grind
 rw [cX,cE] at h1;grind
section
variable {p:Sys} {cc:Nat->Rat} {k:Nat} {du pt ra:Nat->Rat} {val:Rat}
theorem InfR.not (h:InfR p k du):¬ p.Hold:=by
 rintro ⟨y,hy⟩;have h1:sumN (fun r=>du r*sumN (fun j=>p.a r j*y j) p.n) p.m<=sumN (fun r=>du r*p.b r) p.m:=BC fun r hr=>OU (hy r hr) (h.pos r);have h2:sumN (fun r=>du r*sumN (fun j=>p.a r j*y j) p.n) p.m=0:=by
  have c:sumN (fun r=>du r*sumN (fun j=>p.a r j*y j) p.n) p.m=sumN (fun r=>sumN (fun j=>du r*(p.a r j*y j)) p.n) p.m:=aK fun r _=>(cE _ _ _).symm;rw [c,tA];refine bU fun j d=>?_;have e:sumN (fun r=>du r*(p.a r j*y j)) p.m=y j*sumN (fun r=>du r*p.a r j) p.m:=by
   rw [<- cE];exact aK fun r _=>by grind
  rw [e,h.fac j d];grind
 have h3:=h.bnd;grind
theorem OptR.hold (h:OptR p cc k val pt du):p.Hold:=⟨pt,h.row⟩
theorem UnbR.zero (h:UnbR p (fun _=>0) k pt ra):False:=by
 have h1:=h.fall;have h2:sumN (fun j=>(0:Rat)*ra j) p.n=0:=bU fun j _=>by grind
 rw [h2] at h1;exact absurd h1 dc_
end
end Go.Jog.Lp
namespace Go.Jog
open Go
theorem Q0 {F:Fx}{d:Fr}{C:Mem}{L:List Ent}{p q r s b t:Nat}{m:List Value}{z:TypeId}{A:Nat × Nat}{g:TI}{x y u v:Value}(B:Ent.obj b (.cells ⟨m⟩ z A)∈L)(D:F.fn.results=#[.tmp p,.cell r t,.tmp q,.tmp s])
  (c:ev d [] (.tmp p)=some x) (E:ev d [] (.tmp q)=some y) (H:ev d [] (.tmp r)=some (.pointer (some ⟨b,0,none⟩))) (I:ev d [] (.tmp s)=some u)
  (J:F.cx.T.get t=some g) (K:cQ g (m.take g.size)=some v) (h:F.post (.tuple #[x,v,y,u]) C []) (n:F.ends:=by exact ⟨fun _ _ _ h=>h,rfl⟩):G F [] .ret d C L:=fun _ a w f o=>by
 refine n.kq ?_;have i:=bC f (fun p c=>by cases c) c;have j:=bC f (fun p c=>by cases c) E;have k:=bC f (fun p c=>by cases c) H;have l:=bC f (fun p c=>by cases c) I;simp only [Act.eval] at i j k l;refine bodyPost_ret (v:=.tuple #[x,v,y,u]) ?_ (f.defers.trans n.2) ⟨_,C,[],Z,St.dropAll o,h⟩;have M:=dY (F:=F) J (o.sep.e _ B) K;simp only [MO] at i j k l;simp [results,D,i,j,k,l,asAddr,M]
end Go.Jog
namespace Go.Proofs.YthnpijdjlddpmaaGreatDoor
open Tryz
open Go Go.Jog
set_option maxRecDepth 100000
variable {i:Nat}{l:List SrcQ}{s:SrcQ}{vs:List Value}{w:Value}
inductive FeaO (p:Lp.Sys) (D:Mem):Value->Prop where
 | yes (pt:Nat->Rat) (vp:Value):p.Hold->(∀ j,QB 16 (pt j))->Sl D 1 vp (((List.range p.n).map pt).map aT)->FeaO p D (.tuple #[vp,.agg ⟨[.slice none 0 0]⟩,.bool true,.int .i64 0])
 | no (du:Nat->Rat) (vd:Value):Lp.InfR p 16 du->Sl D 1 vd (((List.range p.m).map du).map aT)->FeaO p D (.tuple #[.slice none 0 0,.agg ⟨[vd]⟩,.bool false,.int .i64 0])
theorem Fa {p:Lp.Sys}{d:Nat->Rat}{D:Mem}{c:Int}{i a b e:Value}(h:SolO p d D (.agg ⟨[.int .i64 c,i,a,b,e]⟩)) :
  (c=2/\∃ du,Lp.InfR p 16 du/\Sl D 1 b (((List.range p.m).map du).map aT))∨(c≠2/\∃ pt,(p.Hold∨∃ ra,Lp.UnbR p d 16 pt ra)/\(∀ j,QB 16 (pt j))/\Sl D 1 a (((List.range p.n).map pt).map aT)):=by
 cases h with
 | opt w pt du a b f h1 h2=>exact .inr ⟨by decide,pt,.inl f.hold,f.qp,h1⟩
 | inf du b k h1=>exact .inl ⟨rfl,du,k,h1⟩
 | unb pt ra a e g h1 h2=>exact .inr ⟨by decide,pt,.inr ⟨ra,g⟩,g.qp,h1⟩
theorem xG (n:Nat):List.replicate n (al [48])=((List.replicate n (0:Rat)).map aT).flatten:=by
 rw [OZ,LH];induction n with
 | zero=>rfl
 | succ n a=>rw [MX,MX,Ng,a];rfl
theorem B7 (n j:Nat):(List.replicate n (0:Rat)).getD j 0=0:=by
 rw [ak,Nq];split <;> rfl
theorem FP (C:Mem)(t:Tabs C)(n:Nat)(g k:Value)(f:List (List Rat × Rat))(i:List Rat)(o:RowsT C g (f.map gZ))(v:Sl C 1 k (i.map aT))(w:RowsQ n f)(B:∀ x∈i,QB 22 x)(E:∀ r∈f,(∀ x∈r.1,QB 22 x)/\QB 22 r.2)(N:n<=60)(O:i.length=n)(Q:Lp.Lim (ek n f) (fun _=>0) 16) :
  Pur cx.P 43 [.agg ⟨[.int .i64 n,g,k]⟩] C fun u D=>FeaO (ek n f) D u:=by
 have ae:maxLen<=9223372036854775807:=by simp [maxLen]
 have hm:=w.m;have S:GK n (f.map gZ) (i.map qtx)=0:=AA N om_ w.l E O B;have T:∀ D:Mem,C.le D->Gives cx.P 56 [.agg ⟨[.int .i64 n,g,k]⟩] D (.int .i64 0):=fun D y=>by
  have h:=CD D (t.mono y) n g k (f.map gZ) (i.map qtx) (o.mono y) (by rw [<- yo];exact v.mono y) (fun r o=>by
   obtain ⟨r,U,rfl⟩:=L4.1 o;obtain ⟨h1,h2⟩:=E r U;refine ⟨fun s hs=>?_,Md (bE h2 dc_) dc_⟩;obtain ⟨x,z,rfl⟩:=L4.1 hs;exact Md (bE (h1 x z) dc_) dc_) (fun s hs=>by
   obtain ⟨x,z,rfl⟩:=L4.1 hs;exact Md (bE (B x z) dc_) dc_)
  rw [S] at h;exact h
 have V:Lp.Lim (ek n f) (fun j=>(List.replicate n (0:Rat)).getD j 0) 16:=by
  have e:(fun j=>(List.replicate n (0:Rat)).getD j 0)=fun _=>(0:Rat):=funext (B7 n);rw [e];exact Q
 refine Ph func43 32 U3 fun w0=>Pb fun R d=>Pr U6 fun b1=>Pa U6<|Pq U5 fun b3=>C4 2 [1,3] d Z<|Pb fun R d=>Pe (.tail _ (.head _)) U9<|Pn (T _ mup) U7<|C4 1 [1,3,6] d Z<|C6 2 [1,3,6,11] Z<|O9 (fun F=>?_) fun F=>?_
 ·exact absurd F dc_
 ·refine Px [(2,3)] Z fun R d=>Pa U6<|Pe (.tail _ (.head _)) U9<|D.call (il _ n om_) Z (.inr dc_) U6 (LR _) fl_ (fun af _ ag _ W=>?_);obtain ⟨bz,rfl,rfl⟩:=W;rw [xG];refine Pa U6<|Pg (j:=2) U12<|Pd [1,3] d Z<|G.freezeArr 1 ((List.replicate n (0:Rat)).map aT) Z Z dy (by simp) fun _ _ X=>G.freeze 0 Z fun _ _ Y=>Pb fun R d=>O8 (bkT Y 3) U8<|PI (E8 _ t.m_ n g _ f (List.replicate n 0) o.m_ X.m_ w om_ (by simp) V) U7 fl_ (fun ah _ _ H=>?_);obtain ⟨kd,val,vp,vd,vr,a,b,c,rfl,I,J,K,qa,qb,qc,aa,ab,ac,hv⟩:=BK H;have A:=Fa H;rw [show (fun j=>(List.replicate n (0:Rat)).getD j 0)=fun _=>(0:Rat) from funext (B7 n)] at A;obtain ⟨Ap,cp,rfl,_⟩:=id I;obtain ⟨Ad,cd,rfl,_⟩:=id J;obtain ⟨Ar,cr,rfl,_⟩:=id K;refine Pq U5 fun b7=>Pg (j:=0) U12<|Pd [3,7] d Z<|G.freeze 0 Z fun _ _ p=>Pb fun R d=>O8 (bkT p 5) U8<|Pp (Fh _ t.m_ kd val _ _ _ a b c I.m_ J.m_ K.m_ qa qb qc (Md aa (by show n<=_;omega)) (Md ab (by show f.length<=_;omega)) (Md ac (by show n<=_;omega)) hv) U7 fl_<|C4 1 [3,7,22] d Z<|O9 (fun L=>?_) fun L=>?_
  ·exact absurd L dc_
  ·refine O7 1 Z fun R d=>O8 (bkT p 1) U8<|C4 1 [3,7,26] d Z<|O9 (fun q=>?_) fun q=>?_
   ·refine Pv [0,1,2,3,4,5] [(1,0)] Z kr_ fun R M d=>Pa U6<|P4 (fun _=>((bkT p 1).mono M)) U9<|Pa U6<|Pg (j:=0) U12<|Pc 2 Z<|Pd [2,3,4,5] d Z ?_;clear d M R;refine Pl (Q0 (.head _) Z Z Z Z Z Z Z ?_);refine ⟨Z, ?_⟩;rcases A with ⟨_,du,hi,h1⟩ | ⟨h,_⟩
    ·exact .no du _ hi h1.m_
    ·exact absurd (by simpa using q) h
   ·refine O7 1 Z fun R d=>O8 (bkT p 1) U8<|PB ([.slice none 0 0]) U8<|Pa U6<|Pg (j:=0) U12<|C4 2 [2,3,4,5] d Z<|Pl (Q0 (.head _) Z Z Z Z Z Z Z ?_);refine ⟨Z, ?_⟩;rcases A with ⟨h,_⟩ | ⟨_,pt,v,ad,h1⟩
    ·rw [h] at q;cases q
    ·refine .yes pt _ ?_ ad h1.m_;rcases v with h | ⟨ra,hu⟩
     ·exact h
     ·exact hu.zero.elim
def prC (vs:List Value)(l:List SrcQ):List (List Value):=aN vs (l.map SrcQ.r)
def frC (l:List SrcQ):List (List Value):=l.map fun s=>[Value.int .i64 s.n]
theorem FL (a:vs.length=l.length)(c:vs[i]?=some w)(d:l[i]?=some s):prC (vs.take (i+1)) (l.take (i+1))=prC (vs.take i) (l.take i)++[[w,al (qtx s.r.b)]]:=by
 unfold prC;rw [Mx,Mx,c,d,My];exact eL (by simp [a]) w s.r
theorem Gl (a:l[i]?=some s):frC (l.take (i+1))=frC (l.take i)++[[.int .i64 s.n]]:=by
 unfold frC;rw [Mx,a,My];rfl
theorem JQ (a:vs[i]?=some w)(c:l[i]?=some s):(bV vs l)[i]?=some [.int .i64 s.n,w,al (qtx s.r.b)]:=by
 unfold bV;rw [List.getElem?_zipWith,a,c]
abbrev sA7 (A:Option Addr)(n c:Nat):Value:=.slice A n c
abbrev sB7 (A:Option Addr)(n c:Nat):Value:=.slice A n c
structure ProbIn (D:Mem)(n:Nat)(l:List SrcQ)(u:Value):Prop where
 ex:∃ rv ov fv,u=.tuple #[.agg ⟨[.int .i64 n,rv,ov]⟩,fv]/\RowsT D rv ((jM (l.map SrcQ.r)).map gZ)/\Sl D 1 ov ((List.replicate n (0:Rat)).map aT)/\Sl D 1 fv (frC l)
theorem Is (a:List Value)(l:List SrcQ):∀ r∈prC a l,r.length=2:=ik _ _
theorem I1 (l:List SrcQ):∀ r∈frC l,r.length=1:=fun r hr=>by
 obtain ⟨s,_,rfl⟩:=L4.1 hr;rfl
theorem Ft {C:Mem}{v:Value}{rows:List RowQ}(h:RowsOk C vs rows)(b:Sl C 2 v (aN vs rows)):RowsT C v ((jM rows).map gZ):=by
 refine ⟨vs,by rw [h.1];simp [jM],fun i w r c hr=>?_, ?_⟩
 ·rw [jM,ME,LU] at hr;cases a:rows[i]? with
  | none=>rw [a] at hr;cases hr
  | some x =>
   rw [a] at hr;cases hr
   have:=h.2 i w x c a;show Sl C 1 w ((x.f.map qtx).map wc);rw [<- yo];exact this
 ·have e:List.zipWith (fun w (r:List Str × Str)=>[w,al r.2]) vs ((jM rows).map gZ)=aN vs rows:=by
   unfold jM aN;rw [ME,List.zipWith_map_right];rfl
  rw [e];exact b
theorem zx (C:Mem)(x lv:Value)(B:Bk)(l:List SrcQ)(O:BookZ C x B 0)(ae:bs B*bp B<=60)(aF:l.length<=300)
  (am:∀ D:Mem,C.le D->Pur cx.P 52 [x,lv] D fun u E=>∃ v,u=.tuple #[v,.int .i64 0]/\yJ E v l) :
  Pur cx.P 51 [x,lv] C fun u D=>ProbIn D (bs B*bp B) l u:=by
 have aG:=O;obtain ⟨n,hn⟩:∃ n,bs B*bp B=n:=⟨_,rfl⟩;have an:∀ D:Mem,C.le D->Gives cx.P 35 [x] D (.tuple #[.int .i64 n,.int .i64 0]):=fun D hD=>by
  have h:=D9 D x B 0 (O.mono hD) ae;rw [aI rfl,hn] at h;exact h
 rw [hn] at ae ⊢;obtain ⟨v1,v2,tv,cv,ov,rfl,h1,h2,h3,h4,h5⟩:=id O.i.ex;have aH:maxLen<=9223372036854775807:=by simp [maxLen]
 refine Ph func51 51 U3 fun w0=>Pb fun R a=>Pr U6 fun b2=>Pq U5 fun g=>C4 1 [1,2,4] a Z<|G.freeze 1 Z fun _ _ af=>Pb fun R a=>O8 (bkT af 5) U8<|Pn (an _ mup) U7<|C4 5 [1,2,4,6] a Z<|Pb fun R a=>O8 (bkT af 5) U8<|Pa U6<|PK (am _ mup) U7 (fun aJ _ _ ao=>?_);obtain ⟨wv,rfl,ap⟩:=ao;obtain ⟨vs,Q,S⟩:=ap;have T:=jV Q;obtain ⟨Aw,cw,rfl,aq,aK,_⟩:=id S;have ar:(bV vs l).length=l.length:=by unfold bV;simp [T]
 rw [ar] at S aq ⊢;refine C4 5 [4,6,8] a Z<|Px [(3,3)] Z fun R a=>Pa U6<|Ps [[al [48]]] U12 fun aL _ _ au=>Pa U6<|D.call (pK _ _ n [48] au.m_ om_) Z (.inr dc_) U6 (LR _) fl_ (fun aM _ aN _ av=>?_);obtain ⟨bz,rfl,rfl⟩:=av;rw [xG];refine PB [.int .i64 n,.slice none 0 0,.slice (some ⟨bz,0,none⟩) n n] U8<|Pq U5 fun k=>Pg (j:=0) U12<|Pd [4,8,10] a Z<|G.freezeArr 1 ((List.replicate n (0:Rat)).map aT) Z Z dy (by simp) fun _ _ aw=>C6 1 [4,8,10,11] Z<|C6 3 [4,10,11,30,31,32] Z<|G.nilArr 123 2<|G.nilArr 3 1<|G.perm (L':=[.arr (sA7 none 0 0) 123 2 0 (prC (vs.take 0) (l.take 0)).flatten,.arr (sB7 none 0 0) 3 1 0 (frC (l.take 0)).flatten,.obj k (.cells ⟨[.int .i64 n,.slice none 0 0,.slice (some ⟨bz,0,none⟩) n n]⟩ 80 (0,0)),.obj g (.cells ⟨[.int .i64 0,.slice none 0 0,.slice none 0 0]⟩ 80 (0,0))]) (pkL [1,0,0,0] Z)<|G.loop (fun fr C' t U=>∃ (i:Nat)(V:Option Addr)(n1 W:Nat)(A2:Option Addr)(n2 c2:Nat),(i<=l.length)/\fr=[(4,[],.pointer (some ⟨g,0,none⟩)),(10,[],.pointer (some ⟨k,0,none⟩)),(11,[],.slice A2 n2 c2),(30,[],.slice Aw l.length cw),(31,[],.int .i64 l.length),(32,[],.int .i64 i)]/\t=[.arr (sA7 V n1 W) 123 2 i (prC (vs.take i) (l.take i)).flatten,.arr (sB7 A2 n2 c2) 3 1 i (frC (l.take i)).flatten,.obj k (.cells ⟨[.int .i64 n,.slice V n1 W,.slice (some ⟨bz,0,none⟩) n n]⟩ 80 (0,0)),.obj g (.cells ⟨[.int .i64 0,.slice none 0 0,.slice none 0 0]⟩ 80 (0,0))]/\U=l.length-i) (hn_ [4,10,11,30,31,32] Z) ⟨0,none,0,0,none,0,0,LV _,Z,Z,Z⟩ (fun fr aO aP m _ X=>?_);obtain ⟨i,V,n1,W,A2,n2,c2,hi,rfl,rfl,rfl⟩:=X;refine C6 1 [4,10,11,30,31,32,33] Z<|O9 (fun Y=>?_) fun Y=>?_
 ·have aa:i<l.length:=by
   have:=K5 Y;omega
  obtain ⟨s,F⟩:∃ s,l[i]?=some s:=⟨l[i],aj aa⟩;obtain ⟨w,ab⟩:∃ w,vs[i]?=some w:=⟨vs[i]'om_,aj om_⟩;have ay:=Q.2 i w s.r ab (by rw [LU,F];rfl);obtain ⟨Ax,ag,rfl,_⟩:=id ay;have ac:=FL T ab F;have ad:=Gl F;refine Pb fun R a=>Pm S.m_ U10 om_ (JQ ab F) fl_ fun aQ az=>O8 az U8<|Pq U5 fun aR=>Pg (j:=0) U12<|Pd [4,10,11,13,30,31,32] a Z<|G.freeze 0 Z fun _ _ ah=>G.cut (fun fr C' t U=>∃ (H:Option Addr)(I J:Nat)(K:Option Addr)(L M:Nat),(True)/\fr=[(4,[],.pointer (some ⟨g,0,none⟩)),(10,[],.pointer (some ⟨k,0,none⟩)),(11,[],.slice K L M),(30,[],.slice Aw l.length cw),(31,[],.int .i64 l.length),(32,[],.int .i64 i)]/\t=[.arr (sA7 H I J) 123 2 (i+1) (prC (vs.take (i+1)) (l.take (i+1))).flatten,.arr (sB7 K L M) 3 1 (i+1) (frC (l.take (i+1))).flatten,.obj k (.cells ⟨[.int .i64 n,.slice H I J,.slice (some ⟨bz,0,none⟩) n n]⟩ 80 (0,0)),.obj g (.cells ⟨[.int .i64 0,.slice none 0 0,.slice none 0 0]⟩ 80 (0,0))]) ?_ (fun fr aS aU U aV X=>?_)
  ·refine PV (.cut [0,1,2,3,6,7,8] (.alt 4 (.cut [] (.alt 5 (.fin [11,9,10,12,13]) (.alt 9 (.fin [5,11,10,12,13]) .stop))) (.alt 9 (.fin [4,5,11,10,12,13]) .stop))) [(3,0),(8,0)] Z Z kr_ fun R y a z=>Pa U6<|Pe (.tail _ (.tail _ (.head _))) U9<|Pa U6<|P4 (fun _=>((bkT ah 2).mono y)) U9<|Pc 2 Z<|P4 (fun _=>((bkT ah 1).mono y)) U9<|PF z Z ⟨?_, ?_,trivial⟩
   ·refine Ps [[.slice Ax (s.r.f.map fH).length ag,al (qtx s.r.b)]] U12 fun aA aB _ N=>PF z Z ⟨?_, ?_,trivial⟩
    ·refine Pu (j:=0) U11 N.m_ Z (by simp only [aE,maxLen];omega) (by show (i+1)*40<=_;omega) fl_ fun c d e=>Pa U6<|Ps [[.int .i64 s.n]] U12 fun ai ak _ A=>Pu (j:=1) U11 A.m_ Z (by simp only [aE,maxLen];omega) (by show (i+1)*8<=_;omega) fl_ fun o p q=>Pg (j:=2) U12<|Pa U6<|Pd [4,10,11,30,31,32] a Z ?_;clear a y z R;exact G.perm (L':=[.arr (sA7 c d e) 123 2 (i+1) (prC (vs.take (i+1)) (l.take (i+1))).flatten,.arr (sB7 o p q) 3 1 (i+1) (frC (l.take (i+1))).flatten,.obj k (.cells ⟨[.int .i64 n,.slice c d e,.slice (some ⟨bz,0,none⟩) n n]⟩ 80 (0,0)),.obj g (.cells ⟨[.int .i64 0,.slice none 0 0,.slice none 0 0]⟩ 80 (0,0))]) (by rw [ac,ad,MK,MK];(exact pkL [2,1,0,0] Z))<|Pj 0 mup (hn_ [4,10,11,30,31,32] Z) ⟨c,d,e,o,p,q,trivial,Z,Z⟩
    ·refine Ps [[.int .i64 s.n]] U12 fun ai ak _ A=>Pu (j:=0) U11 N.m_ Z (by simp only [aE,maxLen];omega) (by show (i+1)*40<=_;omega) fl_ fun c d e=>Pa U6<|Pu (j:=1) U11 A.m_ Z (by simp only [aE,maxLen];omega) (by show (i+1)*8<=_;omega) fl_ fun o p q=>Pg (j:=2) U12<|Pa U6<|Pd [4,10,11,30,31,32] a Z ?_;clear a y z R;exact G.perm (L':=[.arr (sA7 c d e) 123 2 (i+1) (prC (vs.take (i+1)) (l.take (i+1))).flatten,.arr (sB7 o p q) 3 1 (i+1) (frC (l.take (i+1))).flatten,.obj k (.cells ⟨[.int .i64 n,.slice c d e,.slice (some ⟨bz,0,none⟩) n n]⟩ 80 (0,0)),.obj g (.cells ⟨[.int .i64 0,.slice none 0 0,.slice none 0 0]⟩ 80 (0,0))]) (by rw [ac,ad,MK,MK];(exact pkL [2,1,0,0] Z))<|Pj 0 mup (hn_ [4,10,11,30,31,32] Z) ⟨c,d,e,o,p,q,trivial,Z,Z⟩
   ·refine Ps [[.int .i64 s.n]] U12 fun ai ak _ A=>Ps [[.slice Ax (s.r.f.map fH).length ag,al (qtx s.r.b)]] U12 fun aA aB _ N=>Pu (j:=0) U11 N.m_ Z (by simp only [aE,maxLen];omega) (by show (i+1)*40<=_;omega) fl_ fun c d e=>Pa U6<|Pu (j:=1) U11 A.m_ Z (by simp only [aE,maxLen];omega) (by show (i+1)*8<=_;omega) fl_ fun o p q=>Pg (j:=2) U12<|Pa U6<|Pd [4,10,11,30,31,32] a Z ?_;clear a y z R;exact G.perm (L':=[.arr (sA7 c d e) 123 2 (i+1) (prC (vs.take (i+1)) (l.take (i+1))).flatten,.arr (sB7 o p q) 3 1 (i+1) (frC (l.take (i+1))).flatten,.obj k (.cells ⟨[.int .i64 n,.slice c d e,.slice (some ⟨bz,0,none⟩) n n]⟩ 80 (0,0)),.obj g (.cells ⟨[.int .i64 0,.slice none 0 0,.slice none 0 0]⟩ 80 (0,0))]) (by rw [ac,ad,MK,MK];(exact pkL [2,1,0,0] Z))<|Pj 0 mup (hn_ [4,10,11,30,31,32] Z) ⟨c,d,e,o,p,q,trivial,Z,Z⟩
  obtain ⟨H,I,J,K,L,M,_,rfl,rfl⟩:=X;refine Pb fun R a=>Pi _ U7<|C4 1 [4,10,11,30,31,32] a Z<|Pk (m':=l.length-(i+1)) om_ mup (hn_ [4,10,11,30,31,32] Z) ⟨i+1,H,I,J,K,L,M,om_,Z,Z,Z⟩
 ·have aa:i=l.length:=by
   have:=LS Y;omega
  subst aa;refine Pb fun R a=>Pe (.tail _ (.tail _ (.head _))) U9<|Pa U6<|Pg (j:=3) U12<|C4 1 [4,5] a Z ?_;rw [MZ (show vs.length<=l.length by omega),Mb];refine G.freezeArr 1 (prC vs l) Z Z (Is _ _) (by rw [prC,dF (by simp [T]),ax]) fun _ _ aC=>G.freezeArr 1 (frC l) Z Z (I1 _) (ax _) fun _ _ aD=>Pl (Qh (.head _) U5 ?_);exact ⟨Z,⟨_,_,_,Z,(Ft (rows:=l.map SrcQ.r) (RowsOk.m_ Q) aC.m_),aw.mono mup,aD⟩⟩
structure Calm (B:Bk)(fs:List Rat)(RO:Nat->List RowQ):Prop where
 rich:Rich B fs RO
 n12:bs B*bp B<=12
 thI:∀ r∈bu B,RowI r
 roI:∀ i,i<B.obs.length->∀ r∈RO i,RowI r
 th:(bu B).length<=24
 ro:∀ i,i<B.obs.length->(RO i).length<=8
 ob:B.obs.length<=12
structure SetIn (n:Nat)(l:List Nat):Prop where
 lt:∀ i∈l,i<n
 nd:l.Nodup
def ep (B:Bk)(RO:Nat->List RowQ)(l:List Nat):List RowQ:=(bM (bu B) RO l).map SrcQ.r
def Ew (B:Bk)(RO:Nat->List RowQ)(l:List Nat):Prop:=(ek (bs B*bp B) (jM (ep B RO l))).Hold
open Classical in
noncomputable def lg (B:Bk)(RO:Nat->List RowQ)(l:List Nat):Bool:=decide (Ew B RO l)
theorem jZ {B:Bk}{a:Nat->List RowQ}{l:List Nat}:ep B a l=bu B++l.flatMap a:=by
 unfold ep bM jy;rw [My,ME,List.map_flatMap];congr 1
 ·exact List.map_id _
 ·congr 1;funext i;rw [ME];exact List.map_id _
theorem SetIn.len {n:Nat}{l:List Nat}(h:SetIn n l):l.length<=n:=by
 have:=List.Nodup.length_le_of_subset (l₂:=List.range n) h.nd fun v a=>Me.2 (h.lt v a)
 rwa [MJ] at this
section
variable {B:Bk} {fs:List Rat} {RO:Nat->List RowQ} {l:List Nat}
theorem KB {c:Nat}{f:Nat->List RowQ}:∀ {l:List Nat},(∀ i∈l,(f i).length<=c)->(l.flatMap f).length<=c*l.length
 | [],_=>LV _
 | i::l,h=>by
  rw [List.flatMap_cons,LZ,Ml,Nat.mul_succ];have h1:=h i aF;have h2:=KB (l:=l) fun j a=>h j (LW _ a);omega
theorem Calm.cnt (h:Calm B fs RO)(a:SetIn B.obs.length l):(ep B RO l).length<=120:=by
 rw [jZ,LZ];have h1:=KB (c:=8) (f:=RO) fun i b=>h.ro i (a.lt i b);have h2:=a.len;have h3:=h.ob;have h4:=h.th;omega
theorem Calm.rowI (h:Calm B fs RO)(a:SetIn B.obs.length l):∀ r∈ep B RO l,RowI r:=by
 intro r hr;rw [jZ] at hr;rcases Mh.1 hr with hr | hr
 ·exact h.thI r hr
 ·obtain ⟨i,b,hr⟩:=List.mem_flatMap.1 hr;exact h.roI i (a.lt i b) r hr
theorem tw {s p:Nat}{a:List Lay}:∀ n,∀ r∈ba s p a n,r.f.length=s*p
 | 0,r,hr=>by cases hr
 | n+1,r,hr=>by
  rcases Mh.1 hr with hr | hr
  ·exact tw n r hr
  ·have:∀ k,∀ r∈bh s p (a.getD (n+1) ⟨[],0,none⟩) (n+1) k,r.f.length=s*p:=by
    intro k;induction k with
    | zero=>intro r hr;cases hr
    | succ k b =>
     intro r hr;rcases Mh.1 hr with hr | hr
     ·exact b r hr
     ·unfold lE at hr;rcases Ma.1 hr with rfl | hr
      ·exact iN _ _
      ·split at hr
       ·cases hr
       ·rw [Mn.1 hr];exact iN _ _
   exact this p r hr
theorem JI {D:Int}{q:Rat}(h:Wl D q)(a:D≠0)(b:D.natAbs<=999999999):QB 1 q:=by
 obtain ⟨z,h1,h2⟩:=h;exact Ik a h1 om_ om_
theorem RowI.q {r:RowQ}(h:RowI r):(∀ x∈r.f,QB 1 x)/\QB 1 r.b:=by
 obtain ⟨D,h0,a,h1,h2⟩:=h;exact ⟨fun x c=>JI (h1 x c) h0 a,JI h2 h0 a⟩
theorem xA {a:List RowQ}{P:List Rat × Rat->Prop}(h:∀ r∈a,P (r.f,r.b)):∀ x∈jM a,P x:=fun x c=>by
 obtain ⟨r,hr,rfl⟩:=L4.1 c;exact h r hr
theorem Calm.q22 (h:Calm B fs RO)(a:SetIn B.obs.length l):∀ r∈jM (ep B RO l),(∀ x∈r.1,QB 22 x)/\QB 22 r.2 :=
 xA (P:=fun r=>(∀ x∈r.1,QB 22 x)/\QB 22 r.2) fun r hr=>⟨fun x b=>((h.rowI a r hr).q.1 x b).le dc_,(h.rowI a r hr).q.2.le dc_⟩
theorem Calm.rowsQ (h:Calm B fs RO)(a:SetIn B.obs.length l):RowsQ (bs B*bp B) (jM (ep B RO l)):=by
 refine ⟨xA (P:=fun r=>r.1.length=bs B*bp B) fun r hr=>?_,fun r hr=>⟨fun x b=>((h.q22 a r hr).1 x b).le dc_,(h.q22 a r hr).2.le dc_⟩, ?_⟩
 ·rw [jZ] at hr;rcases Mh.1 hr with hr | hr
  ·exact tw _ r hr
  ·obtain ⟨i,c,hr⟩:=List.mem_flatMap.1 hr;exact (nB h.rich (a.lt i c)).2 r hr
 ·have:=h.cnt a;rw [jM,ax];omega
theorem Calm.lim (h:Calm B fs RO)(a:SetIn B.obs.length l):Lp.Lim (ek (bs B*bp B) (jM (ep B RO l))) (fun _=>0) 16:=F7 h.n12 (h.rowI a)
theorem Jn {n:Nat}(c:SetIn n l):chZ n (l.map fun i:Nat=>(i:Int))=0:=by
 refine jH fun i b=>?_;rw [ax] at b;have f:l[i]?=some l[i]:=aj b;have g:(l.map fun i:Nat=>(i:Int)).getD i 0=(l[i]:Int):=by rw [ak,LU,f];rfl
 have h1:=c.lt l[i] (MP b);unfold pn;rw [g,aC om_,aC];intro hm;rw [<- O2] at hm;obtain ⟨k,h,e⟩:=L4.1 hm;have m:k=l[i]:=by omega
 subst m;obtain ⟨j,a⟩:=M2 h;rw [Mz] at a;split at a
 ·rename_i o;have d:j<l.length:=by omega
  have p:=List.pairwise_iff_getElem.1 c.nd j i d b o;rw [aj d] at a;exact p (Nc a)
 ·cases a
theorem xZ (l:List Nat):(l.map fun i:Nat=>(i:Int)).map Int.toNat=l:=by
 rw [ME];have e:∀ i∈l,(Int.toNat ∘ fun i:Nat=>(i:Int)) i=id i:=fun i _=>NO i;rw [List.map_congr_left e,List.map_id]
theorem qN (C:Mem)(g:Tabs C)(a b:Value)(j:BookIn C a B)(h:Calm B fs RO)(c:SetIn B.obs.length l)(k:Sl C 1 b (l.map aU)) :
  ∀ D:Mem,C.le D->Pur cx.P 52 [a,b] D fun u E=>∃ v,u=.tuple #[v,.int .i64 0]/\yJ E v (bM (bu B) RO l):=fun D d=>by
 have m:=Jn c;have e:=h.cnt c;have n:l.length<=12:=Md c.len h.ob;have f:=Ay D (g.mono d) a b B fs RO (l.map fun i:Nat=>(i:Int)) (j.mono d) h.rich (by rw [ME];exact k.mono d) (by rw [ax];omega) (fun _=>by
  rw [xZ];unfold ep at e;rw [ax] at e;omega)
 rw [m,aI rfl,xZ] at f;exact f
end
theorem yk (C:Mem)(k:Tabs C)(e f:Value)(B:Bk)(H:List Rat)(a:Nat->List RowQ)(l:List Nat)(g:BookIn C e B)(h:Calm B H a)(b:SetIn B.obs.length l)(I:Sl C 1 f (l.map aU)) :
  Gives cx.P 47 [e,f] C (.tuple #[.bool (lg B a l),.int .i64 0]):=by
 have ab:=g;have J:=h.rich.bookz k g;have u:=h.cnt b;have v:=fun (D:Mem)(i:C.le D)=>zx D e f B (bM (bu B) a l) (J.mono i) (by have:=h.n12;omega) (by unfold ep at u;rw [ax] at u;omega) (qN D (k.mono i) e f (g.mono i) h b (I.mono i));obtain ⟨n,w⟩:∃ n,bs B*bp B=n:=⟨_,rfl⟩;have K:=h.n12;have m:=h.rowsQ b;have y:=h.q22 b;have o:=h.lim b;obtain ⟨rows,p⟩:∃ rows,ep B a l=rows:=⟨_,rfl⟩;have L:lg B a l=@decide (ek n (jM rows)).Hold (Classical.propDecidable _):=by
  unfold lg Ew;rw [w,p]
 have M:(bM (bu B) a l).map SrcQ.r=rows:=p;rw [w] at v m o K;rw [p] at m y o;obtain ⟨v1,v2,tv,cv,ov,rfl,_⟩:=id g.ex;have ac:maxLen<=9223372036854775807:=by simp [maxLen]
 refine Ph func47 27 U3 fun w0=>Pb fun R d=>Pr U6 fun b2=>C4 2 [1,2] d Z<|G.freeze 0 Z fun _ _ N=>Pb fun R d=>O8 (bkT N 5) U8<|Pa U6<|PK (v _ mup) U7 (fun ad _ _ O=>?_);obtain ⟨rv,ae,fv,rfl,q,z,af⟩:=O.ex;rw [M] at q;obtain ⟨_,_,_,Q⟩:=id q;obtain ⟨Ar,cr,rfl,_⟩:=id Q;obtain ⟨Ao,co,rfl,_⟩:=id z;refine Pc 3 Z<|Pq U5 fun b6=>Pg (j:=0) U12<|C4 1 [6] d Z<|G.freeze 0 Z fun _ _ S=>Pb fun R d=>O8 (bkT S 3) U8<|PI (FP _ k.m_ n _ _ (jM rows) (List.replicate n 0) q.m_ z.m_ m (fun x T=>by rw [(List.mem_replicate.1 T).2];exact QB_zero.le dc_) y om_ (by simp) o) U7 fl_ (fun U _ _ V=>?_);have W:∃ (s:Value)(E:Option Addr)(nd F:Nat)(t:Bool),U=.tuple #[s,.agg ⟨[.slice E nd F]⟩,.bool t,.int .i64 0]/\lg B a l=t:=by
  rw [L];cases V with
  | yes pt s X _ _=>exact ⟨_,_,_,_,true,rfl,@Mc _ (Classical.propDecidable _) X⟩
  | no du vd Y h1 =>
   obtain ⟨A,c,rfl,_⟩:=id h1;exact ⟨_,_,_,_,false,Z,@Mk _ (Classical.propDecidable _) Y.not⟩
 obtain ⟨s,E,nd,F,t,rfl,aa⟩:=W;refine Pc 5 Z<|Pq U5 fun b9=>Pa U6<|Pg (j:=0) U12<|C4 2 [10,11] d Z<|C6 4 [4,5] Z<|Pl (G.dropAll (PE U3 ?_));exact ⟨by rw [aa],Z⟩
end Go.Proofs.YthnpijdjlddpmaaGreatDoor
namespace Go.Jog
open Go
def keyU:KeyT (.int .u64) Nat where
 enc n:=.int .u64 (n:Int)
 isKey _:=rfl
 same a b:=by
  simp only [Instr.sameNow,Ny];congr 1;by_cases h:a=b
  ·subst h;simp
  ·have h2:¬ ((a:Int)=b):=fun e=>h (Int.ofNat_inj.1 e);simp only [M5,ne_eq,h,decide_false];exact h2
end Go.Jog
namespace Go.Proofs.YthnpijdjlddpmaaGreatDoor
open Tryz
open Go Go.Jog
set_option maxRecDepth 100000
variable {h:Nat->Bool}{i:Nat}{km:List (Nat × Value)}{l:List Nat}{n s:Nat}
structure AscIn (n:Nat)(l:List Nat):Prop where
 lt:∀ i∈l,i<n
 up:l.Pairwise (·<·)
theorem AscIn.set (h:AscIn n l):SetIn n l:=⟨h.lt,h.up.imp fun h=>Nat.ne_of_lt h⟩
theorem GS (h:AscIn n l):JD n (l.map fun i:Nat=>(i:Int))=0:=by
 refine jH fun i a=>?_;rw [ax] at a;have b:∀ j (c:j<l.length),(l.map fun i:Nat=>(i:Int)).getD j 0=(l[j]:Int):=fun j c=>by
  rw [ak,LU,aj c];rfl
 have h1:=h.lt l[i] (MP a);unfold kG;rw [b i a,aC om_,aC];rintro ⟨h0,h2⟩;rw [b (i-1) om_] at h2;have:=List.pairwise_iff_getElem.1 h.up (i-1) i om_ a om_;omega
section
variable {B:Bk} {fs:List Rat} {RO:Nat->List RowQ} {l:List Nat}
theorem uP (C:Mem)(d:Tabs C)(a b:Value)(e:BookIn C a B)(h:Calm B fs RO)(c:AscIn B.obs.length l)(f:Sl C 1 b (l.map aU)):Gives cx.P 49 [a,b] C (.int .i64 0):=by
 have j:=h.rich.bookz d e;have k:=GS c;have g:=GM C a b B 0 (l.map fun i:Nat=>(i:Int)) j (by have:=h.n12;omega) (by rw [ME];exact f) (by rw [ax];have:=c.set.len;have:=h.ob;omega) (fun _ _ D m=>Fn.mono (qN C d a b e h c.set f D m) fun u C' n _ ⟨h1,v,h2,_⟩=>⟨h1,v,h2⟩);rw [k,aC (fun h=>h rfl)] at g;exact g
end
theorem yL (C:Mem)(c:Tabs C)(d e:Value)(B:Bk)(f:List Rat)(b:Nat->List RowQ)(l:List Nat)(g:BookIn C d B)(h:Calm B f b)(i:AscIn B.obs.length l)(j:Sl C 1 e (l.map aU)) :
  Gives cx.P 25 [d,e] C (.tuple #[.bool (lg B b l),.int .i64 0]):=by
 have k:=g;obtain ⟨o,p,q,r,s,rfl,_⟩:=id g.ex;refine Ph func25 18 U3 fun w0=>Pb fun R a=>Pr U6 fun t=>C4 2 [1,2] a Z<|G.freeze 0 Z fun _ _ m=>Pb fun R a=>O8 (bkT m 5) U8<|Pa U6<|Pn (uP _ c.m_ _ _ k.m_ h i j.m_) U7<|C4 1 [1,2,6] a Z<|C6 2 [1,2,6,11] Z<|O9 (fun n=>?_) fun n=>?_
 ·exact absurd n dc_
 ·refine Pb fun R a=>O8 (bkT m 5) U8<|Pa U6<|Pn (yk _ c.m_ _ _ B f b l k.m_ h i.set j.m_) U7<|C4 4 [4,5] a Z<|Pl (G.dropAll (PE U3 ?_));exact ⟨Z,Z⟩
def vf (h:Nat->Bool)(km:List (Nat × Value)):Prop:=∀ s v,cV km s=some v->v=.bool (h s)
theorem ut (h:Nat->Bool):vf h []:=fun s v e=>by cases e
theorem Dw (b:vf h km):vf h (fp km s (.bool (h s))):=fun t v e=>by
 by_cases a:s=t
 ·subst a;rw [jt] at e;exact (Nc e).symm
 ·rw [ir a] at e;exact b t v e
theorem zM (a:vf h km)(s:Nat):∃ x f:Bool,jE (.bool false) true (cV km s)=.tuple #[.bool x,.bool f]/\(f=true->x=h s):=by
 cases e:cV km s with
 | none=>exact ⟨false,false,rfl,fun h=>by cases h⟩
 | some v=>exact ⟨h s,true,by rw [a s v e];rfl,fun _=>rfl⟩
theorem sN:∀ n<6,∀ s<2 ^ n,(∀ i∈bY s,i<n)/\(bY s).Pairwise (·<·):=by decide +kernel
theorem Jq (a:n<6)(b:s<2 ^ n):AscIn n (bY s):=⟨(sN n a s b).1,(sN n a s b).2⟩
structure SrchIn (C:Mem)(B:Bk)(b0 bm:Nat):Prop where
 ex:∃ v1 v2 tv cv ov,C b0=some (.cells ⟨[v1,v2,tv,cv,ov,.map (some bm)]⟩ 153 (0,0))/\BookIn C (.agg ⟨[v1,v2,tv,cv,ov]⟩) B
theorem SrchIn.mono {C D:Mem}{B:Bk}{a b:Nat}(h:SrchIn C B a b)(c:C.le D):SrchIn D B a b:=by
 obtain ⟨d,e,f,g,i,h1,h2⟩:=h.ex;exact ⟨d,e,f,g,i,c _ _ h1,h2.mono c⟩
theorem SrchIn.m_ {C D:Mem}{B:Bk}{a b:Nat}(h:SrchIn C B a b)(c:C.le D:=by exact mup):SrchIn D B a b:=SrchIn.mono h c
noncomputable def hS (B:Bk)(RO:Nat->List RowQ)(s:Nat):Bool:=lg B RO (bY s)
theorem tI (C:Mem)(k:Tabs C)(B:Bk)(l:List Rat)(b:Nat->List RowQ)(m c s:Nat)(d:List (Nat × Value))(t:SrchIn C B m c)(h:Calm B l b)(n:B.obs.length<6)(v:s<2 ^ B.obs.length)(e:vf (hS B b) d) :
  Jog.Fn cx.P 40 [.pointer (some ⟨m,0,none⟩),.int .u64 s] C [.obj c (aM keyU.enc d)] fun u _ o=>u=.tuple #[.bool (hS B b s),.int .i64 0]/\∃ p,vf (hS B b) p/\o=[.obj c (aM keyU.enc p)]:=by
 obtain ⟨F,G,H,I,J,g,w⟩:=t.ex;obtain ⟨x,f,y,z⟩:=zM e s;have i:=tZ n;refine Ph func40 41 U3 fun w0=>Po (L':=[.obj c (aM keyU.enc d)]) Z<|C6 2 [0,1] Z<|O7 3 Z fun R a=>O8 (bkT g 1) U8<|Pa U6<|Qk keyU (.head _) Z Z Z Z Z Z Z Z kr_ Z y Z Z<|C4 5 [0,1,6,7] a Z<|C6 1 [0,1,6,19] Z<|O9 (fun q=>?_) fun q=>?_
 ·have A:f=true:=q;refine C6 3 [4,5] Z<|Pl (PE U3 ?_);exact ⟨by rw [z A],d,e,Z⟩
 ·refine Pv [0,1,2,3,4,5,6,7,8,9,10,11] [(6,1),(3,0)] Z kr_ fun R r a=>Pc 3 Z<|P4 (fun _=>((bkT g 5).mono r)) U9<|Pa U6<|PI (ml _ k.m_ s om_) U7 fl_ fun K _ _ E=>PH (fun _=>(yk _ k.m_ _ _ B l b (bY s) w.m_ h (Jq n v).set E.m_)) U9<|Pc 5 Z<|Pd [0,1,8,9] a Z ?_;clear a r R;refine C6 2 [0,1,8,9,32] Z<|O9 (fun i=>?_) fun i=>?_
  ·refine O7 3 Z fun R a=>O8 (bkT g 1) U8<|Pc 2 Z<|D.mapUpdate keyU (j:=0) Z Z Z Z Z Z Z Z Z Z kr_<|Pd [8,9] a Z<|C6 4 [4,5] Z<|Pl (PE U3 ?_);exact ⟨Z,_,Dw e,Z⟩
  ·exact absurd i dc_
def AW (i n:Nat):List Nat:=(List.range n).map fun q=>if q<i then q else 0
theorem xg :(AW i n).length=n:=by simp [AW]
theorem Bp :jx [.int .i64 0] n=((AW 0 n).map aU).flatten:=by
 rw [eh];congr 1;unfold AW;rw [ME];refine (List.eq_replicate_iff.2 ⟨by simp,fun x a=>?_⟩).symm;obtain ⟨q,_,rfl⟩:=L4.1 a;rfl
theorem ER :(AW i n).set i i=AW (i+1) n:=by
 refine List.ext_getElem? fun j=>?_;unfold AW;rw [List.getElem?_set,LU,LU,ax,MJ];by_cases a:j<n
 ·rw [Mr a];by_cases e:i=j
  ·subst e;simp [a]
  ·have:(j<i+1) ↔ j<i:=by omega
   simp [e,this]
 ·rw [LX (show (List.range n).length<=j by simp;omega)];simp;omega
theorem Bq :AW n n=List.range n:=by
 unfold AW;have e:∀ q∈List.range n,(if q<n then q else 0)=id q:=fun q a=>aI (Me.1 a);rw [List.map_congr_left e,List.map_id]
theorem Cb (n:Nat):AscIn n (List.range n):=⟨fun _b a=>Me.1 a,List.pairwise_lt_range⟩
theorem uD:∀ i,(aU i).length=1:=fun _=>rfl
theorem oA (l:List Nat):∀ r∈l.map aU,r.length=1:=fun r hr=>by
 obtain ⟨x,_,rfl⟩:=L4.1 hr;rfl
theorem tC (C:Mem)(w:Tabs C)(p:Value)(B:Bk)(x:List Rat)(y:Nat->List RowQ)(q:BookIn C p B)(h:Calm B x y) :
  Jog.Fn cx.P 37 [p] C [] fun u D b=>(10<B.obs.length/\u=.tuple #[.pointer none,.int .i64 4]/\b=[])∨(B.obs.length<=10/\∃ r s,u=.tuple #[.pointer (some ⟨r,0,none⟩),.int .i64 0]/\SrchIn D B r s/\b=[.obj s (aM keyU.enc [])]):=by
 have z:=h.ob;have d:=q;obtain ⟨W,X,Y,cv,ov,rfl,h1,h2,h3,h4,h5⟩:=id q.ex;obtain ⟨A,E,rfl,_⟩:=id h1;obtain ⟨A2,c2,rfl,_⟩:=id h2;obtain ⟨F,H,rfl,_⟩:=id h3;obtain ⟨I,J,rfl,_⟩:=id h4;obtain ⟨K,L,rfl,M,aa,_⟩:=id h5;obtain ⟨n,e⟩:∃ n,B.obs.length=n:=⟨_,rfl⟩;have ab:maxLen<=9223372036854775807:=by simp [maxLen]
 rw [e] at z;simp only [ax,e] at h5 M d ⊢;refine Ph func37 34 U3 fun w0=>Pb fun R a=>Pr U6 fun N=>C4 2 [1] a Z<|G.freeze 0 Z fun _ _ f=>O7 1 Z fun R a=>O8 (bkT f 1) U8<|Pa U6<|P3 U9 (LP _) (by show 8*n<=_;omega) (by simp only [maxLen];omega) fl_ fun c=>C4 1 [1,4] a Z<|C6 3 [1,4,12,13] Z<|Po (L':=[.arr (.slice (some ⟨c,0,none⟩) n n) 3 1 n ((AW 0 n).map aU).flatten]) (by rw [<- Bp];rfl)<|G.loop (fun fr C' b O=>∃ (i:Nat),(i<=n)/\fr=[(1,[],.pointer (some ⟨N,0,none⟩)),(4,[],.slice (some ⟨c,0,none⟩) n n),(12,[],.int .i64 n),(13,[],.int .i64 i)]/\b=[.arr (.slice (some ⟨c,0,none⟩) n n) 3 1 n ((AW i n).map aU).flatten]/\O=n-i) (hn_ [1,4,12,13] Z) ⟨0,LV _,Z,Z,Z⟩ (fun fr ac ad m Q S=>?_);obtain ⟨i,hi,rfl,rfl,rfl⟩:=S;refine C6 1 [1,4,12,13,14] Z<|O9 (fun g=>?_) fun g=>?_
 ·have k:i<n:=by
   have:=K5 g;omega
  refine C6 2 [1,4,5,12,13] Z<|O7 3 Z fun R a=>PG (i*1) U10 (fun _=>⟨by omega,by omega,Z⟩) U2<|PJ (j:=0) U11 (by show i*1+1<=_;rw [bS uD,xg];omega)<|Pd [1,4,12,13] a Z<|Pb fun R a=>Pi _ U7<|C4 1 [1,4,12,13] a Z<|Po (L':=[.arr (.slice (some ⟨c,0,none⟩) n n) 3 1 n ((AW (i+1) n).map aU).flatten]) (by rw [<- ER,<- bK uD _ (by rw [xg];exact k)];rfl)<|Pk (m':=n-(i+1)) om_ Q (hn_ [1,4,12,13] Z) ⟨i+1,om_,Z,Z,Z⟩
 ·have k:i=n:=by
   have:=LS g;omega
  subst k;rw [Bq];refine G.freezeArr 0 ((List.range i).map aU) Z Z (oA _) (by simp) fun _ _ T=>Pb fun R a=>O8 (bkT f 5) U8<|Pa U6<|Pn (uP _ w.m_ _ _ d.m_ h (e ▸ Cb i) T.m_) U7<|C4 1 [1,4,6] a Z<|C6 2 [1,4,6,25] Z<|O9 (fun t=>?_) fun t=>?_
  ·exact absurd t dc_
  ·refine C6 3 [1,29] Z<|O9 (fun l=>?_) fun l=>?_
   ·have o:10<i:=by
     have:=K5 l;omega
    refine C6 2 [2,3] Z<|Pl (G.dropAll (PE U3 ?_));exact .inl ⟨o,Z,Z⟩
   ·have o:i<=10:=by
     have:=LS l;omega
    refine Pb fun R a=>O8 (bkT f 5) U8<|D.makeMap keyU Z Z Z Z fl_ fun v=>PB [.slice A B.pts.length E,.slice A2 B.tris.length c2,.slice F B.terr.length H,.slice I B.col.length J,.slice K i L,.map (some v)] U8<|Pr U6 fun U=>C4 2 [2,3] a Z<|G.freeze 0 Z fun _ _ V=>Pl (PE U3 ?_);exact .inr ⟨o,U,v,Z,⟨_,_,_,_,_,V,d.mono mup⟩,Z⟩
theorem rx (C:Mem)(f:Tabs C)(a:Value)(B:Bk)(b:List Rat)(c:Nat->List RowQ)(g:BookIn C a B)(h:Calm B b c)(j:B.obs.length<=10) :
  Jog.Fn cx.P 37 [a] C [] fun u D i=>∃ d e,u=.tuple #[.pointer (some ⟨d,0,none⟩),.int .i64 0]/\SrchIn D B d e/\i=[.obj e (aM keyU.enc [])] :=
 Fn.mono (tC C f a B b c g h) fun _ _ _ _ h=>h.elim (fun h=>absurd h.1 om_) (·.2)
theorem nj (C:Mem)(d:Tabs C)(a:Value)(B:Bk)(b:List Rat)(c:Nat->List RowQ)(e:BookIn C a B)(h:Calm B b c)(g:10<B.obs.length) :
  Jog.Fn cx.P 37 [a] C [] fun u _ f=>u=.tuple #[.pointer none,.int .i64 4]/\f=[] :=
 Fn.mono (tC C d a B b c e h) fun _ _ _ _ h=>h.elim (·.2) (fun h=>absurd h.1 om_)
end Go.Proofs.YthnpijdjlddpmaaGreatDoor
namespace Go.Jog
variable {f:List Nat}{h:Nat->Bool}{i n s:Nat}{z:Int}
def vc (f:List Nat)(z:Int):Prop:=(f=[]/\z=-1)∨∃ x,f.head?=some x/\z=(fZ x:Int)/\∀ y∈f,fZ y=fZ x
theorem zi (h:vc f z)(a:∀ x∈f,fZ x<=fZ s)(c:¬ (0<=z/\z<(fZ s:Int))):vc (f++[s]) (fZ s):=by
 refine .inr ?_;rcases h with ⟨rfl,_⟩ | ⟨x,h1,h2,h3⟩
 ·exact ⟨s,Z,Z,by simp⟩
 ·have b:x∈f:=List.mem_of_mem_head? h1;have e:fZ x=fZ s:=by have:=a x b;omega
  refine ⟨x,by rw [List.head?_append,h1];rfl,by rw [e],fun y hy=>?_⟩;rcases Mh.1 hy with hy | hy
  ·exact h3 y hy
  ·rw [Mn.1 hy,e]
theorem tU (a:h s=false):kL h f s=f:=by
 unfold kL;rw [a];simp
theorem xH (a:vc f z)(c:¬ (0<=z/\z<(fZ s:Int)))(b:h s=true):kL h f s=f++[s]:=by
 unfold kL;rw [b];rcases a with ⟨rfl,_⟩ | ⟨x,h1,h2,_⟩
 ·simp
 ·rw [h1];have:¬ fZ x<fZ s:=by omega
  simp [this]
theorem xE {h:Nat->Bool}:∀ (l f:List Nat){x:Nat},x∈l.foldl (kL h) f->x∈f∨x∈l
 | [],f,x,a=>.inl a
 | s::l,f,x,a=>by
  rcases xE l (kL h f s) a with h1 | h1
  ·unfold kL at h1;split at h1
   ·exact .inl h1
   ·rcases Mh.1 h1 with h2 | h2
    ·exact .inl h2
    ·rw [Mn.1 h2];exact .inr aF
  ·exact .inr (LW _ h1)
theorem xF {h:Nat->Bool}:∀ (l f:List Nat),(l.foldl (kL h) f).length<=f.length+l.length
 | [],f=>LP _
 | s::l,f=>by
  have h1:=xF (h:=h) l (kL h f s);have h2:(kL h f s).length<=f.length+1:=by
   unfold kL;split
   ·omega
   ·rw [LZ];exact LP _
  rw [M8,Ml];omega
theorem zq {x:Nat}(c:n<6)(b:(bO n)[i]?=some s)(d:(((bO n).take i).foldl (kL h) []).head?=some x)(o:fZ x<fZ s):nE h (bO n)=((bO n).take i).foldl (kL h) []:=by
 have f:=Hm n c;unfold nE
 conv=>lhs;rw [<- M4 i (bO n),List.foldl_append]
 refine tT d _ fun t g=>?_;obtain ⟨k,a⟩:=M2 g;rw [List.getElem?_drop] at a;obtain ⟨h5,j⟩:=aX.1 b;obtain ⟨l,m⟩:=aX.1 a;by_cases e:k=0
 ·subst e;rw [NF,b] at a;cases a
  omega
 ·have:=List.pairwise_iff_getElem.1 f i (i+k) h5 l om_;rw [j,m] at this;omega
theorem B6 (a:n<6)(b:(bO n)[i]?=some s)(c:vc (((bO n).take i).foldl (kL h) []) z)(d:0<=z/\z<(fZ s:Int)):nE h (bO n)=((bO n).take i).foldl (kL h) []:=by
 rcases c with ⟨_,e⟩ | ⟨x,h1,h2,_⟩
 ·omega
 ·exact zq a b h1 om_
theorem Ka (b:n<6)(c:(bO n)[i]?=some s):∀ x∈((bO n).take i).foldl (kL h) [],fZ x<=fZ s:=fun x d=>by
 rcases xE _ _ d with h1 | h1
 ·cases h1
 ·obtain ⟨k,a⟩:=M2 h1;rw [Mz] at a;split at a
  ·rename_i e;obtain ⟨h5,f⟩:=aX.1 c;obtain ⟨g,j⟩:=aX.1 a;have:=List.pairwise_iff_getElem.1 (Hm n b) k i g h5 e;rw [f,j] at this;exact this
  ·cases a
end Go.Jog
namespace Go.Proofs.YthnpijdjlddpmaaGreatDoor
open Tryz
open Go Go.Jog
set_option maxRecDepth 100000
variable {C:Mem}{outs:List (List Nat)}{v:Value}{vs:List Value}
def OutL (C:Mem)(vs:List Value)(outs:List (List Nat)):Prop:=vs.length=outs.length/\∀ (j:Nat)(v:Value)(o:List Nat),vs[j]?=some v->outs[j]?=some o->Sl C 1 v (o.map aU)
def OutsIn (C:Mem)(v:Value)(outs:List (List Nat)):Prop:=∃ vs,OutL C vs outs/\Sl C 1 v (vs.map fun x=>[x])
theorem OutL.mono {C D:Mem}{a:List Value}{b:List (List Nat)}(h:OutL C a b)(c:C.le D):OutL D a b:=⟨h.1,fun j v o h1 h2=>(h.2 j v o h1 h2).mono c⟩
theorem OutL.m_ {D:Mem}(h:OutL C vs outs)(a:C.le D:=by exact mup):OutL D vs outs:=OutL.mono h a
theorem OutsIn.mono {C D:Mem}{v:Value}{a:List (List Nat)}(h:OutsIn C v a)(b:C.le D):OutsIn D v a:=by
 obtain ⟨vs,h1,h2⟩:=h;exact ⟨vs,h1.mono b,h2.mono b⟩
theorem OutsIn.m_ {D:Mem}(h:OutsIn C v outs)(a:C.le D:=by exact mup):OutsIn D v outs:=OutsIn.mono h a
theorem OutL.nil (C:Mem):OutL C [] []:=⟨rfl,fun j v o h _=>by simp at h⟩
theorem OutL.snoc {o:List Nat}(h:OutL C vs outs)(b:Sl C 1 v (o.map aU)):OutL C (vs++[v]) (outs++[o]):=by
 refine ⟨by simp [h.1],fun j w q h1 h2=>?_⟩;rcases Nat.lt_trichotomy j vs.length with a | a | a
 ·rw [MF a] at h1;rw [MF (by rw [<- h.1];exact a)] at h2;exact h.2 j w q h1 h2
 ·subst a;rw [Ms (LP _),NZ] at h1;rw [h.1,Ms (LP _),NZ] at h2;cases h1
  cases h2
  exact b
 ·rw [LX (by simp;omega)] at h1;cases h1
theorem mU (a:List Value):a=(a.map fun x=>[x]).flatten:=by
 induction a with
 | nil=>rfl
 | cons v a b=>rw [Mp,Ng,<- b];rfl
theorem mS (a:List Value):∀ r∈a.map (fun x=>[x]),r.length=1:=fun r hr=>by
 obtain ⟨x,_,rfl⟩:=L4.1 hr;rfl
theorem oz (l:List Nat):∀ r∈l.map bX,r.length=1:=fun r hr=>by
 obtain ⟨x,_,rfl⟩:=L4.1 hr;rfl
theorem yA:∀ n<6,∀ s<2 ^ n,Ba (2 ^ n-1) s<2 ^ n:=by decide +kernel
noncomputable def hC (B:Bk)(RO:Nat->List RowQ)(s:Nat):Bool:=hS B RO (Ba (2 ^ B.obs.length-1) s)
theorem xw (C:Mem)(d:Tabs C)(B:Bk)(a f:Nat)(g:SrchIn C B a f)(h:B.obs.length<6) :
  Jog.Fn cx.P 38 [.pointer (some ⟨a,0,none⟩)] C [] fun u _ i=>∃ A n2 c,u=.slice A n2 c/\i=[.arr u 99 1 (2 ^ B.obs.length) (((bO B.obs.length).map bX).flatten)]:=by
 obtain ⟨j,k,l,m,o,b,n⟩:=g.ex;obtain ⟨_,_,_,_,_,e,_,_,_,_,h5⟩:=n.ex;cases e
 obtain ⟨A,c,rfl,_⟩:=id h5;rw [ax] at b;rw [<- HU];exact H6 C d a B.obs.length j k l m _ A c b h
theorem qS (C:Mem)(w:Tabs C)(T:Value)(B:Bk)(J:List Rat)(b:Nat->List RowQ)(U:BookIn C T B)(h:Calm B J b)(f:B.obs.length<6) :
  Pur cx.P 13 [T] C fun u D=>∃ v,u=.tuple #[v,.int .i64 0]/\OutsIn D v ((nE (hC B b) (bO B.obs.length)).map bY):=by
 have V:=U;obtain ⟨v1,v2,tv,cv,ov,rfl,_,_,_,_,h5⟩:=id U.ex;obtain ⟨A5,c5,rfl,am,aA,_⟩:=id h5;obtain ⟨n,k⟩:∃ n,B.obs.length=n:=⟨_,rfl⟩;have aB:maxLen<=9223372036854775807:=by simp [maxLen]
 have an:=fun (D:Mem)(hD:C.le D)(g c s:Nat)(km:List (Nat × Value))(y:SrchIn D B g c)(hs:s<2 ^ n)=>tI D (w.mono hD) B J b g c s km y h f (k ▸ hs);have W:∀ s,hC B b s=hS B b (Ba (2 ^ n-1) s):=fun s=>by unfold hC;rw [k]
 rw [k] at f;have aC:=tZ f;simp only [ax,k] at h5 am V ⊢;have K:=nq n;obtain ⟨F,d⟩:∃ F:Nat->List Nat,∀ i,F i=((bO n).take i).foldl (kL (hC B b)) []:=⟨_,fun _=>rfl⟩;have X:F 0=[]:=by rw [d,List.take_zero];rfl
 have A:∀ {i s},(bO n)[i]?=some s->F (i+1)=kL (hC B b) (F i) s:=fun {i s} hs=>by rw [d,d,uB hs]
 have ao:∀ i,i<=2 ^ n->(F i).length<=32:=fun i hi=>by
  rw [d];have h1:=xF (h:=hC B b) ((bO n).take i) [];rw [Mv] at h1;simp only [MM] at h1;omega
 refine Ph func13 69 U3 fun w0=>Pb fun R a=>Pr U6 fun b1=>C4 2 [1] a Z<|G.freeze 0 Z fun _ _ Y=>Px [(1,3)] Z fun R a=>O8 (bkT Y 5) U8<|D.call (rx _ w.m_ _ B J b V.m_ h om_) Z (.inr dc_) U6 (LR _) fl_ (fun aD _ aF _ ap=>?_);obtain ⟨g,c,rfl,y,rfl⟩:=ap;refine C4 5 [1,4,5] a Z<|C6 2 [1,4,5,19] Z<|O9 (fun aa=>?_) fun aa=>?_
 ·exact absurd aa dc_
 ·refine O7 1 Z fun R a=>O8 (bkT Y 1) U8<|Pa U6<|QH (n) Z Z Z Z Z Z (by first | exact .inl Z | exact .inr Z) Z om_ Z Z<|D.int (((2 ^ n-1:Nat):Int)) U4 (by rw [show (((2 ^ n:Nat):Int)-1)=((2 ^ n-1:Nat):Int) by have:=Nat.one_le_two_pow (n:=n);omega];exact rj om_) U2<|C4 1 [4,6] a Z<|C6 1 [4,6,7] Z<|C6 1 [4,6,7,8] Z<|Px [(1,3)] Z fun R a=>Pa U6<|D.call (xw _ w.m_ B g c y.m_ om_) Z (.inr dc_) U6 (LR _) fl_ (fun aG _ aH _ aq=>?_);obtain ⟨As,ns,cs,rfl,rfl⟩:=aq;rw [k];refine C4 2 [4,6,7,8,27,28,29] a Z<|G.freezeArr 0 ((bO n).map bX) Z Z (oz _) (by rw [ax,K]) (fun _ _ ab=>?_);obtain ⟨_,_,ac,_⟩:=id ab;rw [ax,K] at ac;cases ac
  refine G.nilArr 50 1<|G.loop (fun fr C' L μ=>∃ (i:Nat)(z:Int)(km:List (Nat × Value))(vs:List Value)(l:Option Addr)(n1 o:Nat),(i<=2 ^ n/\vf (hS B b) km/\OutL C' vs ((F i).map bY)/\vc (F i) z)/\fr=[(4,[],.pointer (some ⟨g,0,none⟩)),(6,[],.int .u64 ((2 ^ n-1:Nat):Int)),(7,[],.slice l n1 o),(8,[],.int .i64 z),(27,[],.slice As (2 ^ n) cs),(28,[],.int .i64 ((2 ^ n:Nat):Int)),(29,[],.int .i64 i)]/\L=[.arr (.slice l n1 o) 50 1 vs.length vs,.obj c (aM keyU.enc km)]/\μ=2 ^ n-i) (hn_ [4,6,7,8,27,28,29] Z) ⟨0, -1,[],[],none,0,0,⟨LV _,ut _,by rw [X];exact OutL.nil _,.inl ⟨X,Z⟩⟩,Z,Z,Z⟩ (fun fr aI aJ m _ hI=>?_);obtain ⟨i,z,km,vs,l,n1,o,⟨hi,ar,p,q⟩,rfl,rfl,rfl⟩:=hI;refine C6 1 [4,6,7,8,27,28,29,30] Z<|O9 (fun M=>?_) fun M=>?_
  ·have ad:i<2 ^ n:=by
    have:=K5 M;omega
   obtain ⟨s,hs⟩:∃ s,(bO n)[i]?=some s:=⟨(bO n)[i]'om_,aj om_⟩;have au:s<2 ^ n:=eJ (LQ hs);have N:s<32:=by omega
   have aK:vs.length=(F i).length:=by rw [p.1,ax]
   have aL:=ao i om_;refine Pb fun R a=>Pm ab.m_ U10 om_ (fD hs) fl_ fun aN av=>O8 av U8<|C4 1 [4,6,7,8,10,27,28,29] a Z<|O7 4 Z fun R a=>PH (fun _=>(rQ _ s N)) U9<|Pc 2 Z<|Pz U8<|Pd [4,6,7,8,10,27,28,29,40] a Z<|O9 (fun O=>?_) fun O=>?_
   ·have r:0<=z/\z<(fZ s:Int):=by
     simp only [L3,LY] at O;omega
    refine C6 3 [2,3] Z<|G.freezeArr 0 (vs.map fun x=>[x]) Z (mU vs) (mS vs) (ax _) fun C8 _ Q=>Pl (G.dropAll (PE U3 ?_));refine ⟨Z,_,Z,vs, ?_,Q⟩;rw [B6 f hs (by rw [<- d];exact q) r,<- d];exact p.mono mup
   ·have r:¬ (0<=z/\z<(fZ s:Int)):=by
     simp only [OH,Mf] at O;omega
    refine Px [(4,3)] Z fun R a=>Pc 3 Z<|Rc (2 ^ n-1) (s) Z Z Z Z Z Z Z Z om_ om_ Z Z<|D.call (an _ mup g c (Ba (2 ^ n-1) s) km y.m_ (yA n f s au) ar) Z (.inr dc_) U6 (List.Perm.swap _ _ _) fl_ (fun aO _ aP _ aw=>?_);obtain ⟨rfl,E,ae,rfl⟩:=aw;refine C4 5 [4,6,7,8,10,11,12,27,28,29] a Z<|C6 3 [4,6,7,8,10,11,12,27,28,29,49] Z<|O9 (fun af=>?_) fun af=>?_
    ·exact absurd af dc_
    ·refine C6 3 [4,6,7,8,10,27,28,29,53] Z<|O9 (fun S=>?_) fun S=>?_
     ·have t:hC B b s=false:=by rw [W];simpa using S
      refine Pb fun R a=>Pi _ U7<|C4 1 [4,6,7,8,27,28,29] a Z<|G.perm (L':=[.arr (.slice l n1 o) 50 1 vs.length vs,.obj c (aM keyU.enc E)]) (List.Perm.swap _ _ _)<|Pk (m':=2 ^ n-(i+1)) om_ mup (hn_ [4,6,7,8,27,28,29] Z) ⟨i+1,z,E,vs,l,n1,o,⟨by omega,ae,by rw [A hs,tU t];exact p.mono mup,by rw [A hs,tU t];exact q⟩,Z,Z,Z⟩
     ·have t:hC B b s=true:=by rw [W];simpa using S
      refine QW (.tail _ (.head _)) (fun _ _ ay _=>?_);cases ay
      refine C6 4 [4,6,7,10,27,28,29,56] Z<|O9 (fun ag=>?_) fun ag=>?_
      ·exact absurd (by simpa using ag) (show ¬ ((vs.length:Int)=200) by omega)
      ·refine O7 1 Z fun R a=>Pn (rQ _ s N) U7<|C4 1 [4,6,7,8,10,27,28,29] a Z<|O7 2 Z fun R a=>PK (ml _ w.m_ s N) U7 (fun aQ _ _ ah=>?_);obtain ⟨H,I,rfl,_⟩:=id ah;refine Ps [[.slice H ((bY s).map aU).length I]] U12 fun aR _ _ az=>Pu (j:=1) U11 az Z (by simp only [aE,maxLen];omega) (by show (vs.length+1)*24<=_;omega) fl_ fun ai ak al=>C4 1 [4,6,7,8,27,28,29] a Z<|Pb fun R a=>Pi _ U7<|C4 1 [4,6,7,8,27,28,29] a Z<|Po (L':=[.arr (.slice ai ak al) 50 1 (vs++[Value.slice H ((bY s).map aU).length I]).length (vs++[Value.slice H ((bY s).map aU).length I]),.obj c (aM keyU.enc E)]) (by rw [LZ];rfl)<|Pk (m':=2 ^ n-(i+1)) om_ mup (hn_ [4,6,7,8,27,28,29] Z) ⟨i+1,fZ s,E,vs++[Value.slice H ((bY s).map aU).length I],ai,ak,al,⟨by omega,ae,by rw [A hs,xH q r t,My];exact p.m_.snoc ah.m_,by rw [A hs,xH q r t];exact zi q (by rw [d];exact Ka f hs) r⟩,Z,Z,Z⟩
  ·have ad:i=2 ^ n:=by
    have:=LS M;omega
   refine C6 3 [2,3] Z<|G.freezeArr 0 (vs.map fun x=>[x]) Z (mU vs) (mS vs) (ax _) fun C8 _ Q=>Pl (G.dropAll (PE U3 ?_));refine ⟨Z,_,Z,vs, ?_,Q⟩;have e:nE (hC B b) (bO n)=F i:=by rw [d,ad,<- K,Mb];rfl
   rw [e];exact p.mono mup
end Go.Proofs.YthnpijdjlddpmaaGreatDoor
