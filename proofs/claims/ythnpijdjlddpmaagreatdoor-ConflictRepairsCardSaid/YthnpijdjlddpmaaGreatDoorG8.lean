/- Laws that the proofs of this seat share, part 8. -/
import Derived.Test.YthnpijdjlddpmaaGreatDoorG7
import Derived.Test.YthnpijdjlddpmaaGreatDoorShelf
set_option maxHeartbeats 4000000
namespace Go.Proofs.YthnpijdjlddpmaaGreatDoor
open Go.Proofs.Tryz
open Go Go.Jog
set_option maxRecDepth 100000
variable {C:Mem}{a b c:Rat}{cyc:List Nat}{fs:List Rat}{i k m n:Nat}{p:Pt}{pts:List Pt}{q:Rat}{t:Tri}{tris:List Tri}{α:Type}
def rn (pts:List Pt)(cyc:List Nat)(i:Nat):Pt:=pts.getD (cyc.getD (i % cyc.length) 0) (0,0)
def upB (p q:Pt):Bool:=decide (p.2<q.2) || (decide (p.2=q.2) && decide (p.1<q.1))
def J5 (pts:List Pt)(cyc:List Nat)(i:Nat):Bool:=!upB (rn pts cyc i) (rn pts cyc (i+1)) && upB (rn pts cyc (i+1)) (rn pts cyc (i+1+1))
def wK (pts:List Pt)(cyc:List Nat)(i:Nat):Bool:=decide (0<=dD (rn pts cyc i) (rn pts cyc (i+1)) (rn pts cyc (i+2)))
def Jw (pts:List Pt)(cyc:List Nat):Bool:=(List.range cyc.length).all (wK pts cyc) && decide (((List.range cyc.length).filter (J5 pts cyc)).length=1)
structure OnceC (C:Mem)(b2 b3 b5:Nat)(pts:List Pt)(cyc:List Nat):Prop where
 ex:∃ v1 v2,C b2=some (.cells ⟨[v1,v2]⟩ 36 (0,0))/\Sl C 2 v1 (pts.map gl)
 ey:∃ cv,C b3=some (.cells ⟨[cv]⟩ 50 (0,0))/\Sl C 1 cv (cyc.map aN)
 ez:C b5=some (.cells ⟨[.int .i64 (cyc.length:Nat)]⟩ 3 (0,0))
 ne:0<cyc.length
 ins:∀ z∈cyc,z<pts.length
 q:∀ p∈pts,QP 1 p
theorem OnceC.mono {C D:Mem}{b c d:Nat}{e:List Pt}{f:List Nat}(h:OnceC C b c d e f)(a:C.le D):OnceC D b c d e f:=by
 obtain ⟨g,i,h1,h2⟩:=h.ex;obtain ⟨j,h3,h4⟩:=h.ey;exact ⟨⟨g,i,a _ _ h1,h2.mono a⟩,⟨j,a _ _ h3,h4.mono a⟩,a _ _ h.ez,h.ne,h.ins,h.q⟩
theorem OnceC.m_ {D:Mem}{a b c:Nat}(h:OnceC C a b c pts cyc)(d:C.le D:=by exact mup):OnceC D a b c pts cyc:=OnceC.mono h d
theorem LG (h:0<cyc.length)(b:∀ z∈cyc,z<pts.length)(i:Nat):∃ z,cyc[i % cyc.length]?=some z/\pts[z]?=some (rn pts cyc i):=by
 have a:=QV i h;refine ⟨cyc[i % cyc.length],aj a, ?_⟩;have c:=b _ (Q8 a);simp [rn,aj a,aj c]
theorem LF (h:0<cyc.length)(a:∀ z∈cyc,z<pts.length)(b:∀ p∈pts,QP 1 p)(i:Nat):QP 1 (rn pts cyc i):=by
 obtain ⟨z,_,h2⟩:=LG h a i;exact b _ (Qc h2)
theorem pk (C:Mem)(e f c:Nat)(b:List Pt)(a:List Nat)(h:OnceC C e f c b a)(i:Nat) :
  Gives cx.P 228 [.int .i64 i,.pointer (some ⟨e,0,none⟩),.pointer (some ⟨f,0,none⟩),.pointer (some ⟨c,0,none⟩)] C (ptV (rn b a i)):=by
 obtain ⟨q,r,g,h1⟩:=h.ex;obtain ⟨s,k,h3⟩:=h.ey;have l:=h.ez;have t:=h.ne;obtain ⟨z,m,n⟩:=LG h.ne h.ins i;obtain ⟨u,v,rfl,w,x,_⟩:=id h1;obtain ⟨y,A,rfl,B,D,_⟩:=id h3;simp only [al] at h1 h3 g k;refine Ud func228 16 U3 fun w0=>TY fun R d=>Uo U5 fun c=>TZ [0,1,2,3,5] d Z<|Ur [0,1,2,3,4,5,6,7,8,9,10] [] Z kr_ fun R E d=>TX U6<|TV (PtrTo.block (Mem.get g mup) _) U8<|TV (PtrTo.block (Mem.get k mup) _) U8<|TX U6<|TV (PtrTo.block (Mem.get l mup) _) U8<|UU (i) (a.length) U6 om_ U2<|Ul h3.m_ U10 om_ (by rw [Qg,show ((i % a.length:Nat):Int).toNat=i % a.length from Z,m];rfl:(a.map aN)[((i % a.length:Nat):Int).toNat]?=some (aN z)) fl_ fun F o=>TV o U8<|Ul h1.m_ U10 om_ (by rw [Qg,show ((z:Nat):Int).toNat=z from Z,n];rfl:(b.map gl)[((z:Nat):Int).toNat]?=some (gl (rn b a i))) fl_ fun G p=>TV p U8<|Uf (j:=0) U12<|TZ [5] d Z<|Ui (UN af U4 ?_);exact ⟨Z,Z⟩
def fn1V (b2 b3 b5:Nat):Value:=.func (.func 228) #[] #[.pointer (some ⟨b2,0,none⟩),.pointer (some ⟨b3,0,none⟩),.pointer (some ⟨b5,0,none⟩)]
theorem Hw (a b:Rat):decide (sK a b > 0)=decide (b<a):=by
 unfold sK;by_cases h1:a<b
 ·have:¬ b<a:=by grind
  simp [h1,this]
 by_cases h2:b<a <;> simp [h1,h2]
theorem NF (a b:Rat):(sK a b == 0)=decide (b=a):=by
 unfold sK;by_cases h1:a<b
 ·have:¬ b=a:=by grind
  simp [h1,this]
 by_cases h2:b<a
 ·have:¬ b=a:=by grind
  simp [h1,h2,this]
 have:b=a:=by grind
 subst this;simp [h1]
theorem KZ (C:Mem)(k:Tabs C)(c d e l:Nat)(a:List Pt)(b:List Nat)(h:OnceC C c d e a b)(f:C l=some (.cells ⟨[fn1V c d e]⟩ 318 (0,0)))(i:Nat)(n:i<=1000000) :
  Gives cx.P 229 [.int .i64 i,.pointer (some ⟨l,0,none⟩)] C (.bool (upB (rn a b i) (rn a b (i+1)))):=by
 have g:=fun i=>LF h.ne h.ins h.q i;unfold fn1V at f;refine Ud func229 34 U3 fun w0=>TT 1 [0,1] Z<|Ur [0,1,2,3,4,5,6,7,8,9,10] [(3,1),(7,1),(9,1)] Z kr_ fun R m j=>TV (PtrTo.block (Mem.get f mup) _) U8<|TX U6<|Ue _ U7<|UC (fun _=>(pk _ c d e a b h.m_ (i+1))) U9<|Vl U12<|TV (PtrTo.block (Mem.get f mup) _) U8<|TX U6<|UC (fun _=>(pk _ c d e a b h.m_ i)) U9<|Vl U12<|Us (fun _=>(gR _ k.m_ (rn a b (i+1)).2 (rn a b i).2 1 dc_ dc_ (g (i+1)).2 (g i).2)) U9<|C4 1 [0,1,4] j Z<|Ur [0,1,2,3,4,5,6,7,8,9,10,11,12,13,14,15,16,17,18,19] [] Z kr_ fun R m j=>Ua 6 Z<|Ux U6 (fun _=>PtrTo.block (Mem.get f mup) _) U3<|TX U6<|Ue _ U7<|UC (fun _=>(pk _ c d e a b h.m_ (i+1))) U9<|Vl U12<|Ux U6 (fun _=>PtrTo.block (Mem.get f mup) _) U3<|TX U6<|UC (fun _=>(pk _ c d e a b h.m_ i)) U9<|Vl U12<|Us (fun _=>(gR _ k.m_ (rn a b (i+1)).1 (rn a b i).1 1 dc_ dc_ (g (i+1)).1 (g i).1)) U9<|TX U6<|Uu U8<|UB U8<|C4 1 [3] j Z<|Ub U2<|⟨?_,Z⟩;rw [Hw,NF,Hw];rfl
theorem E5 (q:Rat):decide (eJ q.num<0)=!decide (0<=q):=by
 rw [<- decide_not,QX,<- Rat.num_nonneg];rcases ek q.num with h | h | h <;> omega
theorem MW (C:Mem)(r:Tabs C)(s B D:Value)(b:List Pt)(a:List Nat)(I:Sl C 2 s (b.map gl))(t:Sl C 1 D (a.map aN))(J:0<a.length)(K:∀ z∈a,z<b.length)(L:∀ p∈b,QP 1 p)(W:a.length<=100000) :
  Gives cx.P 155 [.agg ⟨[s,B]⟩,D] C (.bool (Jw b a)):=by
 obtain ⟨X,Y,rfl,aa,ab,_⟩:=id t;simp only [al] at t ⊢;refine Ud func155 46 U3 fun w0=>TY fun R c=>Up U6 fun e=>Up U6 fun f=>C4 1 [2,3] c Z<|TY fun R c=>Uc af U9<|TX U6<|Uo U5 fun g=>Uf (j:=0) U12<|TZ [2,3,5] c Z<|TU 1 Z fun R c=>Uo U5 fun o=>Uf (j:=0) U12<|TZ [5,6] c Z<|G.freeze 0 Z fun _ _ h=>G.freeze 0 Z fun _ _ E=>G.freeze 0 Z fun _ _ M=>G.freeze 0 Z (fun N _ O=>?_);have d:OnceC N e f g b a:=⟨⟨s,B,O,I.mono mup⟩,⟨_,Mem.get M mup,t.mono mup⟩,Mem.get E mup,J,K,L⟩;have u:=fun i=>LF d.ne d.ins d.q i;refine TT 2 [5,6,7] Z<|TT 1 [5,6,7,8] Z<|TY fun R c=>TV (PtrTo.block (Mem.get E mup) _) U8<|C4 1 [6,7,8,14,15] c Z<|G.loop (fun fr C' Q S=>∃ (i k:Nat),(i<=a.length/\(List.range i).all (wK b a)=true/\((List.range i).filter (J5 b a)).length=k)/\fr=[(6,[],.pointer (some ⟨o,0,none⟩)),(7,[],.func (.func 229) #[] #[.pointer (some ⟨o,0,none⟩)]),(8,[],.int .i64 k),(14,[],.int .i64 a.length),(15,[],.int .i64 i)]/\Q=[]/\S=a.length-i) (hn_ [6,7,8,14,15] Z) ⟨0,0,⟨Qf _,Z,Z⟩,Z,Z,Z⟩ (fun fr ac ad m F T=>?_);obtain ⟨i,k,⟨hi,v,l⟩,rfl,rfl,rfl⟩:=T;refine TT 1 [6,7,8,14,15,16] Z<|TW (fun w=>?_) fun w=>?_
 ·have x:i<a.length:=by simpa using w
  have ae:k<=i:=by
   rw [<- l];exact Qy (Rw _ _) am
  refine TT 2 [6,7,8,9,14,15] Z<|Ur [0,1,2,3,4,5,6,7,8,9,10,11,12] [(2,1),(6,1),(10,1),(11,1)] Z kr_ fun R hB c=>TV (PtrTo.block (Mem.get h mup) _) U8<|TX U6<|UC (fun _=>(pk _ e f g b a d.m_ i)) U9<|TV (PtrTo.block (Mem.get h mup) _) U8<|TX U6<|Ue _ U7<|UC (fun _=>(pk _ e f g b a d.m_ (i+1))) U9<|TV (PtrTo.block (Mem.get h mup) _) U8<|TX U6<|Ue _ U7<|UC (fun _=>(pk _ e f g b a d.m_ (i+2))) U9<|Us (fun _=>(oF _ r.m_ (rn b a i) (rn b a (i+1)) (rn b a (i+2)) 1 dc_ dc_ (u i) (u (i+1)) (u (i+2)))) U9<|C4 1 [6,7,8,9,14,15,30] c Z<|TW (fun n=>?_) fun n=>?_
  ·have U:wK b a i=false:=by
    rw [E5] at n;simpa [wK] using n
   refine TT 1 [4] Z<|Ub U2<|⟨?_,Z⟩;have:(List.range a.length).all (wK b a)=false:=SJ.2 ⟨i,Qw.2 x,by rw [U];decide⟩;unfold Jw;rw [this];rfl
  have V:wK b a i=true:=by
   rw [E5] at n;simpa [wK] using n
  have H:(List.range (i+1)).all (wK b a)=true:=by rw [Re,Tb,v];simp [V]
  refine TU 2 Z fun R c=>Uk (KZ _ r.m_ e f g o b a d.m_ (Mem.get h mup) i om_) U7 fl_<|Ua 4 Z<|Ue _ U7<|Us (fun _=>(KZ _ r.m_ e f g o b a d.m_ (Mem.get h mup) (i+1) om_)) U9<|Uu U8<|TZ [6,7,8,14,15,40] c Z<|TW (fun y=>?_) fun y=>?_
  ·have A:J5 b a i=true:=y;refine TU 1 Z fun R c=>Ue _ U7<|C4 1 [6,7,8,14,15] c Z<|TY fun R c=>Ue _ U7<|C4 1 [6,7,8,14,15] c Z<|Ug (m':=a.length-(i+1)) om_ F (hn_ [6,7,8,14,15] Z) ⟨i+1,k+1,⟨by omega,H,by rw [Re,RI,Qi,l];simp [A]⟩,Z,Z,Z⟩
  have A:J5 b a i=false:=y;refine TY fun R c=>Ue _ U7<|C4 1 [6,7,8,14,15] c Z<|Ug (m':=a.length-(i+1)) om_ F (hn_ [6,7,8,14,15] Z) ⟨i+1,k,⟨by omega,H,by rw [Re,RI,Qi,l];simp [A]⟩,Z,Z,Z⟩
 have x:i=a.length:=by
  have:¬ i<a.length:=by simpa using w
  omega
 refine TT 3 [4] Z<|Ub U2<|⟨?_,Z⟩;rw [x] at v l;unfold Jw;rw [v,l,Tq];congr 1;rw [TG,Qj];simp;omega
/-! The sides of triangles, in order. -/
def qV (t:Tri):List iE:=[oR t 0,oR t 1,oR t 2]
def cY (tris:List Tri):List iE:=tris.flatMap qV
theorem AC (t:Tri)(a:k<3):(qV t)[k]?=some (oR t k):=by
 rcases (by omega:k=0∨k=1∨k=2) with rfl | rfl | rfl <;> rfl
theorem pr (m:NZ)(i:Nat)(t:Tri):∀ k,k<=3->(m.map (·.1)++(qV t).take k).Nodup->(Ej m i t k).map (·.1)=m.map (·.1)++(qV t).take k
 | 0,_,_=>by simp [Ej]
 | k+1,e,a=>by
  have h3:=AC t (show k<3 by omega);rw [QF,h3,Rv,<- QJ] at a ⊢;have b:=(RX.1 a);have c:=pr m i t k om_ b.1;have d:dm (Ej m i t k) (oR t k)=none:=by
   rw [cE,c];intro h;exact b.2.2 _ h _ am Z
  rw [Ej,jH d,QS,c];rfl
theorem oP (h:tris[n]?=some t):cY (tris.take (n+1))=cY (tris.take n)++qV t:=by
 unfold cY;rw [QF,h,List.flatMap_append];simp
theorem rB (h:(cY tris).Nodup)(n:Nat):(cY (tris.take n)).Nodup:=by
 have:cY tris=cY (tris.take n)++cY (tris.drop n):=by
  unfold cY;rw [<- List.flatMap_append,Rh]
 rw [this] at h;exact (RX.1 h).1
theorem gv {a:List Tri}(h:(cY a).Nodup):∀ n,n<=a.length->(xW a n).map (·.1)=cY (a.take n)
 | 0,_=>by simp [xW,cY]
 | n+1,d=>by
  have b:a[n]?=some a[n]:=aj om_;have h1:=rB h (n+1);rw [oP b] at h1 ⊢;have c:=gv h n om_;rw [xW,aw,b];show (Ej (xW a n) n a[n] 3).map (·.1)=_;rw [pr _ _ _ 3 (Qb _) (by rw [c];exact h1),c];rfl
theorem Df (h:(cY tris).Nodup)(i:Nat)(t:Tri)(k:Nat)(a:tris[i]?=some t)(c:k<3):dm (Ej (xW tris i) i t k) (oR t k)=none:=by
 have d:=(aF.1 a).1;have h1:=rB h (i+1);rw [oP a] at h1;have b:=gv h i om_;have h3:=AC t c;have h2:(cY (tris.take i)++(qV t).take (k+1)).Nodup:=by
  refine List.Nodup.sublist (List.Sublist.append (List.Sublist.refl _) (List.take_sublist _ _)) h1
 rw [QF,h3,Rv,<- QJ] at h2;have h4:=RX.1 h2;rw [cE,pr _ _ _ k om_ (by rw [b];exact h4.1),b];intro h5;exact h4.2.2 _ h5 _ am Z
theorem vx {B:List iE}{d:Int}:∀ (k:Nat)(p:Int)(out r:List Int),iF B d k p out=some r->(∀ z∈out,z∈B.map (·.1))->∀ z∈r,z∈B.map (·.1)
 | 0,p,out,r,h,b=>by simp only [iF,QM] at h;subst h;exact b
 | k+1,p,out,r,h,b=>by
  simp only [iF] at h;cases c:dm B p with
  | none=>rw [c] at h;cases h
  | some q =>
   rw [c] at h;simp only at h;split at h
   ·cases h
   refine vx k q _ r h (fun z a=>?_);rcases Qt.1 a with a | a
   ·exact b z a
   rw [Qx.1 a];exact Sx (f:=(·.1)) (fV c)
theorem vy {B:List iE}{b:Int}:∀ (k:Nat)(p:Int)(out r:List Int),iF B b k p out=some r->r.length=out.length+k
 | 0,p,out,r,h=>by simp only [iF,QM] at h;subst h;rfl
 | k+1,p,out,r,h=>by
  simp only [iF] at h;cases a:dm B p with
  | none=>rw [a] at h;cases h
  | some q =>
   rw [a] at h;simp only at h;split at h
   ·cases h
   have:=vy k q _ r h;simp at this;omega
theorem Bh {c:List iE}:∀ z∈ww c,z∈c.map (·.1):=by
 intro z a;unfold ww at a;cases b:Ek c with
 | none=>rw [b] at a;simp at a
 | some r =>
  rw [b] at a;simp only [Rr] at a;unfold Ek at b;split at b
  ·have:=vx _ _ _ _ b am z a;obtain ⟨s,hs,rfl⟩:=Qk.1 this;exact Sx (f:=(·.1)) (Sf.1 hs).1
  cases b
theorem Jr (a:List iE):(ww a).length<=a.length:=by
 unfold ww;cases b:Ek a with
 | none=>simp
 | some r =>
  unfold Ek at b;split at b
  ·have:=vy _ _ _ _ b;have h2:=Rw (kf a) a;simp at this ⊢;omega
  cases b
def ru (n:Nat)(t:Tri):Prop:=t.1<n/\t.2.1<n/\t.2.2<n
theorem IQ (h:ru n t):∀ s∈qV t,0<=s.1/\s.1.toNat<n:=by
 obtain ⟨h1,h2,h3⟩:=h;intro s hs;simp only [qV,Qp,Rb,SA] at hs;rcases hs with rfl | rfl | rfl <;> simp [oR,EI] <;> omega
theorem oQ (h:∀ t∈tris,ru n t):∀ s∈cY tris,0<=s.1/\s.1.toNat<n:=by
 intro s hs;obtain ⟨t,a,hs⟩:=List.mem_flatMap.1 hs;exact IQ (h t a) s hs
theorem rF (a:List Tri):(cY a).length=3*a.length:=by
 induction a with
 | nil=>rfl
 | cons t l b =>
  have:cY (t::l)=qV t++cY l:=rfl;rw [this,Qi,b];simp [qV];omega
def fJ (tris:List Tri):List Nat:=(ww (cY tris)).map Int.toNat
theorem D1 (h:∀ t∈tris,ru n t):∀ z∈fJ tris,z<n:=by
 intro z a;obtain ⟨y,hy,rfl⟩:=Qk.1 a;obtain ⟨s,hs,rfl⟩:=Qk.1 (Bh y hy);exact (oQ h s hs).2
theorem zk (h:∀ t∈tris,ru n t):(ww (cY tris)).map lZ=(fJ tris).map aN:=by
 unfold fJ;rw [Q1];refine List.map_congr_left (fun y hy=>?_);obtain ⟨s,hs,rfl⟩:=Qk.1 (Bh y hy);have:=(oQ h s hs).1;show lZ s.1=aN s.1.toNat;unfold lZ aN;rw [Int.toNat_of_nonneg this]
/-! Sets of ints as maps. -/
def H6 (ks:List Int):List (Int × Value):=ks.map fun z=>(z,.bool true)
def Pc (ks:List Int)(z:Int):List Int:=if z∈ks then ks else ks++[z]
theorem IY (a:List Int):(H6 a).length=a.length:=by simp [H6]
theorem wE:∀ {ks:List Int}{z:Int},fN (H6 ks) z (.bool true)=H6 (Pc ks z)
 | [],z=>by simp [H6,fN,Pc]
 | k::ks,z=>by
  have a:=wE (ks:=ks) (z:=z);unfold H6 at a ⊢;simp only [QO,fN];by_cases e:k=z
  ·subst e;simp [Pc]
  have b:¬ z=k:=fun h=>e h.symm;rw [az e,a];unfold Pc;by_cases h:z∈ks
  ·simp [h]
  simp [h,b]
def LU (ks:List Int)(t:Tri):Nat->List Int
 | 0=>ks
 | k+1=>Pc (LU ks t k) (EI t k)
def vC (tris:List Tri):Nat->List Int
 | 0=>[]
 | n+1=>LU (vC tris n) (tris.getD n (0,0,0)) 3
theorem G5 (t:Tri)(a:k<3):(kA t)[k]?=some (.int .i64 (EI t k)):=by
 rcases (by omega:k=0∨k=1∨k=2) with rfl | rfl | rfl <;> rfl
theorem DZ (h:decide (ww (cY tris)≠[])=true):0<(fJ tris).length:=by
 unfold fJ;rw [al];exact QY.2 (aJ h)
theorem HG (a:List Tri):decide (ww (cY a)≠[])=decide (fJ a≠[]):=by
 rw [QX];unfold fJ;simp
def nl (pts:List Pt)(tris:List Tri):Bool:=decide (fJ tris≠[]) && (decide ((vC tris tris.length).length=pts.length) && Jw pts (fJ tris))
theorem tx (C:Mem)(J:Tabs C)(x y:Value)(c:List Pt)(a:List Tri)(K:a≠[])(k:Sl C 2 x (c.map gl))(g:Sl C 3 y (a.map kA))(d:(cY a).Nodup)(l:∀ t∈a,ru c.length t)(L:∀ p∈c,QP 1 p)(z:a.length<=10000) :
  Gives cx.P 101 [.agg ⟨[x,y]⟩] C (.bool (nl c a)):=by
 obtain ⟨V,W,rfl,M,X,_⟩:=id k;obtain ⟨A2,c2,rfl,N,Y,_⟩:=id g;have aa:maxLen<=9223372036854775807:=by simp [maxLen]
 simp only [al] at k g M N ⊢;refine Ud func101 55 U3 fun w0=>TY fun R b=>Up U6 fun A=>C4 1 [1] b Z<|G.freeze 0 Z fun _ B e=>TY fun R b=>TV (PtrTo.block (Mem.get e mup) _) U8<|UF (FU _ _ _ a K g.m_ (Df d)) U7 (fun ab _ _ O=>?_);obtain ⟨n,rfl,Q⟩:=O;refine C4 5 [1,3,4] b Z<|TT 2 [1,3,18] Z<|TW (fun E=>?_) fun E=>?_
 ·exact absurd E dc_
 refine TY fun R b=>D.makeMap keyZ Z Z Z Z fl_ fun f=>C4 1 [1,3,5] b Z<|TU 1 Z fun R b=>TV (PtrTo.block (Mem.get e mup) _) U8<|C4 2 [1,3,5,21,22,23] b Z<|G.loop (fun fr C' h o=>∃ (i:Nat),(i<=a.length)/\fr=[(1,[],.pointer (some ⟨A,0,none⟩)),(3,[],.map (some n)),(5,[],.map (some f)),(21,[],.slice A2 a.length c2),(22,[],.int .i64 a.length),(23,[],.int .i64 i)]/\h=[.obj f (aP keyZ.enc (H6 (vC a i)))]/\o=a.length-i) (hn_ [1,3,5,21,22,23] Z) ⟨0,Qf _,Z,Z,Z⟩ (fun fr ac ad m _ q=>?_);obtain ⟨i,hi,rfl,rfl,rfl⟩:=q;refine TT 1 [1,3,5,21,22,23,24] Z<|TW (fun r=>?_) fun r=>?_
 ·have u:i<a.length:=by simpa using r
  obtain ⟨t,F⟩:∃ t,a[i]?=some t:=⟨a[i],aj u⟩;refine TY fun R b=>Ul g.m_ U10 om_ (by rw [Qg,F];rfl:(a.map kA)[i]?=some (kA t)) fl_ fun ae S=>TV S U8<|Uo U5 fun b7=>Uf (j:=0) U12<|TZ [1,3,5,7,21,22,23] b Z<|TY fun R b=>Uc af U9<|C4 1 [1,3,5,21,22,23,27,28] b Z<|UO 0 Z<|G.loop (fun fr C' h o=>∃ (j:Nat),(j<=3)/\fr=[(1,[],.pointer (some ⟨A,0,none⟩)),(3,[],.map (some n)),(5,[],.map (some f)),(21,[],.slice A2 a.length c2),(22,[],.int .i64 a.length),(23,[],.int .i64 i),(27,[],.agg ⟨kA t⟩),(28,[],.int .i64 j)]/\h=[.obj f (aP keyZ.enc (H6 (LU (vC a i) t j)))]/\o=3-j) (hn_ [1,3,5,21,22,23,27,28] Z) ⟨0,Qf _,Z,Z,Z⟩ (fun fr ag ah m B q=>?_);obtain ⟨j,hj,rfl,rfl,rfl⟩:=q;refine TT 1 [1,3,5,21,22,23,27,28,29] Z<|TW (fun v=>?_) fun v=>?_
  ·have w:j<3:=by
    simp only [Qj] at v;omega
   refine TY fun R b=>UX U11 (fun _=>⟨by omega,by omega,G5 t w⟩) U2<|C4 1 [1,3,5,9,21,22,23,27,28] b Z<|TU 2 Z fun R b=>D.mapUpdate keyZ (j:=0) Z Z Z Z Z Z Z Z Z Z kr_<|TZ [1,3,5,21,22,23,27,28] b Z<|TY fun R b=>Ue _ U7<|C4 1 [1,3,5,21,22,23,27,28] b Z ?_;rw [wE];refine Ug (m':=3-(j+1)) om_ B (hn_ [1,3,5,21,22,23,27,28] Z) ⟨j+1,om_,Z,Z,Z⟩
  have w:j=3:=by
   simp only [Qz] at v;omega
  subst w;refine TY fun R b=>Ue _ U7<|C4 1 [1,3,5,21,22,23] b Z<|Um (L':=[.obj f (aP keyZ.enc (H6 (vC a (i+1))))]) (by rw [vC,aw,F];rfl)<|Ug (m':=a.length-(i+1)) om_ mup (hn_ [1,3,5,21,22,23] Z) ⟨i+1,om_,Z,Z,Z⟩
 have u:i=a.length:=by
  have:¬ i<a.length:=by simpa using r
  omega
 subst u;refine TY fun R b=>TV (PtrTo.block (Mem.get e mup) _) U8<|TX U6<|Uz (Jp _ _ _ n (xW a a.length) (Mem.get Q mup) (by rw [gv d _ (Qb _),Qo];exact d) (by rw [gv d _ (Qb _),Qo];exact fun s T=>(oQ l s T).1) (by have:=congrArg List.length (gv d _ (Qb _));rw [Qo,rF,al] at this;omega)) U7 fl_ (fun ai _ _ H=>?_);rw [gv d _ (Qb _),Qo] at H;obtain ⟨bv,rfl,I⟩:=H;rw [zk l] at I;refine C4 5 [1,5,10,11] b Z<|Uv [(3,1)] Z fun R b=>Ua 3 Z<|V2 keyZ.enc af Z Z Z Z Z Z Z Z Z<|TX U6<|Ux U6 (fun _=>PtrTo.block (Mem.get e mup) _) U3<|Ua 2 Z<|Uu U8<|TX U6<|Ux U6 (fun _=>PtrTo.block (Mem.get e mup) _) U3<|TX U6<|Us (fun U=>(MW _ J.m_ _ _ bv c (fJ a) k.m_ I.m_ (by exact DZ (Rp.1 (show (decide (ww (cY a)≠[]) && _)=true/\True from U).1).1) (D1 l) L (by have:=Jr (cY a);rw [rF] at this;unfold fJ;rw [al];omega))) U9<|Uu U8<|C4 1 [2] b Z<|Ub U2<|⟨?_,Z⟩;have z:(((H6 (vC a a.length)).length:Int) == (c.length:Int))=decide ((vC a a.length).length=c.length):=by
  rw [IY,TG,RJ,Qj];omega
 unfold nl;rw [<- HG,<- z,<- Bool.and_assoc]
noncomputable def kP2:KeyP cx.P 58 (Str × Str):=PW rfl rfl rfl dc_ dc_ rfl rfl kr_
def ptK (p:Pt):Str × Str:=(qtx p.1,qtx p.2)
theorem MB {q:Pt}(h:ptK p=ptK q):p=q:=by
 have h1:=lC (congrArg (·.1) h);have h2:=lC (congrArg (·.2) h);exact Prod.ext h1 h2
def JC (l:List Pt):List ((Str × Str) × Value):=l.map fun p=>(ptK p,.bool true)
theorem Bt {l:List Pt}(h:p ∉ l):dm (JC l) (ptK p)=none:=by
 rw [cE];unfold JC;rw [Q1];intro hm;obtain ⟨q,a,b⟩:=Qk.1 hm;exact h (MB b ▸ a)
theorem M6 {l:List Pt}(h:p ∉ l):fN (JC l) (ptK p) (.bool true)=JC (l++[p]):=by
 rw [jH (Bt h)];simp [JC]
def oh (n:Nat)(X:Nat->Nat->Bool):Bool:=(List.range n).any fun i=>(List.range i).any fun k=>X i k
def yv (pts:List Pt)(tris:List Tri)(X:Nat->Nat->Bool):Int:=if tris=[] then 13 else if nl pts tris then 0 else if oh tris.length X then 26 else 25
structure MeshOk (pts:List Pt)(tris:List Tri):Prop where
 q:∀ p∈pts,QP 1 p
 nd:pts.Nodup
 ins:∀ t∈tris,ru pts.length t
 pos:∀ t∈tris,0<dD (pts.getD t.1 (0,0)) (pts.getD t.2.1 (0,0)) (pts.getD t.2.2 (0,0))
 sides:(cY tris).Nodup
 lt:tris.length<=800
 lp:pts.length<=400
theorem pj (h:i<pts.length):pts[i]?=some (pts.getD i (0,0)):=by
 rw [aw,aj h];rfl
theorem AW (h:i<pts.length):pts.getD i (0,0)∈pts:=Qc (pj h)
def mB (t:Tri)(j:Nat):Nat:=if j=0 then t.1 else if j=1 then t.2.1 else t.2.2
theorem Ob (t:Tri)(j:Nat):EI t j=(mB t j:Nat):=by
 unfold EI mB;split
 ·rfl
 split <;> rfl
theorem eX (h:ru n t)(j:Nat):mB t j<n:=by
 obtain ⟨h1,h2,h3⟩:=h;unfold mB;split
 ·exact h1
 split <;> assumption
theorem Oj (q:Rat):decide (eJ q.num<=0)=!decide (0<q):=by
 have h1:=AT q;have h2:q.num=0 ↔ q=0:=Tc;rw [<- decide_not,QX];have h3:¬ 0<q ↔ (q<0∨q=0):=by grind
 rw [h3,<- h1,<- h2];rcases ek q.num with h | h | h <;> omega
theorem Gh (C:Mem)(F:Tabs C)(H I:Value)(c:List Pt)(b:List Tri)(X:Nat->Nat->Bool)(r:Sl C 2 H (c.map gl))(x:Sl C 3 I (b.map kA))(d:MeshOk c b)
  (U:b≠[]->nl c b=false->∀ D:Mem,C.le D->∀ i k:Nat,i<b.length->k<i->Gives cx.P 102 [.agg ⟨[H,I]⟩,.int .i64 i,.int .i64 k] D (.bool (X i k))) :
  Gives cx.P 66 [.agg ⟨[H,I]⟩] C (.int .i64 (yv c b X)):=by
 obtain ⟨A1,c1,rfl,ah,aA,_⟩:=id r;obtain ⟨A2,c2,rfl,ai,aB,_⟩:=id x;have aC:maxLen<=9223372036854775807:=by simp [maxLen]
 have aD:=d.lt;have aE:=d.lp;simp only [al] at r x ah ai U ⊢;refine Ud func66 105 U3 fun w0=>TY fun R a=>Up U6 fun u=>C4 1 [1] a Z<|G.freeze 0 Z fun _ _ f=>TU 1 Z fun R a=>TV (PtrTo.block (Mem.get f mup) _) U8<|C4 3 [1,12] a Z<|TW (fun y=>?_) fun y=>?_
 ·have h0:b=[]:=by
   have h:((b.length:Nat):Int)=0:=by simpa using y
   exact QU om_
  exact TT 1 [2] Z<|Ub U2<|⟨by unfold yv;rw [aU h0],Z⟩
 have h0:b≠[]:=by
  intro e;rw [e] at y;exact absurd y dc_
 refine TU 1 Z fun R a=>TV (PtrTo.block (Mem.get f mup) _) U8<|Ua 4 Z<|Ux U6 (fun _=>PtrTo.block (Mem.get f mup) _) U3<|Ua 2 Z<|UB U8<|C4 1 [1,17] a Z<|TW (fun V=>?_) fun V=>?_
 ·exfalso;simp only [RR,Qj] at V;omega
 refine TY fun R a=>VX kP2 Z Z Z Z fl_ fun J=>C4 1 [1,3] a Z<|TU 1 Z fun R a=>TV (PtrTo.block (Mem.get f mup) _) U8<|C4 2 [1,3,30,31,32] a Z<|G.loop (fun fr C' g l=>∃ (i:Nat),(i<=c.length)/\fr=[(1,[],.pointer (some ⟨u,0,none⟩)),(3,[],.map (some J)),(30,[],.slice A1 c.length c1),(31,[],.int .i64 c.length),(32,[],.int .i64 i)]/\g=[.obj J (aP DJ (JC (c.take i)))]/\l=c.length-i) (hn_ [1,3,30,31,32] Z) ⟨0,Qf _,Z,Z,Z⟩ (fun fr aG aH m _ n=>?_);obtain ⟨i,hi,rfl,rfl,rfl⟩:=n;refine TT 1 [1,3,30,31,32,33] Z<|TW (fun W=>?_) fun W=>?_
 ·have o:i<c.length:=by simpa using W
  obtain ⟨p,z⟩:∃ p,c[i]?=some p:=⟨c[i],aj o⟩;have A:=d.q p (Qc z);have Y:p ∉ c.take i:=by
   intro hm;obtain ⟨j,v⟩:=RB hm;rw [QT] at v;split at v
   ·rename_i aI;have h3:=(aF.1 v);have h4:=(aF.1 z);have:=(List.getElem_inj d.nd).1 (h3.2.trans h4.2.symm);omega
   cases v
  have ak:JC (c.take (i+1))=JC (c.take i++[p]):=by rw [QF,z];rfl
  refine TY fun R a=>Ul r.m_ U10 om_ (by rw [Qg,z];rfl:(c.map gl)[i]?=some (gl p)) fl_ fun aJ am=>TV am U8<|Uo U5 fun b5=>Uf (j:=0) U12<|TZ [1,3,5,30,31,32] a Z<|TY fun R a=>Uc af U9<|Uk (ir _ F.m_ (qtx p.1) (qtx p.2) (by have:=bJ A.1 dc_;omega) (by have:=bJ A.2 dc_;omega)) U7 fl_<|C4 1 [1,3,5,30,31,32,38] a Z<|TW (fun K=>?_) fun K=>?_
  ·exfalso;rw [bO (A.1.le dc_),bO (A.2.le dc_)] at K;exact absurd K dc_
  refine TU 1 Z fun R a=>Uc af U9<|VY kP2 ae Z Z Z Z Z Z Z Z Z (congrArg (kL (.bool false) false) (Bt Y)) Z Z<|TZ [1,3,5,30,31,32,41] a Z<|TW (fun aa=>?_) fun aa=>?_
  ·exact absurd aa dc_
  refine TU 1 Z fun R a=>Uc af U9<|VU kP2 (j:=1) (key:=ptK p) Z Z Z Z Z Z Z Z Z Z<|TZ [1,3,30,31,32] a Z<|TY fun R a=>Ue _ U7<|C4 1 [1,3,30,31,32] a Z<|UO 1 Z<|Um (L':=[.obj J (aP DJ (JC (c.take (i+1))))]) (by rw [ak,<- M6 Y];rfl)<|Ug (m':=c.length-(i+1)) om_ mup (hn_ [1,3,30,31,32] Z) ⟨i+1,om_,Z,Z,Z⟩
 refine TU 1 Z fun R a=>TV (PtrTo.block (Mem.get f mup) _) U8<|C4 2 [1,46,47,48] a Z<|G.dropAll<|G.loop (fun fr C' g l=>∃ (i:Nat),(i<=b.length)/\fr=[(1,[],.pointer (some ⟨u,0,none⟩)),(46,[],.slice A2 b.length c2),(47,[],.int .i64 b.length),(48,[],.int .i64 i)]/\g=[]/\l=b.length-i) (hn_ [1,46,47,48] Z) ⟨0,Qf _,Z,Z,Z⟩ (fun fr aK aL m _ n=>?_);obtain ⟨i,hi,rfl,rfl,rfl⟩:=n;refine TT 1 [1,46,47,48,49] Z<|TW (fun L=>?_) fun L=>?_
 ·have o:i<b.length:=by simpa using L
  obtain ⟨t,ht⟩:∃ t,b[i]?=some t:=⟨b[i],aj o⟩;have ab:=Qc ht;have s:=d.ins t ab;have an:=d.pos t ab;refine TY fun R a=>Ul x.m_ U10 om_ (by rw [Qg,ht];rfl:(b.map kA)[i]?=some (kA t)) fl_ fun aM ao=>TV ao U8<|Uo U5 fun b7=>Uf (j:=0) U12<|TZ [1,7,46,47,48] a Z<|TY fun R a=>Uc af U9<|C4 1 [1,7,46,47,48,52,53] a Z<|G.loop (fun fr C' g l=>∃ (j:Nat),(j<=3)/\fr=[(1,[],.pointer (some ⟨u,0,none⟩)),(7,[],.pointer (some ⟨b7,0,none⟩)),(46,[],.slice A2 b.length c2),(47,[],.int .i64 b.length),(48,[],.int .i64 i),(52,[],.agg ⟨kA t⟩),(53,[],.int .i64 j)]/\g=[.obj b7 (.cells ⟨kA t⟩ 108 (0,0))]/\l=3-j) (hn_ [1,7,46,47,48,52,53] Z) ⟨0,Qf _,Z,Z,Z⟩ (fun fr aN aO m ap n=>?_);obtain ⟨j,v,rfl,rfl,rfl⟩:=n;refine TT 1 [1,7,46,47,48,52,53,54] Z<|TW (fun M=>?_) fun M=>?_
  ·have aq:j<3:=by
    simp only [Qj] at M;omega
   have aQ:=eX s j;refine TY fun R a=>UX U11 (fun _=>⟨by omega,by omega,(show (kA t)[((j:Nat):Int).toNat]?=some (.int .i64 ((mB t j:Nat):Int)) from by rw [<- Ob];exact G5 t aq)⟩) U2<|C4 1 [1,7,9,46,47,48,52,53] a Z<|TU 5 Z fun R a=>Ux U6 (fun _=>PtrTo.block (Mem.get f mup) _) U3<|Ua 2 Z<|UB U8<|TZ [1,7,46,47,48,52,53,64] a Z<|TW (fun ac=>?_) fun ac=>?_
   ·exfalso;simp only [RR,Qj] at ac;omega
   refine TY fun R a=>Ue _ U7<|C4 1 [1,7,46,47,48,52,53] a Z<|Ug (m':=3-(j+1)) om_ ap (hn_ [1,7,46,47,48,52,53] Z) ⟨j+1,om_,Z,Z,Z⟩
  clear M;refine Ur [0,1,2,3,4,5,6,7,8,9,10,11,12,13,14,15,16,17,18,19] [(18,1)] Z kr_ fun R hB a=>TX U6<|TV (PtrTo.block (Mem.get f mup) _) U8<|Ut (0) U9 ag U2<|Uc af U9<|Ul r.m_ U10 om_ (by rw [Qg,show (((t.1:Nat):Int)).toNat=t.1 from Z,pj s.1];rfl:(c.map gl)[(((t.1:Nat):Int)).toNat]?=some (gl (c.getD t.1 (0,0)))) fl_ fun aR ar=>TV ar U8<|TX U6<|TV (PtrTo.block (Mem.get f mup) _) U8<|Ut (1) U9 ag U2<|Uc af U9<|Ul r.m_ U10 om_ (by rw [Qg,show (((t.2.1:Nat):Int)).toNat=t.2.1 from Z,pj s.2.1];rfl:(c.map gl)[(((t.2.1:Nat):Int)).toNat]?=some (gl (c.getD t.2.1 (0,0)))) fl_ fun aS au=>TV au U8<|TX U6<|TV (PtrTo.block (Mem.get f mup) _) U8<|Ut (2) U9 ag U2<|Uc af U9<|Ul r.m_ U10 om_ (by rw [Qg,show (((t.2.2:Nat):Int)).toNat=t.2.2 from Z,pj s.2.2];rfl:(c.map gl)[(((t.2.2:Nat):Int)).toNat]?=some (gl (c.getD t.2.2 (0,0)))) fl_ fun aT av=>TV av U8<|Us (fun _=>(oF _ F.m_ (c.getD t.1 (0,0)) (c.getD t.2.1 (0,0)) (c.getD t.2.2 (0,0)) 1 dc_ dc_ (d.q _ (AW s.1)) (d.q _ (AW s.2.1)) (d.q _ (AW s.2.2)))) U9<|C4 1 [1,46,47,48,85] a Z<|TW (fun N=>?_) fun N=>?_
  ·exfalso;rw [Oj,Qr an] at N;exact absurd N dc_
  refine TY fun R a=>Ue _ U7<|C4 1 [1,46,47,48] a Z<|G.dropAll<|Ug (m':=b.length-(i+1)) om_ mup (hn_ [1,46,47,48] Z) ⟨i+1,om_,Z,Z,Z⟩
 clear L;refine TY fun R a=>TV (PtrTo.block (Mem.get f mup) _) U8<|Uk (tx _ F.m_ _ _ c b h0 r.m_ x.m_ d.sides d.ins d.q om_) U7 fl_<|TZ [1,88] a Z<|TW (fun O=>?_) fun O=>?_
 ·have w:nl c b=true:=O;exact TT 1 [2] Z<|Ub U2<|⟨by unfold yv;rw [az h0,aU w],Z⟩
 have w:nl c b=false:=O;refine TU 1 Z fun R a=>TV (PtrTo.block (Mem.get f mup) _) U8<|C4 2 [1,91,92] a Z<|G.loop (fun fr C' g l=>∃ (i:Nat),(i<=b.length/\oh i X=false)/\fr=[(1,[],.pointer (some ⟨u,0,none⟩)),(91,[],.int .i64 b.length),(92,[],.int .i64 i)]/\g=[]/\l=b.length-i) (hn_ [1,91,92] Z) ⟨0,⟨Qf _,Z⟩,Z,Z,Z⟩ (fun fr aV aW m _ n=>?_);obtain ⟨i,⟨aX,B⟩,rfl,rfl,rfl⟩:=n;refine TT 1 [1,91,92,93] Z<|TW (fun Q=>?_) fun Q=>?_
 ·have o:i<b.length:=by simpa using Q
  refine TT 2 [1,10,91,92] Z<|TT 2 [1,10,91,92,95,96] Z<|G.loop (fun fr C' g l=>∃ (k:Nat),(k<=i/\(List.range k).any (fun k=>X i k)=false)/\fr=[(1,[],.pointer (some ⟨u,0,none⟩)),(10,[],.int .i64 i),(91,[],.int .i64 b.length),(92,[],.int .i64 i),(95,[],.int .i64 i),(96,[],.int .i64 k)]/\g=[]/\l=i-k) (hn_ [1,10,91,92,95,96] Z) ⟨0,⟨Qf _,Z⟩,Z,Z,Z⟩ (fun fr aY aZ m aw n=>?_);obtain ⟨k,⟨a0,ad⟩,rfl,rfl,rfl⟩:=n;refine TT 1 [1,10,91,92,95,96,97] Z<|TW (fun S=>?_) fun S=>?_
  ·have E:k<i:=by simpa using S
   refine TT 2 [1,10,11,91,92,95,96] Z<|TY fun R a=>TV (PtrTo.block (Mem.get f mup) _) U8<|Ua 2 Z<|Uh (U h0 w _ mup i k o E) U7<|TZ [1,10,91,92,95,96,102] a Z<|TW (fun T=>?_) fun T=>?_
   ·have ax:X i k=true:=T;have hc:oh b.length X=true:=SN.2 ⟨i,Qw.2 o,SN.2 ⟨k,Qw.2 E,ax⟩⟩;exact TT 1 [2] Z<|Ub U2<|⟨by unfold yv;rw [az h0,w,az dc_,aU hc],Z⟩
   have ay:X i k=false:=T;refine TY fun R a=>Ue _ U7<|C4 1 [1,10,91,92,95,96] a Z<|Ug (m':=i-(k+1)) om_ aw (hn_ [1,10,91,92,95,96] Z) ⟨k+1,⟨by omega,by rw [Re,List.any_append,ad];simp [ay]⟩,Z,Z,Z⟩
  have E:k=i:=by
   have:¬ k<i:=by simpa using S
   omega
  subst E;refine TY fun R a=>Ue _ U7<|C4 1 [1,91,92] a Z<|Ug (m':=b.length-(k+1)) om_ mup (hn_ [1,91,92] Z) ⟨k+1,⟨by omega,by unfold oh at B ⊢;rw [Re,List.any_append,B];simp [ad]⟩,Z,Z,Z⟩
 have o:i=b.length:=by
  have:¬ i<b.length:=by simpa using Q
  omega
 refine TT 1 [2] Z<|Ub U2<|⟨?_,Z⟩;rw [o] at B;unfold yv;rw [az h0,w,az dc_,B];rfl
structure Good (pts:List Pt)(tris:List Tri):Prop where
 ok:MeshOk pts tris
 ne:tris≠[]
 whole:nl pts tris=true
structure MeshIn (C:Mem)(mv:Value)(pts:List Pt)(tris:List Tri):Prop where
 ex:∃ v1 v2,mv=.agg ⟨[v1,v2]⟩/\Sl C 2 v1 (pts.map gl)/\Sl C 3 v2 (tris.map kA)
theorem MeshIn.mono {C D:Mem}{a:Value}{b:List Pt}{c:List Tri}(h:MeshIn C a b c)(d:C.le D):MeshIn D a b c:=by
 obtain ⟨e,f,h1,h2,h3⟩:=h.ex;exact ⟨e,f,h1,h2.mono d,h3.mono d⟩
theorem MeshIn.m_ {D:Mem}{a:Value}(h:MeshIn C a pts tris)(b:C.le D:=by exact mup):MeshIn D a pts tris:=MeshIn.mono h b
def nox:Nat->Nat->Bool:=fun _ _=>false
theorem jL (C:Mem)(f:Tabs C)(d:Value)(a:List Pt)(b:List Tri)(g:MeshIn C d a b)(c:Good a b):Gives cx.P 66 [d] C (.int .i64 0):=by
 obtain ⟨i,j,rfl,h1,h2⟩:=g.ex;have h:=Gh C f i j a b nox h1 h2 c.ok (fun _ h3=>by rw [c.whole] at h3;cases h3);have e:yv a b nox=0:=by unfold yv;rw [az c.ne,aU c.whole]
 rwa [e] at h
def cor (pts:List Pt)(t:Tri)(j:Nat):Pt:=pts.getD (mB t j) (0,0)
def yD (pts:List Pt)(p:Pt)(t:Tri):Bool:=decide (0<=dD (cor pts t 0) (cor pts t 1) p) && decide (0<=dD (cor pts t 1) (cor pts t 2) p) && decide (0<=dD (cor pts t 2) (cor pts t 0) p)
def lM (pts:List Pt)(tris:List Tri)(p:Pt):List Nat:=(List.range tris.length).filter fun i=>yD pts p (tris.getD i (0,0,0))
theorem nC (h:MeshOk pts tris)(a:t∈tris)(j:Nat):QP 1 (cor pts t j):=h.q _ (AW (eX (h.ins t a) j))
theorem QP.le {k m:Nat}{p:Pt}(h:QP k p)(a:k<=m):QP m p:=⟨h.1.le a,h.2.le a⟩
theorem sH (C:Mem)(d:Value)(a:List Pt)(b:List Tri)(f:MeshIn C d a b)(g:MeshOk a b)(i:Nat)(t:Tri)(e:b[i]?=some t) :
  Gives cx.P 156 [d,.int .i64 i] C (NA (cor a t 0) (cor a t 1) (cor a t 2)):=by
 obtain ⟨h,j,rfl,h1,h2⟩:=f.ex;have c:=g.ins t (Qc e);exact DP C h j a b i t _ _ _ h1 h2 e (pj c.1) (pj c.2.1) (pj c.2.2)
theorem Fm (h:QP k p)(a:k<=1000):(qtx p.1).length<=999998/\(qtx p.2).length<=999998:=by
 have h1:=bJ (h.1.le (SB k)) om_;have h2:=bJ (h.2.le (SB k)) om_;exact ⟨by omega,by omega⟩
def PtR (p:Pt):Prop:=aZ (qtx p.1)=true/\aZ (qtx p.2)=true
theorem iq (C:Mem)(c:Tabs C)(p:Pt)(a:QP 23 p)(b:PtR p):Gives cx.P 99 [ptV p] C (.int .i64 0):=by
 have h:=ir C c (qtx p.1) (qtx p.2) (Fm a dc_).1 (Fm a dc_).2;rw [b.1,b.2] at h;exact h
theorem pL (C:Mem)(f:Tabs C)(A:Value)(c:List Pt)(a:List Tri)(p:Pt)(B:MeshIn C A c a)(E:Good c a)(F:QP 23 p)(g:PtR p) :
  Pur cx.P 149 [A,ptV p] C fun u D=>∃ v,u=.tuple #[v,.int .i64 0]/\Sl D 1 v ((lM c a p).map aN):=by
 have d:=E.ok;have V:=d.lt;have W:maxLen<=9223372036854775807:=by simp [maxLen]
 have h:=B;obtain ⟨X,Y,rfl,h1,h2⟩:=id B.ex;obtain ⟨A1,c1,rfl,aa,ab,_⟩:=id h1;obtain ⟨A2,c2,rfl,ac,ad,_⟩:=id h2;simp only [al] at h1 h2 h ⊢;refine Ud func149 34 U3 fun w0=>TY fun R b=>Up U6 fun N=>Up U6 fun O=>C4 2 [2,3] b Z<|G.freeze 1 Z fun _ _ k=>G.freeze 0 Z fun _ _ H=>TY fun R b=>TV (PtrTo.block (Mem.get k mup) _) U8<|Uh (jL _ f.m_ _ c a h.m_ E) U7<|C4 1 [2,3,6] b Z<|TT 2 [2,3,6,12] Z<|TW (fun I=>?_) fun I=>?_
 ·exact absurd I dc_
 refine TY fun R b=>TV (PtrTo.block (Mem.get H mup) _) U8<|Uh (iq _ f.m_ p F g) U7<|C4 1 [2,3,16] b Z<|TW (fun J=>?_) fun J=>?_
 ·exact absurd J dc_
 refine TT 1 [2,3,7] Z<|TU 1 Z fun R b=>TV (PtrTo.block (Mem.get k mup) _) U8<|C4 2 [2,3,7,19,20] b Z<|G.nilArr 3 1<|G.loop (fun fr C' K Q=>∃ (i:Nat)(out:List Nat)(w:Value),(i<=a.length/\out=(List.range i).filter (fun i=>yD c p (a.getD i (0,0,0))))/\fr=[(2,[],.pointer (some ⟨N,0,none⟩)),(3,[],.pointer (some ⟨O,0,none⟩)),(7,[],w),(19,[],.int .i64 a.length),(20,[],.int .i64 i)]/\K=[.arr w 3 1 out.length (out.map aN).flatten]/\Q=a.length-i) (hn_ [2,3,7,19,20] Z) ⟨0,[],_,⟨Qf _,Z⟩,Z,Z,Z⟩ (fun fr ae af m _ S=>?_);obtain ⟨i,out,w,⟨hi,e⟩,rfl,rfl,rfl⟩:=S;refine TT 1 [2,3,7,19,20,21] Z<|TW (fun l=>?_) fun l=>?_
 ·have n:i<a.length:=by simpa using l
  obtain ⟨t,o⟩:∃ t,a[i]?=some t:=⟨a[i],aj n⟩;have q:=Qc o;have L:a.getD i (0,0,0)=t:=by rw [aw,o];rfl
  have ag:out.length<=i:=by
   rw [e];exact Qy (Rw _ _) am
  refine TT 2 [2,3,7,8,19,20] Z<|Ur [0,1,2,3,4] [(2,1),(4,1)] Z kr_ fun R hB b=>TV (PtrTo.block (Mem.get k mup) _) U8<|TX U6<|UC (fun _=>(sH _ _ c a h.m_ d i t o)) U9<|TV (PtrTo.block (Mem.get H mup) _) U8<|Us (fun _=>(GJ _ f.m_ (cor c t 0) (cor c t 1) (cor c t 2) p 23 dc_ dc_ ((nC d q 0).le dc_) ((nC d q 1).le dc_) ((nC d q 2).le dc_) F)) U9<|TZ [2,3,7,8,19,20,27] b Z<|TW (fun s=>?_) fun s=>?_
  ·have x:yD c p t=true:=s;have z:(List.range (i+1)).filter (fun i=>yD c p (a.getD i (0,0,0)))=out++[i]:=by rw [Re,RI,<- e,List.filter_cons,L,x];rfl
   refine TU 2 Z fun R b=>Uq [aN i] U12 fun ah _ _ T=>D.append (j:=0) U11 T Z ax (by simp only [aI];omega) fl_ fun M=>C4 1 [2,3,7,19,20] b Z<|TY fun R b=>Ue _ U7<|C4 1 [2,3,7,19,20] b Z<|Um (L':=[.arr M 3 1 (out++[i]).length ((out++[i]).map aN).flatten]) (by simp [aN])<|Ug (m':=a.length-(i+1)) om_ mup (hn_ [2,3,7,19,20] Z) ⟨i+1,out++[i],M,⟨by omega,z.symm⟩,Z,Z,Z⟩
  have x:yD c p t=false:=s;have z:(List.range (i+1)).filter (fun i=>yD c p (a.getD i (0,0,0)))=out:=by rw [Re,RI,<- e,List.filter_cons,L,x];simp
  refine TY fun R b=>Ue _ U7<|C4 1 [2,3,7,19,20] b Z<|Ug (m':=a.length-(i+1)) om_ mup (hn_ [2,3,7,19,20] Z) ⟨i+1,out,w,⟨by omega,z.symm⟩,Z,Z,Z⟩
 have n:i=a.length:=by
  have:¬ i<a.length:=by simpa using l
  omega
 refine TT 3 [4,5] Z<|G.freezeArr 0 (out.map aN) rfl rfl (by intro r g;obtain ⟨y,_,rfl⟩:=Qk.1 g;rfl) am fun Cg hg U=>Ui (G.dropAll (Uw U3 ?_));refine ⟨Z,_,Z, ?_⟩;rw [n] at e;unfold lM;rw [<- e];exact U
theorem qw (C:Mem)(g:Tabs C)(d:Value)(a:List Pt)(b:List Tri)(p:Pt)(e:MeshIn C d a b)(h:Good a b)(i:QP 23 p)(j:PtR p) :
  Gives cx.P 97 [d,ptV p] C (.tuple #[.bool (decide (lM a b p≠[])),.int .i64 0]):=by
 have k:=e;obtain ⟨n,o,rfl,h1,h2⟩:=id e.ex;refine Ud func97 18 U3 fun w0=>TY fun R c=>Up U6 fun q=>Up U6 fun r=>C4 2 [2,3] c Z<|TY fun R c=>Uc ae U9<|Uc af U9<|UF (pL _ g.m_ _ a b p k.m_ h i j) U7 (fun s _ _ l=>?_);obtain ⟨t,rfl,m⟩:=l;obtain ⟨u,v,f,_⟩:=id m;rw [al] at f;subst f;refine C4 5 [6,7] c Z<|TT 6 [4,5] Z<|Ui (G.dropAll (Uw U3 ?_));refine ⟨?_,Z⟩;have:decide (((lM a b p).length:Int) > 0)=decide (lM a b p≠[]):=by
  rw [QX,<- QY];omega
 rw [<- this]
theorem zg (C:Mem)(j:Tabs C)(d:Value)(c:List Pt)(b:List Tri)(i:Nat)(e:MeshIn C d c b)(k:Good c b)(l:i<b.length) :
  Gives cx.P 273 [d,.int .i64 i] C (.int .i64 0):=by
 have f:=e;obtain ⟨m,n,rfl,h1,h2⟩:=id e.ex;obtain ⟨A2,c2,rfl,o,p,_⟩:=id h2;simp only [al] at h1 h2 f ⊢;refine Ud func273 20 U3 fun w0=>TY fun R a=>Up U6 fun q=>C4 1 [1,2] a Z<|TY fun R a=>Uc af U9<|Uh (jL _ j.m_ _ c b f.m_ k) U7<|C4 1 [1,2,5] a Z<|TT 2 [1,2,5,9] Z<|TW (fun g=>?_) fun g=>?_
 ·exact absurd g dc_
 refine TU 5 Z fun R a=>Uc af U9<|Ua 2 Z<|UB U8<|TZ [19] a Z<|TW (fun h=>?_) fun h=>?_
 ·exfalso;simp only [RR,Qj] at h;omega
 exact TT 1 [4] Z<|Ub U2<|⟨Z,Z⟩
def wgt (pts:List Pt)(t:Tri)(p:Pt)(j:Nat):Rat:=dD p (cor pts t ((j+1) % 3)) (cor pts t ((j+2) % 3)) / dD (cor pts t 0) (cor pts t 1) (cor pts t 2)
theorem jK (a:MeshOk pts tris)(b:t∈tris):dD (cor pts t 0) (cor pts t 1) (cor pts t 2)≠0:=by
 have h:=a.pos t b;intro e;have c:dD (pts.getD t.1 (0,0)) (pts.getD t.2.1 (0,0)) (pts.getD t.2.2 (0,0))=0:=e;rw [c] at h;exact absurd h dc_
theorem E3 (C:Mem)(g:Tabs C)(x:Value)(c:List Pt)(h:List Tri)(p:Pt)(i:Nat)(t:Tri)(y:MeshIn C x c h)(z:Good c h)(l:QP 23 p)(O:PtR p)(o:h[i]?=some t)(q:∀ j,QB 22 (wgt c t p j)) :
  Gives cx.P 239 [x,.int .i64 i,ptV p] C (.tuple #[.agg ⟨[ah (qtx (wgt c t p 0)),ah (qtx (wgt c t p 1)),ah (qtx (wgt c t p 2))]⟩,.int .i64 0]):=by
 have r:=z.ok;have A:=Qc o;have Q:=(aF.1 o).1;have B:=y;obtain ⟨v1,v2,rfl,h1,h2⟩:=id y.ex;have e:=fun j=>(nC r A j).le (show 1<=23 by decide);have s:=jK r A;have u:∀ a b,QP 23 a->QP 23 b->QB 189 (dD p a b):=fun a b S T=>(zq l S T).le dc_;have v:QB 189 (dD (cor c t 0) (cor c t 1) (cor c t 2)):=(zq (e 0) (e 1) (e 2)).le dc_;refine Ud func239 69 U3 fun w0=>TY fun R d=>Up U6 fun b3=>Up U6 fun U=>Uo U5 fun D=>C4 1 [1,3,5,6] d Z<|G.freeze 2 Z fun _ _ E=>G.freeze 1 Z fun _ _ n=>TY fun R d=>TV (PtrTo.block (Mem.get E mup) _) U8<|TX U6<|Uh (zg _ g.m_ _ c h i B.m_ z Q) U7<|C4 1 [1,3,5,6,8] d Z<|TT 2 [1,3,5,6,8,18] Z<|TW (fun F=>?_) fun F=>?_
 ·exact absurd F dc_
 refine TY fun R d=>TV (PtrTo.block (Mem.get n mup) _) U8<|Uh (iq _ g.m_ p l O) U7<|C4 1 [1,3,5,6,23] d Z<|TW (fun H=>?_) fun H=>?_
 ·exact absurd H dc_
 refine TY fun R d=>TV (PtrTo.block (Mem.get E mup) _) U8<|TX U6<|Uh (sH _ _ c h B.m_ r i t o) U7<|Uo U5 fun V=>Uf (j:=0) U12<|TZ [5,6,9] d Z<|G.freeze 0 Z fun _ _ f=>TY fun R d=>Uo U5 fun I=>TZ [5,6,9,10] d Z<|TT 1 [5,6,9,10,28] Z<|G.loop (fun fr C' W X=>∃ (j:Nat),(j<=3)/\fr=[(5,[],.pointer (some ⟨U,0,none⟩)),(6,[],.pointer (some ⟨D,0,none⟩)),(9,[],.pointer (some ⟨V,0,none⟩)),(10,[],.pointer (some ⟨I,0,none⟩)),(28,[],.int .i64 j)]/\W=[.obj I (.cells ⟨(List.range 3).map fun k=>if k<j then ah (qtx (wgt c t p k)) else ah []⟩ 328 (0,0)),.obj D (.cells ⟨[ah [],ah [],ah []]⟩ 328 (0,0))]/\X=3-j) (hn_ [5,6,9,10,28] Z) ⟨0,Qf _,Z,Z,Z⟩ (fun fr aa ab m _ Y=>?_);obtain ⟨j,hj,rfl,rfl,rfl⟩:=Y;refine TT 1 [5,6,9,10,28,29] Z<|TW (fun w=>?_) fun w=>?_
 ·have J:j<3:=by
   simp only [Qj] at w;omega
  rcases (by omega:j=0∨j=1∨j=2) with rfl | rfl | rfl
  ·refine TT 2 [5,6,9,10,11,28] Z<|Ur [0,1,2,3,4,5,6,7,8,9,10,11,12,13,14,15,16,17,18,19,20,21,22,23,24,25] [(12,1),(19,1),(20,1)] Z kr_ fun R K d=>TX U6<|TV (PtrTo.block (Mem.get n mup) _) U8<|TX U6<|Ue _ U7<|Vf U6 om_ om_ U2<|Ut (_) U9 ag U2<|TV (bkT f 2) U8<|TX U6<|Ue _ U7<|Vf U6 om_ om_ U2<|Ut (_) U9 ag U2<|TV (bkT f 2) U8<|Us (fun _=>(kT _ g.m_ p (cor c t ((0+1) % 3)) (cor c t ((0+2) % 3)) 23 dc_ dc_ l (e _) (e _))) U9<|Ut (0) U9 ag U2<|TV (bkT f 2) U8<|Ut (2) U9 ag U2<|TV (bkT f 2) U8<|Ut (4) U9 ag U2<|TV (bkT f 2) U8<|Us (fun _=>(kT _ g.m_ (cor c t 0) (cor c t 1) (cor c t 2) 23 dc_ dc_ (e 0) (e 1) (e 2))) U9<|Us (fun _=>(gQ _ g.m_ _ _ 189 dc_ dc_ (u _ _ (e _) (e _)) v s)) U9<|Ua 3 Z<|Ut (_) U9 ag U2<|Uf (j:=0) U12<|TZ [5,6,9,10,11,28] d Z<|TU 1 Z fun R d=>Ut (_) U9 ag U2<|Uc af U9<|Uh (tL _ g.m_ (wgt c t p 0) (q 0)) U7<|C4 5 [5,6,9,10,13,28] d Z<|TT 2 [5,6,9,10,13,28,64] Z<|TW (fun L=>?_) fun L=>?_
   ·exact absurd L dc_
   refine TY fun R d=>Ue _ U7<|C4 1 [5,6,9,10,28] d Z<|Ug (m':=2) om_ mup (hn_ [5,6,9,10,28] Z) ⟨1,by decide,Z,Z,Z⟩
  ·refine TT 2 [5,6,9,10,11,28] Z<|Ur [0,1,2,3,4,5,6,7,8,9,10,11,12,13,14,15,16,17,18,19,20,21,22,23,24,25] [(12,1),(19,1),(20,1)] Z kr_ fun R K d=>TX U6<|TV (PtrTo.block (Mem.get n mup) _) U8<|TX U6<|Ue _ U7<|Vf U6 om_ om_ U2<|Ut (_) U9 ag U2<|TV (bkT f 2) U8<|TX U6<|Ue _ U7<|Vf U6 om_ om_ U2<|Ut (_) U9 ag U2<|TV (bkT f 2) U8<|Us (fun _=>(kT _ g.m_ p (cor c t ((1+1) % 3)) (cor c t ((1+2) % 3)) 23 dc_ dc_ l (e _) (e _))) U9<|Ut (0) U9 ag U2<|TV (bkT f 2) U8<|Ut (2) U9 ag U2<|TV (bkT f 2) U8<|Ut (4) U9 ag U2<|TV (bkT f 2) U8<|Us (fun _=>(kT _ g.m_ (cor c t 0) (cor c t 1) (cor c t 2) 23 dc_ dc_ (e 0) (e 1) (e 2))) U9<|Us (fun _=>(gQ _ g.m_ _ _ 189 dc_ dc_ (u _ _ (e _) (e _)) v s)) U9<|Ua 3 Z<|Ut (_) U9 ag U2<|Uf (j:=0) U12<|TZ [5,6,9,10,11,28] d Z<|TU 1 Z fun R d=>Ut (_) U9 ag U2<|Uc af U9<|Uh (tL _ g.m_ (wgt c t p 1) (q 1)) U7<|C4 5 [5,6,9,10,13,28] d Z<|TT 2 [5,6,9,10,13,28,64] Z<|TW (fun M=>?_) fun M=>?_
   ·exact absurd M dc_
   refine TY fun R d=>Ue _ U7<|C4 1 [5,6,9,10,28] d Z<|Ug (m':=1) om_ mup (hn_ [5,6,9,10,28] Z) ⟨2,by decide,Z,Z,Z⟩
  refine TT 2 [5,6,9,10,11,28] Z<|Ur [0,1,2,3,4,5,6,7,8,9,10,11,12,13,14,15,16,17,18,19,20,21,22,23,24,25] [(12,1),(19,1),(20,1)] Z kr_ fun R K d=>TX U6<|TV (PtrTo.block (Mem.get n mup) _) U8<|TX U6<|Ue _ U7<|Vf U6 om_ om_ U2<|Ut (_) U9 ag U2<|TV (bkT f 2) U8<|TX U6<|Ue _ U7<|Vf U6 om_ om_ U2<|Ut (_) U9 ag U2<|TV (bkT f 2) U8<|Us (fun _=>(kT _ g.m_ p (cor c t ((2+1) % 3)) (cor c t ((2+2) % 3)) 23 dc_ dc_ l (e _) (e _))) U9<|Ut (0) U9 ag U2<|TV (bkT f 2) U8<|Ut (2) U9 ag U2<|TV (bkT f 2) U8<|Ut (4) U9 ag U2<|TV (bkT f 2) U8<|Us (fun _=>(kT _ g.m_ (cor c t 0) (cor c t 1) (cor c t 2) 23 dc_ dc_ (e 0) (e 1) (e 2))) U9<|Us (fun _=>(gQ _ g.m_ _ _ 189 dc_ dc_ (u _ _ (e _) (e _)) v s)) U9<|Ua 3 Z<|Ut (_) U9 ag U2<|Uf (j:=0) U12<|TZ [5,6,9,10,11,28] d Z<|TU 1 Z fun R d=>Ut (_) U9 ag U2<|Uc af U9<|Uh (tL _ g.m_ (wgt c t p 2) (q 2)) U7<|C4 5 [5,6,9,10,13,28] d Z<|TT 2 [5,6,9,10,13,28,64] Z<|TW (fun N=>?_) fun N=>?_
  ·exact absurd N dc_
  refine TY fun R d=>Ue _ U7<|C4 1 [5,6,9,10,28] d Z<|Ug (m':=0) om_ mup (hn_ [5,6,9,10,28] Z) ⟨3,by decide,Z,Z,Z⟩
 have J:j=3:=by
  simp only [Qz] at w;omega
 subst J;refine TY fun R d=>Uc af U9<|Uf (j:=1) U12<|C4 1 [6,7] d Z<|Ui (Ve af U5 ?_);exact ⟨Z,Z⟩
theorem bX {f:α->List Value}{l:List α}{x:α}(h:l[i]?=some x):(l.map f)[i]?=some (f x):=by rw [Qg,h];rfl
def BE (n:Nat)(l:List Str):Int:=if l.length=n then qC (l.all aZ) else 5
theorem xt (C:Mem)(y:Tabs C)(z v A:Value)(b:List Pt)(f:List Tri)(l:List Str)(B:MeshIn C z b f)(D:Good b f)(g:Sl C 1 v [[A]])(k:Sl C 1 A (l.map nL))(N:∀ s∈l,s.length<=999998) :
  Gives cx.P 103 [z,v] C (.int .i64 (BE b.length l)):=by
 have E:=B;have Y:=D.ok.lp;obtain ⟨v1,v2,rfl,h1,h2⟩:=id B.ex;obtain ⟨A1,c1,rfl,aa,ab,_⟩:=id h1;obtain ⟨F,H,rfl,ac,ad,_⟩:=id g;obtain ⟨n,o,rfl,O,ae,_⟩:=id k;have af:maxLen<=9223372036854775807:=by simp [maxLen]
 simp only [al,aI] at h1 g k E O ⊢;refine Ud func103 41 U3 fun w0=>TY fun R a=>Up U6 fun I=>C4 1 [1,2] a Z<|G.freeze 0 Z fun _ _ J=>TY fun R a=>TV (PtrTo.block (Mem.get J mup) _) U8<|Uh (jL _ y.m_ _ b f E.m_ D) U7<|C4 1 [1,2,5] a Z<|TT 2 [1,2,5,14] Z<|TW (fun K=>?_) fun K=>?_
 ·exact absurd K dc_
 refine TT 3 [2,16,17,18] Z<|G.loop (fun fr C' p q=>∃ (i:Nat),(i<=1/\(i=1->l.length=b.length/\l.all aZ=true))/\fr=[(2,[],.pointer (some ⟨I,0,none⟩)),(16,[],.slice F 1 H),(17,[],.int .i64 1),(18,[],.int .i64 i)]/\p=[]/\q=1-i) (hn_ [2,16,17,18] Z) ⟨0,⟨Qf _,fun h=>absurd h dc_⟩,Z,Z,Z⟩ (fun fr ag ah m _ r=>?_);obtain ⟨i,⟨hi,Q⟩,rfl,rfl,rfl⟩:=r;refine TT 1 [2,16,17,18,19] Z<|TW (fun t=>?_) fun t=>?_
 ·obtain rfl:i=0:=by
   simp only [Qj] at t;omega
  refine TY fun R a=>Ul g.m_ U10 om_ (rfl:([[.slice n l.length o]]:List (List Value))[0]?=some [.slice n l.length o]) fl_ fun ai S=>TV S U8<|C4 1 [2,7,16,17,18] a Z<|TU 3 Z fun R a=>TV (PtrTo.block (Mem.get J mup) _) U8<|C4 2 [2,7,16,17,18,27] a Z<|TW (fun d=>?_) fun d=>?_
  ·have T:l.length≠b.length:=by
    intro e;rw [e] at d;simp at d
   exact TT 1 [4] Z<|Ub U2<|⟨by unfold BE;rw [az T],Z⟩
  have L:l.length=b.length:=by
   have h:((l.length:Nat):Int)=(b.length:Nat):=by simpa using d
   omega
  refine TT 3 [2,16,17,18,28,29,30] Z<|G.loop (fun fr C' p q=>∃ (j:Nat),(j<=l.length/\(l.take j).all aZ=true)/\fr=[(2,[],.pointer (some ⟨I,0,none⟩)),(16,[],.slice F 1 H),(17,[],.int .i64 1),(18,[],.int .i64 0),(28,[],.slice n l.length o),(29,[],.int .i64 l.length),(30,[],.int .i64 j)]/\p=[]/\q=l.length-j) (hn_ [2,16,17,18,28,29,30] Z) ⟨0,⟨Qf _,by simp⟩,Z,Z,Z⟩ (fun fr ak am m U r=>?_);obtain ⟨j,⟨hj,u⟩,rfl,rfl,rfl⟩:=r;refine TT 1 [2,16,17,18,28,29,30,31] Z<|TW (fun w=>?_) fun w=>?_
  ·have x:j<l.length:=by simpa using w
   obtain ⟨s,hs⟩:∃ s,l[j]?=some s:=⟨l[j],aj x⟩;refine TY fun R a=>Ul k.m_ U10 om_ (bX hs) fl_ fun an V=>TV V U8<|C4 1 [2,9,16,17,18,28,29,30] a Z<|TU 1 Z fun R a=>Uh (dV _ y.m_ s (N s (Qc hs))) U7<|C4 1 [2,10,16,17,18,28,29,30] a Z<|TT 2 [2,10,16,17,18,28,29,30,37] Z<|TW (fun c=>?_) fun c=>?_
   ·have M:aZ s=false:=by
     rcases gG (aZ s) with ⟨h1,h2⟩ | ⟨h1,h2⟩
     ·rw [h1] at c;exact absurd c dc_
     exact h2
    refine TT 2 [4] Z<|Ub U2<|⟨?_,Z⟩;unfold BE;rw [aU L,M,show l.all aZ=false from SJ.2 ⟨s,Qc hs,by rw [M];decide⟩]
   have W:aZ s=true:=by
    rcases gG (aZ s) with ⟨h1,h2⟩ | ⟨h1,h2⟩
    ·exact h2
    rw [h1] at c;exact absurd c dc_
   refine TY fun R a=>Ue _ U7<|C4 1 [2,16,17,18,28,29,30] a Z<|Ug (m':=l.length-(j+1)) om_ U (hn_ [2,16,17,18,28,29,30] Z) ⟨j+1,⟨by omega,by rw [QF,hs,Tb,u];simp [W]⟩,Z,Z,Z⟩
  have x:j=l.length:=by
   have:¬ j<l.length:=by simpa using w
   omega
  refine TY fun R a=>Ue _ U7<|C4 1 [2,16,17,18] a Z<|Ug (m':=0) om_ mup (hn_ [2,16,17,18] Z) ⟨1,⟨Qb _,fun _=>⟨L,by rw [x,Qo] at u;exact u⟩⟩,Z,Z,Z⟩
 have X:i=1:=by
  simp only [Qz] at t;omega
 refine TT 1 [4] Z<|Ub U2<|⟨?_,Z⟩;obtain ⟨h3,h4⟩:=Q X;unfold BE;rw [aU h3,h4];rfl
theorem uA (C:Mem)(h:Tabs C)(e f:Value)(a:List Pt)(b:List Tri)(l:List Str)(g:MeshIn C e a b)(i:Good a b)(c:Sl C 1 f (l.map nL))(j:∀ s∈l,s.length<=999998) :
  Gives cx.P 67 [e,f] C (.int .i64 (BE a.length l)):=by
 have k:=g;obtain ⟨p,q,rfl,h1,h2⟩:=id g.ex;obtain ⟨m,n,rfl,r,t,_⟩:=id c;simp only [al] at c ⊢;exact Ud func67 9 U3 fun w0=>TY fun R d=>Up U6 fun u=>C4 1 [1,2] d Z<|TY fun R d=>Uc af U9<|TX U6<|Uq [[.slice m l.length n]] U12 fun v _ _ o=>Uh (xt _ h.m_ _ _ _ a b l k.m_ i o.m_ c.m_ j) U7<|C4 1 [4] d Z<|Ub U2<|⟨Z,Z⟩
def fe (q:Rat):List Value:=[ah (qtx q)]
def fz (fs:List Rat)(t:Tri)(j:Nat):Rat:=fs.getD (mB t j) 0
def yX (pts:List Pt)(fs:List Rat)(t:Tri)(j:Nat):List Value:=gl (cor pts t j)++fe (fz fs t j)
theorem GZ (h:i<fs.length):fs[i]?=some (fs.getD i 0):=by
 rw [aw,aj h];rfl
theorem yP (C:Mem)(r s:Value)(b:List Pt)(l:List Tri)(c:List Rat)(z:MeshIn C r b l)(A:MeshOk b l)(e:Sl C 1 s (c.map fe))(n:c.length=b.length)(i:Nat)(t:Tri)(o:l[i]?=some t) :
  Gives cx.P 298 [r,s,.int .i64 i] C (.agg ⟨yX b c t 0++yX b c t 1++yX b c t 2⟩):=by
 have d:=A.ins t (Qc o);obtain ⟨M,N,rfl,h1,h2⟩:=id z.ex;obtain ⟨O,Q,rfl,B,S,_⟩:=id h1;obtain ⟨A2,c2,rfl,D,T,_⟩:=id h2;obtain ⟨E,F,rfl,U,V,_⟩:=id e;have W:maxLen<=9223372036854775807:=by simp [maxLen]
 simp only [al] at h1 h2 e B D ⊢;have X:=(aF.1 o).1;refine Ud func298 32 U3 fun w0=>?_;refine TY fun R a=>?_;refine Up U6 (fun H=>?_);refine Uo U5 (fun u=>?_);refine TZ [1,2,3,6] a Z ?_;refine G.freeze 1 Z (fun _ _ h=>?_);refine TU 1 Z fun R a=>?_;refine TV (PtrTo.block (Mem.get h mup) _) U8 ?_;refine TX U6 ?_;refine Ul h2.m_ U10 om_ (bX o) fl_ (fun Y I=>?_);refine TV I U8 ?_;refine C4 1 [1,3,6,13,14] a Z ?_;refine G.loop (fun fr C' J K=>∃ (j:Nat),(j<=3)/\fr=[(1,[],.slice E c.length F),(3,[],.pointer (some ⟨H,0,none⟩)),(6,[],.pointer (some ⟨u,0,none⟩)),(13,[],.agg ⟨kA t⟩),(14,[],.int .i64 j)]/\J=[.obj u (.cells ⟨(List.range 3).flatMap fun k=>if k<j then yX b c t k else [ah [],ah [],ah []]⟩ 391 (0,0))]/\K=3-j) (hn_ [1,3,6,13,14] Z) ⟨0,Qf _,Z,Z,Z⟩ (fun fr aa ab m p L=>?_);obtain ⟨j,hj,rfl,rfl,rfl⟩:=L;refine TT 1 [1,3,6,13,14,15] Z ?_;refine TW (fun q=>?_) fun q=>?_
 ·have v:j<3:=by
   simp only [Qj] at q;omega
  rcases (by omega:j=0∨j=1∨j=2) with rfl | rfl | rfl
  ·refine TU 1 Z fun R a=>?_;refine UX U11 ag U2 ?_;refine C4 2 [1,3,6,7,8,13,14] a Z ?_;refine Ur [0,1,2,3,4,5,6,7,8,9,10,11,12] [] Z kr_ (fun R w a=>?_);refine Ua 2 Z ?_;refine TV (PtrTo.block (Mem.get h mup) _) U8 ?_;refine TX U6 ?_;refine Ul h1.m_ U10 om_ (bX (pj (eX d 0))) fl_ (fun x f=>?_);refine TV f U8 ?_;refine Ua 2 Z ?_;refine Ul e.m_ U10 om_ (bX (GZ (n ▸ eX d 0))) fl_ (fun y g=>?_);refine TV g U8 ?_;refine Un (yX b c t 0) U8 ?_;refine Ut (_) U9 ag U2 ?_;refine Uf (j:=0) U12 ?_;refine TZ [1,3,6,13,14] a Z ?_;refine TY fun R a=>?_;refine Ue _ U7 ?_;refine C4 1 [1,3,6,13,14] a Z ?_;refine Ug (m':=2) om_ p (hn_ [1,3,6,13,14] Z) ⟨1,by decide,Z,Z,Z⟩
  ·refine TU 1 Z fun R a=>?_;refine UX U11 ag U2 ?_;refine C4 2 [1,3,6,7,8,13,14] a Z ?_;refine Ur [0,1,2,3,4,5,6,7,8,9,10,11,12] [] Z kr_ (fun R w a=>?_);refine Ua 2 Z ?_;refine TV (PtrTo.block (Mem.get h mup) _) U8 ?_;refine TX U6 ?_;refine Ul h1.m_ U10 om_ (bX (pj (eX d 1))) fl_ (fun x f=>?_);refine TV f U8 ?_;refine Ua 2 Z ?_;refine Ul e.m_ U10 om_ (bX (GZ (n ▸ eX d 1))) fl_ (fun y g=>?_);refine TV g U8 ?_;refine Un (yX b c t 1) U8 ?_;refine Ut (_) U9 ag U2 ?_;refine Uf (j:=0) U12 ?_;refine TZ [1,3,6,13,14] a Z ?_;refine TY fun R a=>?_;refine Ue _ U7 ?_;refine C4 1 [1,3,6,13,14] a Z ?_;refine Ug (m':=1) om_ p (hn_ [1,3,6,13,14] Z) ⟨2,by decide,Z,Z,Z⟩
  refine TU 1 Z fun R a=>?_;refine UX U11 ag U2 ?_;refine C4 2 [1,3,6,7,8,13,14] a Z ?_;refine Ur [0,1,2,3,4,5,6,7,8,9,10,11,12] [] Z kr_ (fun R w a=>?_);refine Ua 2 Z ?_;refine TV (PtrTo.block (Mem.get h mup) _) U8 ?_;refine TX U6 ?_;refine Ul h1.m_ U10 om_ (bX (pj (eX d 2))) fl_ (fun x f=>?_);refine TV f U8 ?_;refine Ua 2 Z ?_;refine Ul e.m_ U10 om_ (bX (GZ (n ▸ eX d 2))) fl_ (fun y g=>?_);refine TV g U8 ?_;refine Un (yX b c t 2) U8 ?_;refine Ut (_) U9 ag U2 ?_;refine Uf (j:=0) U12 ?_;refine TZ [1,3,6,13,14] a Z ?_;refine TY fun R a=>?_;refine Ue _ U7 ?_;refine C4 1 [1,3,6,13,14] a Z ?_;refine Ug (m':=0) om_ p (hn_ [1,3,6,13,14] Z) ⟨3,by decide,Z,Z,Z⟩
 have v:j=3:=by
  simp only [Qz] at q;omega
 subst v;refine TY fun R a=>?_;refine Uc af U9 ?_;refine Uf (j:=0) U12 ?_;refine TZ [6] a Z ?_;refine Ui (UN af U4 ?_);exact ⟨Z,Z⟩
/-! Finer bounds. -/
theorem jo (c:QB k a)(d:QB m b):QB (k+m) (a*b):=by
 rw [gu];refine gX (Nat.mul_ne_zero a.den_nz b.den_nz) ?_ ?_
 ·rw [RQ,S7];exact Sb c.1 d.1
 rw [S7];exact Sb c.2 d.2
theorem vc (c:QB k a)(d:QB m b):QB (k+m+1) (a+b):=by
 rw [jC];have e:B9 ^ (k+m+1)=B9 ^ k*B9 ^ m*B9:=by rw [Ru,S7]
 have f:(a.num*b.den).natAbs<B9 ^ k*B9 ^ m:=by rw [RQ,QZ];exact Sb c.1 d.2
 have g:(b.num*a.den).natAbs<B9 ^ k*B9 ^ m:=by rw [RQ,QZ,Q0];exact Sb c.2 d.1
 have h:a.den*b.den<B9 ^ k*B9 ^ m:=Sb c.2 d.2;have i:2*(B9 ^ k*B9 ^ m)<=B9 ^ k*B9 ^ m*B9:=by
  rw [Q0];exact RF _ dc_
 refine gX (Nat.mul_ne_zero a.den_nz b.den_nz) ?_ ?_
 ·rw [e];have:=SX (a.num*b.den) (b.num*a.den);omega
 rw [e];omega
theorem fc (c:QB k a)(d:QB m b):QB (k+m+1) (a-b):=by
 rw [TN];exact vc c (eW d)
theorem QB_one:QB 1 1:=⟨by decide,by decide⟩
theorem QB_zero:QB 1 0:=⟨by decide,by decide⟩
def eC (a b c d:Rat):Rat:=a*d-b*c
theorem pY (C:Mem)(e:Tabs C)(a b c d:Rat)(k:Nat)(f:0<k)(m:k<=2000)(g:QB k a)(h:QB k b)(i:QB k c)(j:QB k d):Gives cx.P 299 [ah (qtx a),ah (qtx b),ah (qtx c),ah (qtx d)] C (ah (qtx (eC a b c d))):=by
 exact Ud func299 16 U3 fun w0=>TT 1 [0,1,2,3] Z<|TU 2 Z fun R l=>Uk (dR _ e.m_ a d k f om_ g j) U7 fl_<|Ua 2 Z<|Uk (dR _ e.m_ b c k f om_ h i) U7 fl_<|Uk (dZ _ e.m_ (a*d) (b*c) (k+k) om_ om_ (qM g j) (qM h i)) U7 fl_<|C4 1 [8] l Z<|Ub U2<|⟨Z,Z⟩
theorem jU {d:Rat}(e:QB k a)(f:QB k b)(g:QB k c)(h:QB k d):QB (4*k+1) (eC a b c d):=(fc (jo e h) (jo f g)).le om_
def oN (c0 c1 c2:Pt)(z0 z1 z2:Rat):Pt :=
 ((1 / eC (c1.1-c0.1) (c1.2-c0.2) (c2.1-c0.1) (c2.2-c0.2))*eC (z1-z0) (c1.2-c0.2) (z2-z0) (c2.2-c0.2),
 (1 / eC (c1.1-c0.1) (c1.2-c0.2) (c2.1-c0.1) (c2.2-c0.2))*eC (c1.1-c0.1) (z1-z0) (c2.1-c0.1) (z2-z0))
def dN (pts:List Pt)(fs:List Rat)(t:Tri):Pt:=oN (cor pts t 0) (cor pts t 1) (cor pts t 2) (fz fs t 0) (fz fs t 1) (fz fs t 2)
theorem Nj (a:MeshOk pts tris)(b:fs.length=pts.length)(c:∀ q∈fs,QB k q)(d:t∈tris)(j:Nat):QB k (fz fs t j) :=
 c _ (Qc (GZ (b ▸ eX (a.ins t d) j)))
theorem vN (d:MeshOk pts tris)(g:fs.length=pts.length)(h:∀ q∈fs,QB k q)(e:t∈tris):QP (8*k+39) (dN pts fs t):=by
 have a:=fun j=>nC d e j;have f:=fun j=>Nj d g h e j;have b:∀ i j,QB 3 ((cor pts t i).1-(cor pts t j).1):=fun i j=>(fc (a i).1 (a j).1).le dc_;have hy:∀ i j,QB 3 ((cor pts t i).2-(cor pts t j).2):=fun i j=>(fc (a i).2 (a j).2).le dc_;have c:∀ i j,QB (2*k+1) (fz fs t i-fz fs t j):=fun i j=>(fc (f i) (f j)).le om_;have hm:QB 13 (eC ((cor pts t 1).1-(cor pts t 0).1) ((cor pts t 1).2-(cor pts t 0).2) ((cor pts t 2).1-(cor pts t 0).1) ((cor pts t 2).2-(cor pts t 0).2)):=(jU (k:=3) (b 1 0) (hy 1 0) (b 2 0) (hy 2 0)).le dc_;have l:eC ((cor pts t 1).1-(cor pts t 0).1) ((cor pts t 1).2-(cor pts t 0).2) ((cor pts t 2).1-(cor pts t 0).1) ((cor pts t 2).2-(cor pts t 0).2)≠0:=jK d e;have h1:QB 26 _:=(jp (k:=13) (QB_one.le dc_) hm l).le dc_;have m:QB (4*(2*k+3)+1) (eC (fz fs t 1-fz fs t 0) ((cor pts t 1).2-(cor pts t 0).2) (fz fs t 2-fz fs t 0) ((cor pts t 2).2-(cor pts t 0).2)):=jU (k:=2*k+3) ((c 1 0).le om_) ((hy 1 0).le om_) ((c 2 0).le om_) ((hy 2 0).le om_);have n:QB (4*(2*k+3)+1) (eC ((cor pts t 1).1-(cor pts t 0).1) (fz fs t 1-fz fs t 0) ((cor pts t 2).1-(cor pts t 0).1) (fz fs t 2-fz fs t 0)):=jU (k:=2*k+3) ((b 1 0).le om_) ((c 1 0).le om_) ((b 2 0).le om_) ((c 2 0).le om_);exact ⟨(jo h1 m).le om_,(jo h1 n).le om_⟩
theorem wZ (C:Mem)(d:Tabs C)(r s:Value)(a:List Pt)(n:List Tri)(b:List Rat)(k:Nat)(u:0<k)(K:k<=100)(v:MeshIn C r a n)(o:MeshOk a n)(D:Sl C 1 s (b.map fe))(w:b.length=a.length)(E:∀ q∈b,QB k q)(i:Nat)(t:Tri)(x:n[i]?=some t) :
  Gives cx.P 276 [r,s,.int .i64 i] C (ptV (dN a b t)):=by
 have p:=Qc x;have F:=v;obtain ⟨L,M,rfl,h1,h2⟩:=id v.ex;have e:=fun j=>nC o p j;have m:=fun j=>Nj o w E p j;have g:∀ i j,QB 3 ((cor a t i).1-(cor a t j).1):=fun i j=>(fc (e i).1 (e j).1).le dc_;have hy:∀ i j,QB 3 ((cor a t i).2-(cor a t j).2):=fun i j=>(fc (e i).2 (e j).2).le dc_;have l:∀ i j,QB (2*k+1) (fz b t i-fz b t j):=fun i j=>(fc (m i) (m j)).le om_;have y:QB 13 (eC ((cor a t 1).1-(cor a t 0).1) ((cor a t 1).2-(cor a t 0).2) ((cor a t 2).1-(cor a t 0).1) ((cor a t 2).2-(cor a t 0).2)):=(jU (k:=3) (g 1 0) (hy 1 0) (g 2 0) (hy 2 0)).le dc_;have z:eC ((cor a t 1).1-(cor a t 0).1) ((cor a t 1).2-(cor a t 0).2) ((cor a t 2).1-(cor a t 0).1) ((cor a t 2).2-(cor a t 0).2)≠0:=jK o p;have A:QB 26 (1 / eC ((cor a t 1).1-(cor a t 0).1) ((cor a t 1).2-(cor a t 0).2) ((cor a t 2).1-(cor a t 0).1) ((cor a t 2).2-(cor a t 0).2)):=(jp (k:=13) (QB_one.le dc_) y z).le dc_;have H:QB (8*k+26) (eC (fz b t 1-fz b t 0) ((cor a t 1).2-(cor a t 0).2) (fz b t 2-fz b t 0) ((cor a t 2).2-(cor a t 0).2)):=(jU (k:=2*k+3) ((l 1 0).le om_) ((hy 1 0).le om_) ((l 2 0).le om_) ((hy 2 0).le om_)).le om_;have I:QB (8*k+26) (eC ((cor a t 1).1-(cor a t 0).1) (fz b t 1-fz b t 0) ((cor a t 2).1-(cor a t 0).1) (fz b t 2-fz b t 0)):=(jU (k:=2*k+3) ((g 1 0).le om_) ((l 1 0).le om_) ((g 2 0).le om_) ((l 2 0).le om_)).le om_;refine Ud func276 98 U3 fun w0=>?_;refine TY fun R c=>?_;refine Up U6 (fun N=>?_);refine Uo U5 (fun O=>?_);refine TZ [1,2,3,6] c Z ?_;refine TY fun R c=>?_;refine Uc ae U9 ?_;refine Ua 2 Z ?_;refine Uh (yP _ _ _ a n b F.m_ o D.m_ w i t x) U7 ?_;refine Uo U5 (fun Q=>?_);refine Uf (j:=0) U12 ?_;refine TZ [6,7] c Z ?_;refine G.freeze 0 Z (fun J _ f=>?_);refine Ur [0,1,2,3,4,5,6,7,8,9,10,11,12,13,14,15,16,17,18,19] [(8,1),(17,1)] Z kr_ (fun R B c=>?_);refine Ut (3) U9 ag U2 ?_;refine Ua 2 Z ?_;refine TV (bkT f 1) U8 ?_;refine Ut (0) U9 ag U2 ?_;refine Ua 2 Z ?_;refine TV (bkT f 1) U8 ?_;refine Us (fun _=>(dZ _ d.m_ (cor a t 1).1 (cor a t 0).1 1 dc_ dc_ (e 1).1 (e 0).1)) U9 ?_;refine Ut (3) U9 ag U2 ?_;refine Ua 2 Z ?_;refine TV (bkT f 1) U8 ?_;refine Ut (0) U9 ag U2 ?_;refine Ua 2 Z ?_;refine TV (bkT f 1) U8 ?_;refine Us (fun _=>(dZ _ d.m_ (cor a t 1).2 (cor a t 0).2 1 dc_ dc_ (e 1).2 (e 0).2)) U9 ?_;refine C4 2 [6,7,8,9] c Z ?_;refine Ur [0,1,2,3,4,5,6,7,8,9,10,11,12,13,14,15,16,17,18,19] [(8,1),(17,1)] Z kr_ (fun R B c=>?_);refine Ut (6) U9 ag U2 ?_;refine Ua 2 Z ?_;refine TV (bkT f 1) U8 ?_;refine Ut (0) U9 ag U2 ?_;refine Ua 2 Z ?_;refine TV (bkT f 1) U8 ?_;refine Us (fun _=>(dZ _ d.m_ (cor a t 2).1 (cor a t 0).1 1 dc_ dc_ (e 2).1 (e 0).1)) U9 ?_;refine Ut (6) U9 ag U2 ?_;refine Ua 2 Z ?_;refine TV (bkT f 1) U8 ?_;refine Ut (0) U9 ag U2 ?_;refine Ua 2 Z ?_;refine TV (bkT f 1) U8 ?_;refine Us (fun _=>(dZ _ d.m_ (cor a t 2).2 (cor a t 0).2 1 dc_ dc_ (e 2).2 (e 0).2)) U9 ?_;refine C4 2 [6,7,8,9,10,11] c Z ?_;refine Ur [0,1,2,3,4,5,6,7,8,9,10,11,12,13,14,15] [(6,1),(13,1)] Z kr_ (fun R B c=>?_);refine Ut (3) U9 ag U2 ?_;refine TX U6 ?_;refine TV (bkT f 1) U8 ?_;refine Ut (0) U9 ag U2 ?_;refine TX U6 ?_;refine TV (bkT f 1) U8 ?_;refine Us (fun _=>(dZ _ d.m_ (fz b t 1) (fz b t 0) k u om_ (m 1) (m 0))) U9 ?_;refine Ut (6) U9 ag U2 ?_;refine TX U6 ?_;refine TV (bkT f 1) U8 ?_;refine Ut (0) U9 ag U2 ?_;refine TX U6 ?_;refine TV (bkT f 1) U8 ?_;refine Us (fun _=>(dZ _ d.m_ (fz b t 2) (fz b t 0) k u om_ (m 2) (m 0))) U9 ?_;refine C4 2 [6,8,9,10,11,12,13] c Z ?_;refine TT 1 [6,8,9,10,11,12,13,14] Z ?_;refine TU 5 Z fun R c=>?_;refine Uk (pY _ d.m_ _ _ _ _ 3 dc_ dc_ (g 1 0) (hy 1 0) (g 2 0) (hy 2 0)) U7 fl_ ?_;refine Uk (by have h:=gQ J d.m_ 1 _ 13 dc_ dc_ (QB_one.le dc_) y z;rw [dx] at h;exact h) U7 fl_ ?_;refine C4 5 [6,8,9,10,11,12,13,14,15] c Z ?_;refine TU 6 Z fun R c=>?_;refine Uk (pY _ d.m_ (fz b t 1-fz b t 0) ((cor a t 1).2-(cor a t 0).2) (fz b t 2-fz b t 0) ((cor a t 2).2-(cor a t 0).2) (2*k+3) om_ om_ ((l 1 0).le om_) ((hy 1 0).le om_) ((l 2 0).le om_) ((hy 2 0).le om_)) U7 fl_ ?_;refine Uk (dR _ d.m_ _ _ (8*k+26) om_ om_ (A.le om_) H) U7 fl_ ?_;refine Ua 6 Z ?_;refine Uk (pY _ d.m_ ((cor a t 1).1-(cor a t 0).1) (fz b t 1-fz b t 0) ((cor a t 2).1-(cor a t 0).1) (fz b t 2-fz b t 0) (2*k+3) om_ om_ ((g 1 0).le om_) ((l 1 0).le om_) ((g 2 0).le om_) ((l 2 0).le om_)) U7 fl_ ?_;refine Uk (dR _ d.m_ _ _ (8*k+26) om_ om_ (A.le om_) I) U7 fl_ ?_;refine Un (gl (dN a b t)) U8 ?_;refine Uf (j:=0) U12 ?_;refine TZ [6] c Z ?_;refine Ui (UN af U4 ?_);exact ⟨Z,Z⟩
def H5 (l:List Rat):Rat:=l.foldl (·+·) 0
theorem EP (l:List Rat)(q:Rat):H5 (l++[q])=H5 l+q:=by unfold H5;rw [List.foldl_append];rfl
theorem Mq (C:Mem)(g:Tabs C)(v:Value)(l:List Rat)(k:Nat)(h:0<k)(j:k<=10000)(b:Sl C 1 v (l.map fe))(n:∀ q∈l,QB k q)(o:∀ i,QB k (H5 (l.take i))) :
  Gives cx.P 312 [v] C (ah (qtx (H5 l))):=by
 obtain ⟨p,c0,rfl,r,z,_⟩:=id b;have A:maxLen<=9223372036854775807:=by simp [maxLen]
 simp only [al] at b r ⊢;refine Ud func312 17 U3 fun w0=>TT 1 [0] Z<|TT 1 [0,3] Z<|TT 3 [3,6,7,8] Z<|G.loop (fun fr C' t u=>∃ (i:Nat)(s:Str),(i<=l.length/\s=qtx (H5 (l.take i)))/\fr=[(3,[],ah s),(6,[],.slice p l.length c0),(7,[],.int .i64 l.length),(8,[],.int .i64 i)]/\t=[]/\u=l.length-i) (hn_ [3,6,7,8] Z) ⟨0,[48],⟨Qf _,qtx_zero.symm⟩,Z,Z,Z⟩ (fun fr B D m w x=>?_);obtain ⟨i,s,⟨E,f⟩,rfl,rfl,rfl⟩:=x;refine TT 1 [3,6,7,8,9] Z<|TW (fun c=>?_) fun c=>?_
 ·have d:i<l.length:=by simpa using c
  obtain ⟨q,e⟩:∃ q,l[i]?=some q:=⟨l[i],aj d⟩;subst f;refine TY fun R a=>Ul b.m_ U10 om_ (bX e) fl_ fun F y=>TV y U8<|C4 1 [3,5,6,7,8] a Z<|TU 2 Z fun R a=>Uh (mP _ g.m_ (H5 (l.take i)) q k h j (o i) (n q (Qc e))) U7<|C4 1 [3,6,7,8] a Z<|TY fun R a=>Ue _ U7<|C4 1 [3,6,7,8] a Z<|Ug (m':=l.length-(i+1)) om_ w (hn_ [3,6,7,8] Z) ⟨i+1,_,⟨by omega,by rw [QF,e,Rv,EP]⟩,Z,Z,Z⟩
 have d:i=l.length:=by
  have:¬ i<l.length:=by simpa using c
  omega
 exact TT 2 [2] Z<|Ub U2<|⟨by rw [f,d,Qo],Z⟩
def Dj (q:Rat):Value:=if aZ (qtx q) then .tuple #[ah (qtx q),.int .i64 0] else .tuple #[ah [],.int .i64 4]
theorem G2 (C:Mem)(b:Tabs C)(q:Rat)(c:(qtx q).length<=999998):Gives cx.P 296 [ah (qtx q)] C (Dj q):=by
 refine Ud func296 8 U3 fun w0=>TT 2 [0] Z<|TU 1 Z fun R d=>Uh (dV _ b.m_ _ c) U7<|C4 1 [0,6] d Z<|TW (fun a=>?_) fun a=>?_
 ·have e:aZ (qtx q)=false:=by
   rcases gG (aZ (qtx q)) with ⟨h1,h2⟩ | ⟨h1,h2⟩
   ·rw [h1] at a;exact absurd a dc_
   exact h2
  refine TT 2 [2,3] Z<|Ui (G.dropAll (Uw U3 ?_));exact ⟨by unfold Dj;rw [e];rfl,Z⟩
 have f:aZ (qtx q)=true:=by
  rcases gG (aZ (qtx q)) with ⟨h1,h2⟩ | ⟨h1,h2⟩
  ·exact h2
  rw [h1] at a;exact absurd a dc_
 refine TT 3 [2,3] Z<|Ui (G.dropAll (Uw U3 ?_));exact ⟨by unfold Dj;rw [f];rfl,Z⟩
def onQ (pts:List Pt)(fs:List Rat)(t:Tri)(p:Pt):Rat:=H5 [fz fs t 0,(dN pts fs t).1*(p.1-(cor pts t 0).1),(dN pts fs t).2*(p.2-(cor pts t 0).2)]
theorem Lm (n:k<=23)(a:MeshOk pts tris)(c:fs.length=pts.length)(d:∀ q∈fs,QB k q)(b:t∈tris)(e:QP 23 p):QB 600 (onQ pts fs t p)/\(∀ i,QB 600 (H5 ([fz fs t 0,(dN pts fs t).1*(p.1-(cor pts t 0).1),(dN pts fs t).2*(p.2-(cor pts t 0).2)].take i)))/\QB 600 (fz fs t 0)/\QB 600 ((dN pts fs t).1*(p.1-(cor pts t 0).1))/\QB 600 ((dN pts fs t).2*(p.2-(cor pts t 0).2)):=by
 have hs:=vN a c d b;have f:=nC a b 0;have g:=Nj a c d b 0;have h1:QB 248 ((dN pts fs t).1*(p.1-(cor pts t 0).1)):=(jo hs.1 (fc e.1 f.1)).le om_;have h2:QB 248 ((dN pts fs t).2*(p.2-(cor pts t 0).2)):=(jo hs.2 (fc e.2 f.2)).le om_;have h:QB 25 (0+fz fs t 0):=(vc QB_zero g).le om_;have j:QB 274 (0+fz fs t 0+(dN pts fs t).1*(p.1-(cor pts t 0).1)):=(vc h h1).le om_;have l:QB 523 (0+fz fs t 0+(dN pts fs t).1*(p.1-(cor pts t 0).1)+(dN pts fs t).2*(p.2-(cor pts t 0).2)):=(vc j h2).le om_;refine ⟨l.le dc_,fun i=>?_,g.le om_,h1.le dc_,h2.le dc_⟩;rcases (by omega:i=0∨i=1∨i=2∨3<=i) with rfl | rfl | rfl | m
 ·exact QB_zero.le dc_
 ·exact h.le dc_
 ·exact j.le dc_
 rw [QE (by simpa using m)];exact l.le dc_
theorem L4 (e:QB k a)(f:QB k b)(g:QB k c):∀ q∈[a,b,c],QB k q:=by
 intro q d;simp only [Qp,Rb,SA] at d;rcases d with rfl | rfl | rfl <;> assumption
theorem PS (C:Mem)(d:Tabs C)(u v:Value)(a:List Pt)(g:List Tri)(c:List Rat)(k:Nat)(E:0<k)(F:k<=23)(w:MeshIn C u a g)(e:MeshOk a g)(h:Sl C 1 v (c.map fe))(l:c.length=a.length)(r:∀ q∈c,QB k q)(i:Nat)(t:Tri)(m:g[i]?=some t)(p:Pt)(f:QP 23 p) :
  Gives cx.P 297 [u,v,.int .i64 i,ptV p] C (ah (qtx (onQ a c t p))):=by
 have n:=Qc m;have x:=e.ins t n;have y:=w;have z:=h;obtain ⟨X,Y,rfl,h1,h2⟩:=id w.ex;obtain ⟨A1,c1,rfl,H,aa,_⟩:=id h1;obtain ⟨A2,c2,rfl,I,ab,_⟩:=id h2;obtain ⟨A4,c4,rfl,ac,ad,_⟩:=id h;have ae:maxLen<=9223372036854775807:=by simp [maxLen]
 simp only [al] at h1 h2 h z y H I ⊢;have af:=(aF.1 m).1;have o:=nC e n 0;obtain ⟨ag,J,K,L,M⟩:=Lm F e l r n f;have hs:=vN e l r n;have N:QB 25 (p.1-(cor a t 0).1):=(fc f.1 o.1).le dc_;have O:QB 25 (p.2-(cor a t 0).2):=(fc f.2 o.2).le dc_;refine Ud func297 49 U3 fun w0=>TY fun R b=>Up U6 fun b4=>Up U6 fun b7=>C4 1 [1,2,4,7] b Z<|G.freeze 1 Z fun _ _ s=>TY fun R b=>TV (PtrTo.block (Mem.get s mup) _) U8<|Ua 2 Z<|Uk (wZ _ d.m_ _ _ a g c k E om_ y.m_ e z.m_ l r i t m) U7 fl_<|Uo U5 fun b9=>Uf (j:=0) U12<|TZ [1,2,4,7,9] b Z<|TU 1 Z fun R b=>TV (PtrTo.block (Mem.get s mup) _) U8<|TX U6<|Ul h2.m_ U10 om_ (bX m) fl_ fun ai Q=>VF U9 (fun _=>Q) (fun _=>⟨by omega,om_⟩) fl_ Z (fun aj S=>?_);have T:=S trivial;exact TV T U8<|C4 1 [1,4,7,9,10] b Z<|TU 1 Z fun R b=>TV (PtrTo.block (Mem.get s mup) _) U8<|TX U6<|Ul h1.m_ U10 om_ (bX (pj x.1)) fl_ fun ak U=>TV U U8<|Uo U5 fun am=>Uf (j:=0) U12<|TZ [1,7,9,10,11] b Z<|G.freeze 0 Z fun _ _ A=>G.freeze 0 Z fun _ _ B=>G.freeze 0 Z fun _ _ D=>Ur [0,1,2,3,4,5,6,7,8,9,10,11,12,13,14,15,16,17,18,19,20,21,22] [(10,1),(11,1),(18,1),(19,1),(21,1)] Z kr_ fun R hB b=>Ua 2 Z<|Ul h.m_ U10 om_ (bX (GZ (l ▸ x.1))) fl_ fun an V=>TV V U8<|TX U6<|TV (bkT B 1) U8<|TX U6<|TV (bkT D 1) U8<|TX U6<|TV (bkT A 1) U8<|Us (fun _=>(dZ _ d.m_ p.1 (cor a t 0).1 23 dc_ dc_ f.1 (o.1.le dc_))) U9<|Us (fun _=>(dR _ d.m_ _ _ 300 dc_ dc_ (hs.1.le om_) (N.le dc_))) U9<|TX U6<|TV (bkT B 1) U8<|TX U6<|TV (bkT D 1) U8<|TX U6<|TV (bkT A 1) U8<|Us (fun _=>(dZ _ d.m_ p.2 (cor a t 0).2 23 dc_ dc_ f.2 (o.2.le dc_))) U9<|Us (fun _=>(dR _ d.m_ _ _ 300 dc_ dc_ (hs.2.le om_) (O.le dc_))) U9<|Uq ([fz c t 0,(dN a c t).1*(p.1-(cor a t 0).1),(dN a c t).2*(p.2-(cor a t 0).2)].map fe) U12 fun ao _ _ W=>Us (fun _=>(Mq _ d.m_ _ _ 600 dc_ dc_ W.m_ (L4 K L M) J)) U9<|C4 1 [8] b Z<|Ub U2<|⟨Z,Z⟩
def Ez (pts:List Pt)(tris:List Tri)(fs:List Rat)(p:Pt):Value:=match lM pts tris p with
 | []=>.tuple #[ah [],.int .i64 28]
 | i::_=>Dj (onQ pts fs (tris.getD i (0,0,0)) p)
theorem xF (h:∀ q∈fs,aZ (qtx q)=true):(fs.map qtx).all aZ=true:=by
 rw [Qv];intro s hs;obtain ⟨q,a,rfl⟩:=Qk.1 hs;exact h q a
theorem yR (a:List Rat):a.map fe=(a.map qtx).map nL:=by rw [Q1];rfl
theorem wj (b:k<=100)(h:∀ q∈fs,QB k q):∀ s∈fs.map qtx,s.length<=999998:=by
 intro s hs;obtain ⟨q,a,rfl⟩:=Qk.1 hs;have:=bJ ((h q a).le (SB k)) om_;omega
theorem xr (C:Mem)(i:Tabs C)(c v d:Value)(b:List Pt)(f:List Tri)(a:List Rat)(j:MeshIn C c b f)(l:Good b f)(m:Sl C 1 v [[d]])(g:Sl C 1 d (a.map fe))(n:a.length=b.length)(r:k<=23)(o:∀ q∈a,QB k q)(p:∀ q∈a,aZ (qtx q)=true) :
  Gives cx.P 103 [c,v] C (.int .i64 0):=by
 rw [yR] at g;have h:=xt C i c v d b f (a.map qtx) j l m g (wj om_ o);have e:BE b.length (a.map qtx)=0:=by unfold BE;rw [aU (by simpa using n),xF p];rfl
 rwa [e] at h
theorem OR (h:i∈lM pts tris p):∃ t,tris[i]?=some t/\tris.getD i (0,0,0)=t/\yD pts p t=true:=by
 unfold lM at h;rw [Sf,Qw] at h;obtain ⟨h1,h2⟩:=h;obtain ⟨t,a⟩:∃ t,tris[i]?=some t:=⟨tris[i],aj h1⟩;have b:tris.getD i (0,0,0)=t:=by rw [aw,a,Rr]
 rw [b] at h2;exact ⟨t,a,b,h2⟩
theorem OK (h:QB 600 q):(qtx q).length<=999998:=Qy (bJ h dc_) dc_
theorem Il (C:Mem)(e:Tabs C)(x y:Value)(a:List Pt)(c:List Tri)(b:List Rat)(k:Nat)(I:0<k)(j:k<=23)(z:MeshIn C x a c)(l:Good a c)(f:Sl C 1 y (b.map fe))(m:b.length=a.length)(n:∀ q∈b,QB k q)(J:∀ q∈b,aZ (qtx q)=true)(p:Pt)(o:QP 23 p)(K:PtR p) :
  Gives cx.P 275 [x,y,ptV p] C (Ez a c b p):=by
 have A:=l.ok;have s:=z;obtain ⟨X,Y,rfl,h1,h2⟩:=id z.ex;obtain ⟨L,M,rfl,aa,ab,_⟩:=id f;simp only [al] at f ⊢;have ac:maxLen<=9223372036854775807:=by simp [maxLen]
 refine Ud func275 40 U3 fun w0=>TY fun R d=>Up U6 fun b3=>Up U6 fun b5=>C4 2 [1,3,5] d Z<|G.freeze 1 Z fun _ _ u=>G.freeze 0 Z fun _ _ B=>TY fun R d=>TV (PtrTo.block (Mem.get u mup) _) U8<|TX U6<|Uq [[.slice L b.length M]] U12 fun ad _ _ N=>Uh (xr _ e.m_ _ _ _ a c b s.m_ l N.m_ f.m_ m j n J) U7<|C4 1 [1,3,5,8] d Z<|TT 2 [1,3,5,8,16] Z<|TW (fun D=>?_) fun D=>?_
 ·exact absurd D dc_
 refine TY fun R d=>TV (PtrTo.block (Mem.get u mup) _) U8<|TV (PtrTo.block (Mem.get B mup) _) U8<|UF (pL _ e.m_ _ a c p s.m_ l o K) U7 (fun ae _ _ O=>?_);obtain ⟨wv,rfl,v⟩:=O;obtain ⟨Aw,cw,E,_⟩:=id v;rw [al] at E;subst E;refine C4 5 [1,3,5,9,10] d Z<|TT 2 [1,3,5,9,10,25] Z<|TW (fun F=>?_) fun F=>?_
 ·exact absurd F dc_
 refine TT 3 [1,3,5,9,29] Z<|TW (fun g=>?_) fun g=>?_
 ·have Q:lM a c p=[]:=by
   have h:(((lM a c p).length:Nat):Int)=0:=by simpa using g
   exact QU om_
  refine TT 2 [6,7] Z<|Ui (G.dropAll (Uw U3 ?_));exact ⟨by unfold Ez;rw [Q];rfl,Z⟩
 obtain ⟨i,r,w⟩:∃ i r,lM a c p=i::r:=by
  cases S:lM a c p with
  | nil=>rw [S] at g;exact absurd g dc_
  | cons i r=>exact ⟨i,r,rfl⟩
 obtain ⟨t,H,T,_⟩:=OR (pts:=a) (tris:=c) (p:=p) (i:=i) (by rw [w];simp);have U:=Lm j A m n (Qc H) o;have V:Ez a c b p=Dj (onQ a b t p):=by unfold Ez;rw [w];show Dj (onQ a b (c.getD i (0,0,0)) p)=_;rw [T]
 rw [w] at v ⊢;refine Ur [0,1,2,3,4,5,6,7,8,9,10,11] [(6,1),(7,1)] Z kr_ fun R hB d=>TV (PtrTo.block (Mem.get u mup) _) U8<|Ua 2 Z<|Ul v.m_ U10 om_ (rfl:(List.map aN (i::r))[0]?=some (aN i)) fl_ fun af W=>TV W U8<|TV (PtrTo.block (Mem.get B mup) _) U8<|UC (fun _=>(PS _ e.m_ _ _ a c b k I j s.m_ A f.m_ m n i t H p o)) U9<|UC (fun _=>(G2 _ e.m_ _ (OK U.1))) U9 ?_;rw [show Dj (onQ a b t p)=.tuple #[if aZ (qtx (onQ a b t p)) then ah (qtx (onQ a b t p)) else ah [],.int .i64 (if aZ (qtx (onQ a b t p)) then 0 else 4)] by unfold Dj;split <;> rfl];refine C4 4 [6,7] d Z<|Ui (G.dropAll (Uw U3 ?_));refine ⟨?_,Z⟩;rw [V];unfold Dj;split <;> rfl
theorem OC (h:QP 22 p):PtR p:=⟨bO h.1,bO h.2⟩
theorem tF (C:Mem)(f:Tabs C)(l m:Value)(c:List Pt)(d:List Tri)(b:List Rat)(k:Nat)(z:0<k)(A:k<=23)(n:MeshIn C l c d)(o:Good c d)(e:Sl C 1 m (b.map fe))(p:b.length=c.length)(r:∀ q∈b,QB k q)(B:∀ q∈b,aZ (qtx q)=true)(i:Nat)(t:Tri)(s:d[i]?=some t)(u:QP 22 (dN c b t)) :
  Gives cx.P 244 [l,m,.int .i64 i] C (.tuple #[ptV (dN c b t),.int .i64 0]):=by
 have D:=o.ok;have g:=n;have I:=(aF.1 s).1;obtain ⟨J,K,rfl,h1,h2⟩:=id n.ex;obtain ⟨A2,c2,rfl,L,M,_⟩:=id h2;obtain ⟨E,F,rfl,N,O,_⟩:=id e;simp only [al] at e h2 g ⊢;have Q:maxLen<=9223372036854775807:=by simp [maxLen]
 refine Ud func244 37 U3 fun w0=>TY fun R a=>Up U6 fun S=>Uo U5 fun T=>C4 1 [1,2,3,6] a Z<|G.freeze 1 Z fun _ _ h=>TY fun R a=>TV (PtrTo.block (Mem.get h mup) _) U8<|TX U6<|Uq [[.slice E b.length F]] U12 fun U _ _ H=>Uh (xr _ f.m_ _ _ _ c d b g.m_ o H.m_ e.m_ p A r B) U7<|C4 1 [1,2,3,6,8] a Z<|TT 2 [1,2,3,6,8,15] Z<|TW (fun v=>?_) fun v=>?_
 ·exact absurd v dc_
 refine TU 5 Z fun R a=>Ux U6 (fun _=>PtrTo.block (Mem.get h mup) _) U3<|Ua 2 Z<|UB U8<|TZ [1,2,3,6,26] a Z<|TW (fun w=>?_) fun w=>?_
 ·exfalso;simp only [RR,Qj] at w;omega
 refine TY fun R a=>TV (PtrTo.block (Mem.get h mup) _) U8<|Ua 2 Z<|Uk (wZ _ f.m_ _ _ c d b k z om_ g.m_ D e.m_ p r i t s) U7 fl_<|Uo U5 fun V=>Uf (j:=0) U12<|TZ [6,9] a Z<|G.freeze 0 Z fun _ _ x=>TY fun R a=>TV (PtrTo.block (Mem.get x mup) _) U8<|Uk (iq _ f.m_ _ (u.le dc_) (OC u)) U7 fl_<|C4 1 [6,9,34] a Z<|TW (fun y=>?_) fun y=>?_
 ·exact absurd y dc_
 refine TY fun R a=>TV (PtrTo.block (Mem.get x mup) _) U8<|Uf (j:=0) U12<|C4 1 [6,7] a Z<|Ui (Ve af U5 ?_);exact ⟨Z,Z⟩
def kb {α:Type}(p:α->Bool):List α->Nat->Int
 | [],_=>-1
 | x::l,k=>if p x then (k:Nat) else kb p l (k+1)
theorem oa {a:Type}{p:a->Bool}:∀ {l:List a}{i k:Nat}{x:a},l[i]?=some x->p x=true->(∀ y∈l.take i,p y=false)->kb p l k=((k+i:Nat):Int)
 | y::l,0,k,x,h,b,_=>by
  simp only [List.getElem?_cons_zero,QM] at h;subst h;simp [kb,b]
 | y::l,i+1,k,x,h,b,c=>by
  simp only [RY] at h;have hy:p y=false:=c y am;have:=oa (k:=k+1) h b (fun z d=>c z (by simp [d]));simp only [kb,hy,Q2,Rq,this];omega
theorem lS {a:Type}{p:a->Bool}:∀ {l:List a}{k:Nat},(∀ y∈l,p y=false)->kb p l k=-1
 | [],_,_=>rfl
 | y::l,k,h=>by
  simp only [kb,h y Pz,Q2,Rq];exact lS fun z b=>h z (Qm _ b)
theorem mW (p:α->Bool)(l:List α):(kb p l 0=-1/\∀ y∈l,p y=false)∨∃ (i:Nat)(x:α),kb p l 0=(i:Nat)/\l[i]?=some x/\p x=true/\∀ y∈l.take i,p y=false:=by
 by_cases h:∀ y∈l,p y=false
 ·exact .inl ⟨lS h,h⟩
 right;have d:∀ (l:List α),(¬ ∀ y∈l,p y=false)->∃ (i:Nat)(x:α),l[i]?=some x/\p x=true/\∀ y∈l.take i,p y=false:=by
  intro l;induction l with
  | nil=>intro h;exact absurd (fun y hy=>(by cases hy)) h
  | cons a l e =>
   intro h;by_cases b:p a=true
   ·exact ⟨0,a,Z,b,by simp⟩
   have c:p a=false:=by simpa using b
   obtain ⟨i,x,h1,h2,h3⟩:=e (fun h2=>h (fun y hy=>by
    rcases Qp.1 hy with rfl | hy
    ·exact c
    exact h2 y hy))
   refine ⟨i+1,x,by simpa using h1,h2,fun y hy=>?_⟩;rw [List.take_succ_cons] at hy;rcases Qp.1 hy with rfl | hy
   ·exact c
   exact h3 y hy
 obtain ⟨i,x,h1,h2,h3⟩:=d l h;exact ⟨i,x,by rw [oa h1 h2 h3,Rz],h1,h2,h3⟩
structure Lay where
 unit:Str
 min:Rat
 max:Option Rat
def vn:Option Rat->Str
 | none=>[]
 | some q=>qtx q
def yS (x:Lay):List Value:=[ah x.unit,ah (qtx x.min),ah (vn x.max)]
def isU (u:Str)(x:Lay):Bool:=decide (x.unit=u)
def N0 (x:Lay):Prop:=QB 22 x.min/\(∀ q,x.max=some q->QB 22 q)/\x.unit.length<=999998
theorem pA (m:Option Rat):(!((⟨(vn m).toArray⟩:ByteArray).data.toList == (⟨#[]⟩:ByteArray).data.toList))=m.isSome:=by
 cases m with
 | none=>rfl
 | some q =>
  have:=Fv q;show (!(qtx q == []))=true;cases h:qtx q with
  | nil=>rw [h] at this;simp at this
  | cons a l=>rfl
theorem lR (C:Mem)(v:Value)(l:List Lay)(g:Nat)(d:List Value)(a:Lay->Bool)(e:Sl C 3 v (l.map yS))(_A:Jog.Enters cx.P g=true)
  (n:∀ x∈l,∀ D:Mem,C.le D->Gives cx.P g (.agg ⟨yS x⟩::d) D (.bool (a x))) :
  Gives cx.P 159 [v,.func (.func g) #[] ⟨d⟩] C (.int .i64 (kb a l 0)):=by
 obtain ⟨o,c0,rfl,p,B,_⟩:=id e;have E:maxLen<=9223372036854775807:=by simp [maxLen]
 simp only [al] at e p ⊢;refine Ud func159 19 U3 fun w0=>TT 1 [0,1] Z<|TT 3 [0,1,7,8] Z<|G.loop (fun fr C' q r=>∃ (i:Nat),(i<=l.length/\∀ y∈l.take i,a y=false)/\fr=[(0,[],.slice o l.length c0),(1,[],.func (.func g) #[] ⟨d⟩),(7,[],.int .i64 l.length),(8,[],.int .i64 i)]/\q=[]/\r=l.length-i) (hn_ [0,1,7,8] Z) ⟨0,⟨Qf _,by simp⟩,Z,Z,Z⟩ (fun fr F H m s t=>?_);obtain ⟨i,⟨I,b⟩,rfl,rfl,rfl⟩:=t;refine TT 1 [0,1,7,8,9] Z<|TW (fun f=>?_) fun f=>?_
 ·have h:i<l.length:=by simpa using f
  obtain ⟨x,c⟩:∃ x,l[i]?=some x:=⟨l[i],aj h⟩;refine TT 2 [0,1,5,7,8] Z<|TU 3 Z fun R j=>Ul e.m_ U10 om_ (bX c) fl_ fun J u=>TV u U8<|Uh (n x (Qc c) _ mup) U7<|TZ [0,1,5,7,8,16] j Z<|TW (fun k=>?_) fun k=>?_
  ·have w:a x=true:=k;exact TT 2 [4] Z<|Ub U2<|⟨by rw [oa c w b,Rz],Z⟩
  have z:a x=false:=k;refine TY fun R j=>Ue _ U7<|C4 1 [0,1,7,8] j Z<|Ug (m':=l.length-(i+1)) om_ s (hn_ [0,1,7,8] Z) ⟨i+1,⟨by omega,fun y hy=>by
   rw [QF,c] at hy;rcases Qt.1 hy with hy | hy
   ·exact b y hy
   simp only [Rv,Qx] at hy;subst hy;exact z⟩,Z,Z,Z⟩
 have h:i=l.length:=by
  have:¬ i<l.length:=by simpa using f
  omega
 exact TT 1 [4] Z<|Ub U2<|⟨by rw [h,Qo] at b;rw [lS b],Z⟩
theorem IB (a b:Str):((⟨a.toArray⟩:ByteArray).data.toList == (⟨b.toArray⟩:ByteArray).data.toList)=decide (a=b):=by
 show (a == b)=_;by_cases h:a=b <;> simp [h]
theorem Hu (C:Mem)(b:Nat)(u:Str)(x:Lay)(c:C b=some (.cells ⟨[ah u]⟩ 9 (0,0))):Gives cx.P 160 [.agg ⟨yS x⟩,.pointer (some ⟨b,0,none⟩)] C (.bool (isU u x)):=by
 exact Ud func160 8 U3 fun w0=>TY fun R a=>Up U6 fun d=>C4 1 [1,2] a Z<|TU 1 Z fun R a=>Uc af U9<|TV (PtrTo.block (Mem.get c mup) _) U8<|C4 2 [3] a Z<|Ub U2<|⟨by unfold isU;rw [<- IB],Z⟩
theorem zl (C:Mem)(b:Nat)(u:Str)(x:Lay)(c:C b=some (.cells ⟨[ah u]⟩ 9 (0,0))):Gives cx.P 163 [.agg ⟨yS x⟩,.pointer (some ⟨b,0,none⟩)] C (.bool (isU u x)):=by
 exact Ud func163 8 U3 fun w0=>TY fun R a=>Up U6 fun d=>C4 1 [1,2] a Z<|TU 1 Z fun R a=>Uc af U9<|TV (PtrTo.block (Mem.get c mup) _) U8<|C4 2 [3] a Z<|Ub U2<|⟨by unfold isU;rw [<- IB],Z⟩
theorem BU (C:Mem)(v:Value)(l:List Lay)(u:Str)(c:Sl C 3 v (l.map yS)):Gives cx.P 106 [v,ah u] C (.int .i64 (kb (isU u) l 0)):=by
 exact Ud func106 8 U3 fun w0=>TY fun R a=>Up U6 fun b=>C4 1 [0,3] a Z<|G.freeze 0 Z fun _ _ d=>TU 2 Z fun R a=>Uh (lR _ _ l 160 [.pointer (some ⟨b,0,none⟩)] (isU u) c.m_ Z (fun x _ D e=>Hu D b u x (e _ _ (Mem.get d mup)))) U7<|C4 1 [4] a Z<|Ub U2<|⟨Z,Z⟩
theorem jT (C:Mem)(v:Value)(l:List Lay)(u:Str)(c:Sl C 3 v (l.map yS)):Gives cx.P 109 [v,ah u] C (.int .i64 (kb (isU u) l 0)):=by
 exact Ud func109 8 U3 fun w0=>TY fun R a=>Up U6 fun b=>C4 1 [0,3] a Z<|G.freeze 0 Z fun _ _ d=>TU 2 Z fun R a=>Uh (lR _ _ l 163 [.pointer (some ⟨b,0,none⟩)] (isU u) c.m_ Z (fun x _ D e=>zl D b u x (e _ _ (Mem.get d mup)))) U7<|C4 1 [4] a Z<|Ub U2<|⟨Z,Z⟩
theorem tP (h:QB 22 q):(qtx q).length<=999998:=Qy (bJ h dc_) dc_
theorem CY (h:QB 22 q):(qtx q).length<=1000000:=Qy (bJ h dc_) dc_
theorem JP (C:Mem)(d:Tabs C)(x:Lay)(e:N0 x):Gives cx.P 104 [.agg ⟨yS x⟩] C (.int .i64 0):=by
 obtain ⟨u,f,c⟩:=x;obtain ⟨h1,h2,h3⟩:=e;simp only at h1 h2 h3;clear h3;have g:(vn c).length<=999998:=by
  cases c with
  | none=>decide
  | some q=>exact tP (h2 q rfl)
 refine Ud func104 17 U3 fun w0=>TY fun R a=>Up U6 fun h=>C4 1 [1] a Z<|TU 1 Z fun R a=>Uc af U9<|Uh (dV _ d.m_ (qtx f) (tP h1)) U7<|C4 2 [1,3] a Z<|TW (fun h3=>?_) fun h3=>?_
 ·exfalso;rw [xq h1] at h3;exact absurd h3 dc_
 refine TU 1 Z fun R a=>Uc af U9<|Ua 3 Z<|Uc af U9<|UC (fun _=>(dV _ d.m_ (vn c) g)) U9<|TX U6<|Uu U8<|C4 1 [3] a Z<|TW (fun b=>?_) fun b=>?_
 ·exfalso;simp only [] at b;cases c with
  | none=>exact absurd b dc_
  | some q =>
   rw [show vn (some q)=qtx q from rfl,xq (h2 q rfl)] at b;simp at b
 exact TT 1 [2] Z<|Ub U2<|⟨Z,Z⟩
def Gx (x:Lay):Bool:=match x.max with
 | none=>false
 | some m=>decide (m<x.min)
def Ls (pre:List Lay)(x:Lay):Int:=if cW x.unit=false then 8 else if 0<=kb (isU x.unit) pre 0 then 9 else if x.min<0 then 3 else if Gx x then 6 else 0
def DQ (l:List Lay):Nat->Int
 | 0=>0
 | n+1=>if DQ l n≠0 then DQ l n else Ls (l.take n) (l.getD n ⟨[],0,none⟩)
def sJ (l:List Lay):Int:=if l=[] then 13 else if 60<l.length then 4 else DQ l l.length
theorem xn {l:List Lay}{n:Nat}(h:DQ l n≠0):∀ m,n<=m->DQ l m=DQ l n
 | 0,hm=>by rw [show n=0 by omega]
 | m+1,hm=>by
  rcases QL m n with h1 | h1
  ·rw [show n=m+1 by omega]
  have a:=xn h m h1;simp only [DQ,a];rw [aU h]
theorem Lq {l:List Lay}{x:Lay}(h:l[i]?=some x):l.getD i ⟨[],0,none⟩=x:=by rw [aw,h,Rr]
theorem BT {l:List Lay}{x:Lay}(a:DQ l i=0)(b:l[i]?=some x):DQ l (i+1)=Ls (l.take i) x:=by
 simp only [DQ,a];rw [az dc_,Lq b]
theorem uO {l:List Lay}{x:Lay}{z:Int}(d:DQ l i=0)(a:l[i]?=some x)(b:Ls (l.take i) x=z)(f:z≠0)(g:¬ 60<l.length):sJ l=z:=by
 have c:=(aF.1 a).1;have h1:=BT d a;unfold sJ;rw [az (fun e=>by rw [e] at c;simp at c),az g,xn (n:=i+1) (by rw [h1,b];exact f) l.length om_,h1,b]
theorem NC (C:Mem)(c:Tabs C)(a:Option Rat)(b:Rat)(d:QB 22 b)(e:∀ q,a=some q->QB 22 q)(h:(!((⟨(vn a).toArray⟩:ByteArray).data.toList == (⟨#[]⟩:ByteArray).data.toList))=true) :
  Gives cx.P 107 [ah (vn a),ah (qtx b)] C (.int .i64 (sK (a.getD 0) b)):=by
 rw [pA] at h;cases a with
 | none=>cases h
 | some q=>exact gR C c q b 22 dc_ dc_ (e q rfl) d
theorem Bw (x:Lay):(x.max.isSome && decide (sK (x.max.getD 0) x.min<0))=Gx x:=by
 unfold Gx;cases x.max with
 | none=>rfl
 | some q =>
  show (true && decide (sK q x.min<0))=decide (q<x.min);unfold sK;by_cases h:q<x.min
  ·simp [h]
  rw [az h,QC h];split <;> rfl
theorem uh (q:Rat):decide (eJ q.num<0)=decide (q<0):=by
 rw [QX,<- AT];rcases ek q.num with h | h | h <;> omega
theorem qA (C:Mem)(y:Tabs C)(v:Value)(l:List Lay)(k:Sl C 3 v (l.map yS))(F:∀ x∈l,N0 x)(S:l.length<=1000000):Gives cx.P 68 [v] C (.int .i64 (sJ l)):=by
 obtain ⟨A,c0,rfl,H,T,_⟩:=id k;have U:maxLen<=9223372036854775807:=by simp [maxLen]
 simp only [al] at k H ⊢;refine Ud func68 57 U3 fun w0=>TT 1 [0] Z<|TT 4 [0,6] Z<|TW (fun n=>?_) fun n=>?_
 ·have h0:l=[]:=by
   have h:((l.length:Nat):Int)=0:=by simpa using n
   exact QU om_
  exact TT 1 [2] Z<|Ub U2<|⟨by rw [h0];rfl,Z⟩
 have h0:l≠[]:=by
  intro e;rw [e] at n;exact absurd n dc_
 refine TT 4 [0,10] Z<|TW (fun o=>?_) fun o=>?_
 ·have h60:60<l.length:=by
   simp only [Qj] at o;omega
  exact TT 1 [2] Z<|Ub U2<|⟨by unfold sJ;rw [az h0,aU h60],Z⟩
 have h60:¬ 60<l.length:=by
  simp only [Qz] at o;omega
 refine TT 3 [0,14,15,16] Z<|G.loop (fun fr C' I J=>∃ (i:Nat),(i<=l.length/\DQ l i=0)/\fr=[(0,[],.slice A l.length c0),(14,[],.slice A l.length c0),(15,[],.int .i64 l.length),(16,[],.int .i64 i)]/\I=[]/\J=l.length-i) (hn_ [0,14,15,16] Z) ⟨0,⟨Qf _,Z⟩,Z,Z,Z⟩ (fun fr V W m K L=>?_);obtain ⟨i,⟨X,b⟩,rfl,rfl,rfl⟩:=L;refine TT 1 [0,14,15,16,17] Z<|TW (fun p=>?_) fun p=>?_
 ·have q:i<l.length:=by simpa using p
  obtain ⟨x,c⟩:∃ x,l[i]?=some x:=⟨l[i],aj q⟩;obtain ⟨r,B,M⟩:=F x (Qc c);have D:=Sl.sub k (l:=0) (h:=i) (m:=c0) (Qf _) ap om_ (Qb _);rw [Rm,<- R6] at D;refine TU 1 Z fun R a=>Ul k.m_ U10 om_ (bX c) fl_ fun Y N=>TV N U8<|Uo U5 fun b4=>TX U6<|Uf (j:=0) U12<|TZ [0,3,4,14,15,16] a Z<|TY fun R a=>Uc af U9<|Uh (JP _ y.m_ x ⟨r,B,M⟩) U7<|C4 1 [0,3,4,5,14,15,16] a Z<|TT 2 [0,3,4,5,14,15,16,24] Z<|TW (fun E=>?_) fun E=>?_
  ·exact absurd E dc_
  refine TU 1 Z fun R a=>Uc af U9<|Uk (ic _ x.unit om_) U7 fl_<|C4 2 [0,3,4,14,15,16,26] a Z<|TW (fun s=>?_) fun s=>?_
  ·have d:cW x.unit=false:=by simpa using s
   exact TT 1 [2] Z<|Ub U2<|⟨by rw [uO (z:=8) b c (by unfold Ls;rw [aU d]) dc_ h60],Z⟩
  have d:¬ cW x.unit=false:=by
   have h:cW x.unit=true:=by simpa using s
   rw [h];decide
  refine Ur [0,1,2,3,4,5,6,7] [(5,1)] Z kr_ fun R hB a=>Ua 2 Z<|UR 0 i c0 U12 (fun _=>⟨.inl ⟨Z,Z⟩,.inr ⟨_,Z⟩,.inl ⟨Z,Z⟩,by omega,by omega,by omega⟩) U2<|TX U6<|Uc af U9<|UC (fun _=>(BU _ _ (l.take i) x.unit D.m_)) U9<|C4 2 [0,4,14,15,16,31] a Z<|TW (fun t=>?_) fun t=>?_
  ·have f:0<=kb (isU x.unit) (l.take i) 0:=by simpa using t
   exact TT 1 [2] Z<|Ub U2<|⟨by rw [uO (z:=9) b c (by unfold Ls;rw [az d,aU f]) dc_ h60],Z⟩
  have f:¬ 0<=kb (isU x.unit) (l.take i) 0:=by simpa using t
  refine TU 1 Z fun R a=>Uc af U9<|Uh (fR _ x.min (CY r)) U7<|C4 2 [0,4,14,15,16,39] a Z<|TW (fun g=>?_) fun g=>?_
  ·have hs:x.min<0:=by
    rw [uh] at g;exact aJ g
   exact TT 1 [2] Z<|Ub U2<|⟨by rw [uO (z:=3) b c (by unfold Ls;rw [az d,az f,aU hs]) dc_ h60],Z⟩
  have hs:¬ x.min<0:=by
   rw [uh] at g;exact Qe g
  refine TU 1 Z fun R a=>Uc af U9<|Ua 3 Z<|Uc af U9<|TX U6<|Uc af U9<|Us (fun O=>(NC _ y.m_ x.max x.min r B (by exact O.1))) U9<|TX U6<|Uu U8<|C4 1 [0,14,15,16,44] a Z<|TW (fun u=>?_) fun u=>?_
  ·have w:Gx x=true:=by
    rw [<- Bw,<- pA];exact u
   exact TT 1 [2] Z<|Ub U2<|⟨by rw [uO (z:=6) b c (by unfold Ls;rw [az d,az f,az hs,aU w]) dc_ h60],Z⟩
  have w:Gx x=false:=by
   rw [<- Bw,<- pA];exact u
  have Q:DQ l (i+1)=0:=by rw [BT b c];unfold Ls;rw [az d,az f,az hs,w];rfl
  refine TY fun R a=>Ue _ U7<|C4 1 [0,14,15,16] a Z<|G.dropAll<|Ug (m':=l.length-(i+1)) om_ K (hn_ [0,14,15,16] Z) ⟨i+1,⟨by omega,Q⟩,Z,Z,Z⟩
 have q:i=l.length:=by
  have:¬ i<l.length:=by simpa using p
  omega
 refine TT 1 [2] Z<|Ub U2<|⟨?_,Z⟩;rw [q] at b;unfold sJ;rw [az h0,az h60,b]
theorem ze (C:Mem)(f:Tabs C)(v:Value)(l:List Lay)(u:Str)(c:Sl C 3 v (l.map yS))(g:∀ x∈l,N0 x)(a:sJ l=0)(i:Nat)(j:kb (isU u) l 0=(i:Nat)):Gives cx.P 197 [v,ah u] C (.tuple #[.int .i64 (i:Nat),.bool true,.int .i64 0]):=by
 have k:l.length<=1000000:=by
  unfold sJ at a;split at a
  ·cases a
  split at a
  ·cases a
  omega
 refine Ud func197 20 U3 fun w0=>TT 3 [0,1] Z<|TU 1 Z fun R b=>Uk (by have h:=qA _ f.m_ v l c.m_ g k;rw [a] at h;exact h) U7 fl_<|C4 1 [0,1,7] b Z<|TT 2 [0,1,7,12] Z<|TW (fun d=>?_) fun d=>?_
 ·exact absurd d dc_
 refine TU 2 Z fun R b=>Uk (by have h:=BU _ v l u c.m_;rw [j] at h;exact h) U7 fl_<|C4 1 [8] b Z<|TT 2 [8,18] Z<|TW (fun e=>?_) fun e=>?_
 ·refine TT 4 [4,5,6] Z<|Ui (G.dropAll (UZ U4 ?_));exact ⟨Z,Z⟩
 exfalso;simp only [Qz] at e;omega
end Go.Proofs.YthnpijdjlddpmaaGreatDoor
