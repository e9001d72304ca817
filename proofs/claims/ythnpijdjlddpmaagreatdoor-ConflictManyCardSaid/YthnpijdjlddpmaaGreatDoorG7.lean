/- Laws that the proofs of this seat share, part 7. -/
import Derived.Test.YthnpijdjlddpmaaGreatDoorG6
import Derived.Test.YthnpijdjlddpmaaGreatDoorShelf
set_option maxHeartbeats 4000000
namespace Go.Proofs.YthnpijdjlddpmaaGreatDoor
open Tryz
open Go Go.Jog
set_option maxRecDepth 100000
variable {C:Mem}{a b c:Rat}{cyc:List Nat}{fs:List Rat}{i k m n:Nat}{p:Pt}{pts:List Pt}{q:Rat}{t:Tri}{tris:List Tri}{α:Type}
def pl (pts:List Pt)(cyc:List Nat)(i:Nat):Pt:=pts.getD (cyc.getD (i % cyc.length) 0) (0,0)
def upB (p q:Pt):Bool:=decide (p.2<q.2) || (decide (p.2=q.2) && decide (p.1<q.1))
def Gm (pts:List Pt)(cyc:List Nat)(i:Nat):Bool:=!upB (pl pts cyc i) (pl pts cyc (i+1)) && upB (pl pts cyc (i+1)) (pl pts cyc (i+1+1))
def uo (pts:List Pt)(cyc:List Nat)(i:Nat):Bool:=decide (0<=fh (pl pts cyc i) (pl pts cyc (i+1)) (pl pts cyc (i+2)))
def FY (pts:List Pt)(cyc:List Nat):Bool:=(List.range cyc.length).all (uo pts cyc) && decide (((List.range cyc.length).filter (Gm pts cyc)).length=1)
structure OnceC (C:Mem)(b2 b3 b5:Nat)(pts:List Pt)(cyc:List Nat):Prop where
 ex:∃ v1 v2,C b2=some (.cells ⟨[v1,v2]⟩ 36 (0,0))/\Sl C 2 v1 (pts.map hU)
 ey:∃ cv,C b3=some (.cells ⟨[cv]⟩ 50 (0,0))/\Sl C 1 cv (cyc.map aU)
 ez:C b5=some (.cells ⟨[.int .i64 (cyc.length:Nat)]⟩ 3 (0,0))
 ne:0<cyc.length
 ins:∀ z∈cyc,z<pts.length
 q:∀ p∈pts,QP 1 p
theorem OnceC.mono {C D:Mem}{b c d:Nat}{e:List Pt}{f:List Nat}(h:OnceC C b c d e f)(a:C.le D):OnceC D b c d e f:=by
 obtain ⟨g,i,h1,h2⟩:=h.ex;obtain ⟨j,h3,h4⟩:=h.ey;exact ⟨⟨g,i,a _ _ h1,h2.mono a⟩,⟨j,a _ _ h3,h4.mono a⟩,a _ _ h.ez,h.ne,h.ins,h.q⟩
theorem OnceC.m_ {D:Mem}{a b c:Nat}(h:OnceC C a b c pts cyc)(d:C.le D:=by exact mup):OnceC D a b c pts cyc:=OnceC.mono h d
theorem HI (h:0<cyc.length)(b:∀ z∈cyc,z<pts.length)(i:Nat):∃ z,cyc[i % cyc.length]?=some z/\pts[z]?=some (pl pts cyc i):=by
 have a:=MR i h;refine ⟨cyc[i % cyc.length],aj a, ?_⟩;have c:=b _ (MP a);simp [pl,aj a,aj c]
theorem HH (h:0<cyc.length)(a:∀ z∈cyc,z<pts.length)(b:∀ p∈pts,QP 1 p)(i:Nat):QP 1 (pl pts cyc i):=by
 obtain ⟨z,_,h2⟩:=HI h a i;exact b _ (LQ h2)
theorem nK (C:Mem)(e f c:Nat)(b:List Pt)(a:List Nat)(h:OnceC C e f c b a)(i:Nat) :
  Gives cx.P 228 [.int .i64 i,.pointer (some ⟨e,0,none⟩),.pointer (some ⟨f,0,none⟩),.pointer (some ⟨c,0,none⟩)] C (ptV (pl b a i)):=by
 obtain ⟨q,r,g,h1⟩:=h.ex;obtain ⟨s,k,h3⟩:=h.ey;have l:=h.ez;have t:=h.ne;obtain ⟨z,m,n⟩:=HI h.ne h.ins i;obtain ⟨u,v,rfl,w,x,_⟩:=id h1;obtain ⟨y,A,rfl,B,D,_⟩:=id h3;simp only [ax] at h1 h3 g k;refine Ph func228 16 U3 fun w0=>Pb fun R d=>Pq U5 fun c=>Pd [0,1,2,3,5] d Z<|Pv [0,1,2,3,4,5,6,7,8,9,10] [] Z kr_ fun R E d=>Pa U6<|O8 (PtrTo.block (Mem.get g mup) _) U8<|O8 (PtrTo.block (Mem.get k mup) _) U8<|Pa U6<|O8 (PtrTo.block (Mem.get l mup) _) U8<|P6 (i) (a.length) U6 om_ U2<|Pm h3.m_ U10 om_ (by rw [LU,show ((i % a.length:Nat):Int).toNat=i % a.length from Z,m];rfl:(a.map aU)[((i % a.length:Nat):Int).toNat]?=some (aU z)) fl_ fun F o=>O8 o U8<|Pm h1.m_ U10 om_ (by rw [LU,show ((z:Nat):Int).toNat=z from Z,n];rfl:(b.map hU)[((z:Nat):Int).toNat]?=some (hU (pl b a i))) fl_ fun G p=>O8 p U8<|Pg (j:=0) U12<|Pd [5] d Z<|Pl (PW (.head _) U4 ?_);exact ⟨Z,Z⟩
def fn1V (b2 b3 b5:Nat):Value:=.func (.func 228) #[] #[.pointer (some ⟨b2,0,none⟩),.pointer (some ⟨b3,0,none⟩),.pointer (some ⟨b5,0,none⟩)]
theorem Ee (a b:Rat):decide (qM a b > 0)=decide (b<a):=by
 unfold qM;by_cases h1:a<b
 ·have:¬ b<a:=by grind
  simp [h1,this]
 ·by_cases h2:b<a <;> simp [h1,h2]
theorem Jl (a b:Rat):(qM a b == 0)=decide (b=a):=by
 unfold qM;by_cases h1:a<b
 ·have:¬ b=a:=by grind
  simp [h1,this]
 ·by_cases h2:b<a
  ·have:¬ b=a:=by grind
   simp [h1,h2,this]
  ·have:b=a:=by grind
   subst this;simp [h1]
theorem G7 (C:Mem)(k:Tabs C)(c d e l:Nat)(a:List Pt)(b:List Nat)(h:OnceC C c d e a b)(f:C l=some (.cells ⟨[fn1V c d e]⟩ 318 (0,0)))(i:Nat)(n:i<=1000000) :
  Gives cx.P 229 [.int .i64 i,.pointer (some ⟨l,0,none⟩)] C (.bool (upB (pl a b i) (pl a b (i+1)))):=by
 have g:=fun i=>HH h.ne h.ins h.q i;unfold fn1V at f;refine Ph func229 34 U3 fun w0=>C6 1 [0,1] Z<|Pv [0,1,2,3,4,5,6,7,8,9,10] [(3,1),(7,1),(9,1)] Z kr_ fun R m j=>O8 (PtrTo.block (Mem.get f mup) _) U8<|Pa U6<|Pi _ U7<|PH (fun _=>(nK _ c d e a b h.m_ (i+1))) U9<|Qc U12<|O8 (PtrTo.block (Mem.get f mup) _) U8<|Pa U6<|PH (fun _=>(nK _ c d e a b h.m_ i)) U9<|Qc U12<|Pw (fun _=>(gi _ k.m_ (pl a b (i+1)).2 (pl a b i).2 1 dc_ dc_ (g (i+1)).2 (g i).2)) U9<|C4 1 [0,1,4] j Z<|Pv [0,1,2,3,4,5,6,7,8,9,10,11,12,13,14,15,16,17,18,19] [] Z kr_ fun R m j=>Pc 6 Z<|PC U6 (fun _=>PtrTo.block (Mem.get f mup) _) U3<|Pa U6<|Pi _ U7<|PH (fun _=>(nK _ c d e a b h.m_ (i+1))) U9<|Qc U12<|PC U6 (fun _=>PtrTo.block (Mem.get f mup) _) U3<|Pa U6<|PH (fun _=>(nK _ c d e a b h.m_ i)) U9<|Qc U12<|Pw (fun _=>(gi _ k.m_ (pl a b (i+1)).1 (pl a b i).1 1 dc_ dc_ (g (i+1)).1 (g i).1)) U9<|Pa U6<|Pz U8<|PD U8<|C4 1 [3] j Z<|Pf U2<|⟨?_,Z⟩;rw [Ee,Jl,Ee];rfl
theorem BN (q:Rat):decide (dX q.num<0)=!decide (0<=q):=by
 rw [<- decide_not,MH,<- Rat.num_nonneg];rcases dR q.num with h | h | h <;> omega
theorem IF (C:Mem)(r:Tabs C)(s B D:Value)(b:List Pt)(a:List Nat)(I:Sl C 2 s (b.map hU))(t:Sl C 1 D (a.map aU))(J:0<a.length)(K:∀ z∈a,z<b.length)(L:∀ p∈b,QP 1 p)(W:a.length<=100000) :
  Gives cx.P 155 [.agg ⟨[s,B]⟩,D] C (.bool (FY b a)):=by
 obtain ⟨X,Y,rfl,aa,ab,_⟩:=id t;simp only [ax] at t ⊢;refine Ph func155 46 U3 fun w0=>Pb fun R c=>Pr U6 fun e=>Pr U6 fun f=>C4 1 [2,3] c Z<|Pb fun R c=>Pe (.head _) U9<|Pa U6<|Pq U5 fun g=>Pg (j:=0) U12<|Pd [2,3,5] c Z<|O7 1 Z fun R c=>Pq U5 fun o=>Pg (j:=0) U12<|Pd [5,6] c Z<|G.freeze 0 Z fun _ _ h=>G.freeze 0 Z fun _ _ E=>G.freeze 0 Z fun _ _ M=>G.freeze 0 Z (fun N _ O=>?_);have d:OnceC N e f g b a:=⟨⟨s,B,O,I.mono mup⟩,⟨_,Mem.get M mup,t.mono mup⟩,Mem.get E mup,J,K,L⟩;have u:=fun i=>HH d.ne d.ins d.q i;refine C6 2 [5,6,7] Z<|C6 1 [5,6,7,8] Z<|Pb fun R c=>O8 (PtrTo.block (Mem.get E mup) _) U8<|C4 1 [6,7,8,14,15] c Z<|G.loop (fun fr C' Q S=>∃ (i k:Nat),(i<=a.length/\(List.range i).all (uo b a)=true/\((List.range i).filter (Gm b a)).length=k)/\fr=[(6,[],.pointer (some ⟨o,0,none⟩)),(7,[],.func (.func 229) #[] #[.pointer (some ⟨o,0,none⟩)]),(8,[],.int .i64 k),(14,[],.int .i64 a.length),(15,[],.int .i64 i)]/\Q=[]/\S=a.length-i) (hn_ [6,7,8,14,15] Z) ⟨0,0,⟨LV _,Z,Z⟩,Z,Z,Z⟩ (fun fr ac ad m F T=>?_);obtain ⟨i,k,⟨hi,v,l⟩,rfl,rfl,rfl⟩:=T;refine C6 1 [6,7,8,14,15,16] Z<|O9 (fun w=>?_) fun w=>?_
 ·have x:i<a.length:=by simpa using w
  have ae:k<=i:=by
   rw [<- l];exact Md (No _ _) (by simp)
  refine C6 2 [6,7,8,9,14,15] Z<|Pv [0,1,2,3,4,5,6,7,8,9,10,11,12] [(2,1),(6,1),(10,1),(11,1)] Z kr_ fun R hB c=>O8 (PtrTo.block (Mem.get h mup) _) U8<|Pa U6<|PH (fun _=>(nK _ e f g b a d.m_ i)) U9<|O8 (PtrTo.block (Mem.get h mup) _) U8<|Pa U6<|Pi _ U7<|PH (fun _=>(nK _ e f g b a d.m_ (i+1))) U9<|O8 (PtrTo.block (Mem.get h mup) _) U8<|Pa U6<|Pi _ U7<|PH (fun _=>(nK _ e f g b a d.m_ (i+2))) U9<|Pw (fun _=>(mZ _ r.m_ (pl b a i) (pl b a (i+1)) (pl b a (i+2)) 1 dc_ dc_ (u i) (u (i+1)) (u (i+2)))) U9<|C4 1 [6,7,8,9,14,15,30] c Z<|O9 (fun n=>?_) fun n=>?_
  ·have U:uo b a i=false:=by
    rw [BN] at n;simpa [uo] using n
   refine C6 1 [4] Z<|Pf U2<|⟨?_,Z⟩;have:(List.range a.length).all (uo b a)=false:=Ob.2 ⟨i,Me.2 x,by rw [U];decide⟩;unfold FY;rw [this];rfl
  ·have V:uo b a i=true:=by
    rw [BN] at n;simpa [uo] using n
   have H:(List.range (i+1)).all (uo b a)=true:=by rw [MU,OR,v];simp [V]
   refine O7 2 Z fun R c=>Pp (G7 _ r.m_ e f g o b a d.m_ (Mem.get h mup) i om_) U7 fl_<|Pc 4 Z<|Pi _ U7<|Pw (fun _=>(G7 _ r.m_ e f g o b a d.m_ (Mem.get h mup) (i+1) om_)) U9<|Pz U8<|Pd [6,7,8,14,15,40] c Z<|O9 (fun y=>?_) fun y=>?_
   ·have A:Gm b a i=true:=y;refine O7 1 Z fun R c=>Pi _ U7<|C4 1 [6,7,8,14,15] c Z<|Pb fun R c=>Pi _ U7<|C4 1 [6,7,8,14,15] c Z<|Pk (m':=a.length-(i+1)) om_ F (hn_ [6,7,8,14,15] Z) ⟨i+1,k+1,⟨by omega,H,by rw [MU,Nw,LZ,l];simp [A]⟩,Z,Z,Z⟩
   ·have A:Gm b a i=false:=y;refine Pb fun R c=>Pi _ U7<|C4 1 [6,7,8,14,15] c Z<|Pk (m':=a.length-(i+1)) om_ F (hn_ [6,7,8,14,15] Z) ⟨i+1,k,⟨by omega,H,by rw [MU,Nw,LZ,l];simp [A]⟩,Z,Z,Z⟩
 ·have x:i=a.length:=by
   have:¬ i<a.length:=by simpa using w
   omega
  refine C6 3 [4] Z<|Pf U2<|⟨?_,Z⟩;rw [x] at v l;unfold FY;rw [v,l,OD];congr 1;rw [OQ,LY];simp;omega
/-! The sides of triangles, in order. -/
def oZ (t:Tri):List gX:=[np t 0,np t 1,np t 2]
def cM (tris:List Tri):List gX:=tris.flatMap oZ
theorem xv (t:Tri)(a:k<3):(oZ t)[k]?=some (np t k):=by
 rcases (by omega:k=0∨k=1∨k=2) with rfl | rfl | rfl <;> rfl
theorem nQ (m:JF)(i:Nat)(t:Tri):∀ k,k<=3->(m.map (·.1)++(oZ t).take k).Nodup->(AX m i t k).map (·.1)=m.map (·.1)++(oZ t).take k
 | 0,_,_=>by simp [AX]
 | k+1,e,a=>by
  have h3:=xv t (show k<3 by omega);rw [Mx,h3,Nv,<- Mo] at a ⊢;have b:=(Np.1 a);have c:=nQ m i t k om_ b.1;have d:cV (AX m i t k) (np t k)=none:=by
   rw [bZ,c];intro h;exact b.2.2 _ h _ (by simp) Z
  rw [AX,iS d,My,c];rfl
theorem nl (h:tris[n]?=some t):cM (tris.take (n+1))=cM (tris.take n)++oZ t:=by
 unfold cM;rw [Mx,h,List.flatMap_append];simp
theorem pC (h:(cM tris).Nodup)(n:Nat):(cM (tris.take n)).Nodup:=by
 have:cM tris=cM (tris.take n)++cM (tris.drop n):=by
  unfold cM;rw [<- List.flatMap_append,M4]
 rw [this] at h;exact (Np.1 h).1
theorem fQ {a:List Tri}(h:(cM a).Nodup):∀ n,n<=a.length->(vo a n).map (·.1)=cM (a.take n)
 | 0,_=>by simp [vo,cM]
 | n+1,d=>by
  have b:a[n]?=some a[n]:=aj om_;have h1:=pC h (n+1);rw [nl b] at h1 ⊢;have c:=fQ h n om_;rw [vo,ak,b];show (AX (vo a n) n a[n] 3).map (·.1)=_;rw [nQ _ _ _ 3 (LP _) (by rw [c];exact h1),c];rfl
theorem zC (h:(cM tris).Nodup)(i:Nat)(t:Tri)(k:Nat)(a:tris[i]?=some t)(c:k<3):cV (AX (vo tris i) i t k) (np t k)=none:=by
 have d:=(aX.1 a).1;have h1:=pC h (i+1);rw [nl a] at h1;have b:=fQ h i om_;have h3:=xv t c;have h2:(cM (tris.take i)++(oZ t).take (k+1)).Nodup:=by
  refine List.Nodup.sublist (List.Sublist.append (List.Sublist.refl _) (List.take_sublist _ _)) h1
 rw [Mx,h3,Nv,<- Mo] at h2;have h4:=Np.1 h2;rw [bZ,nQ _ _ _ k om_ (by rw [b];exact h4.1),b];intro h5;exact h4.2.2 _ h5 _ (by simp) Z
theorem tg {B:List gX}{d:Int}:∀ (k:Nat)(p:Int)(out r:List Int),gY B d k p out=some r->(∀ z∈out,z∈B.map (·.1))->∀ z∈r,z∈B.map (·.1)
 | 0,p,out,r,h,b=>by simp only [gY,Mq] at h;subst h;exact b
 | k+1,p,out,r,h,b=>by
  simp only [gY] at h;cases c:cV B p with
  | none=>rw [c] at h;cases h
  | some q =>
   rw [c] at h;simp only at h;split at h
   ·cases h
   ·refine tg k q _ r h (fun z a=>?_);rcases Mh.1 a with a | a
    ·exact b z a
    ·rw [Mn.1 a];exact NV (f:=(·.1)) (gr c)
theorem tj {B:List gX}{b:Int}:∀ (k:Nat)(p:Int)(out r:List Int),gY B b k p out=some r->r.length=out.length+k
 | 0,p,out,r,h=>by simp only [gY,Mq] at h;subst h;rfl
 | k+1,p,out,r,h=>by
  simp only [gY] at h;cases a:cV B p with
  | none=>rw [a] at h;cases h
  | some q =>
   rw [a] at h;simp only at h;split at h
   ·cases h
   ·have:=tj k q _ r h;simp at this;omega
theorem xS {c:List gX}:∀ z∈ud c,z∈c.map (·.1):=by
 intro z a;unfold ud at a;cases b:AY c with
 | none=>rw [b] at a;simp at a
 | some r =>
  rw [b] at a;simp only [M9] at a;unfold AY at b;split at b
  ·have:=tg _ _ _ _ b (by simp) z a;obtain ⟨s,hs,rfl⟩:=L4.1 this;exact NV (f:=(·.1)) (NP.1 hs).1
  ·cases b
theorem FT (a:List gX):(ud a).length<=a.length:=by
 unfold ud;cases b:AY a with
 | none=>simp
 | some r =>
  unfold AY at b;split at b
  ·have:=tj _ _ _ _ b;have h2:=No (jo a) a;simp at this ⊢;omega
  ·cases b
def pp (n:Nat)(t:Tri):Prop:=t.1<n/\t.2.1<n/\t.2.2<n
theorem Fg (h:pp n t):∀ s∈oZ t,0<=s.1/\s.1.toNat<n:=by
 obtain ⟨h1,h2,h3⟩:=h;intro s hs;simp only [oZ,Ma,M3,Ol] at hs;rcases hs with rfl | rfl | rfl <;> simp [np,Bw] <;> omega
theorem nn (h:∀ t∈tris,pp n t):∀ s∈cM tris,0<=s.1/\s.1.toNat<n:=by
 intro s hs;obtain ⟨t,a,hs⟩:=List.mem_flatMap.1 hs;exact Fg (h t a) s hs
theorem pE (a:List Tri):(cM a).length=3*a.length:=by
 induction a with
 | nil=>rfl
 | cons t l b =>
  have:cM (t::l)=oZ t++cM l:=rfl;rw [this,LZ,b];simp [oZ];omega
def ff (tris:List Tri):List Nat:=(ud (cM tris)).map Int.toNat
theorem AG (h:∀ t∈tris,pp n t):∀ z∈ff tris,z<n:=by
 intro z a;obtain ⟨y,hy,rfl⟩:=L4.1 a;obtain ⟨s,hs,rfl⟩:=L4.1 (xS y hy);exact (nn h s hs).2
theorem wx (h:∀ t∈tris,pp n t):(ud (cM tris)).map wd=(ff tris).map aU:=by
 unfold ff;rw [ME];refine List.map_congr_left (fun y hy=>?_);obtain ⟨s,hs,rfl⟩:=L4.1 (xS y hy);have:=(nn h s hs).1;show wd s.1=aU s.1.toNat;unfold wd aU;rw [Int.toNat_of_nonneg this]
/-! Sets of ints as maps. -/
def EH (ks:List Int):List (Int × Value):=ks.map fun z=>(z,.bool true)
def KL (ks:List Int)(z:Int):List Int:=if z∈ks then ks else ks++[z]
theorem Fp (a:List Int):(EH a).length=a.length:=by simp [EH]
theorem uj:∀ {ks:List Int}{z:Int},fp (EH ks) z (.bool true)=EH (KL ks z)
 | [],z=>by simp [EH,fp,KL]
 | k::ks,z=>by
  have a:=uj (ks:=ks) (z:=z);unfold EH at a ⊢;simp only [Mp,fp];by_cases e:k=z
  ·subst e;simp [KL]
  ·have b:¬ z=k:=fun h=>e h.symm;rw [aC e,a];unfold KL;by_cases h:z∈ks
   ·simp [h]
   ·simp [h,b]
def HS (ks:List Int)(t:Tri):Nat->List Int
 | 0=>ks
 | k+1=>KL (HS ks t k) (Bw t k)
def tq (tris:List Tri):Nat->List Int
 | 0=>[]
 | n+1=>HS (tq tris n) (tris.getD n (0,0,0)) 3
theorem DK (t:Tri)(a:k<3):(jI t)[k]?=some (.int .i64 (Bw t k)):=by
 rcases (by omega:k=0∨k=1∨k=2) with rfl | rfl | rfl <;> rfl
theorem AF (h:decide (ud (cM tris)≠[])=true):0<(ff tris).length:=by
 unfold ff;rw [ax];exact MD.2 (K5 h)
theorem El (a:List Tri):decide (ud (cM a)≠[])=decide (ff a≠[]):=by
 rw [MH];unfold ff;simp
def lC (pts:List Pt)(tris:List Tri):Bool:=decide (ff tris≠[]) && (decide ((tq tris tris.length).length=pts.length) && FY pts (ff tris))
theorem rm (C:Mem)(J:Tabs C)(x y:Value)(c:List Pt)(a:List Tri)(K:a≠[])(k:Sl C 2 x (c.map hU))(g:Sl C 3 y (a.map jI))(d:(cM a).Nodup)(l:∀ t∈a,pp c.length t)(L:∀ p∈c,QP 1 p)(z:a.length<=10000) :
  Gives cx.P 101 [.agg ⟨[x,y]⟩] C (.bool (lC c a)):=by
 obtain ⟨V,W,rfl,M,X,_⟩:=id k;obtain ⟨A2,c2,rfl,N,Y,_⟩:=id g;have aa:maxLen<=9223372036854775807:=by simp [maxLen]
 simp only [ax] at k g M N ⊢;refine Ph func101 55 U3 fun w0=>Pb fun R b=>Pr U6 fun A=>C4 1 [1] b Z<|G.freeze 0 Z fun _ B e=>Pb fun R b=>O8 (PtrTo.block (Mem.get e mup) _) U8<|PK (CK _ _ _ a K g.m_ (zC d)) U7 (fun ab _ _ O=>?_);obtain ⟨n,rfl,Q⟩:=O;refine C4 5 [1,3,4] b Z<|C6 2 [1,3,18] Z<|O9 (fun E=>?_) fun E=>?_
 ·exact absurd E dc_
 ·refine Pb fun R b=>D.makeMap keyZ Z Z Z Z fl_ fun f=>C4 1 [1,3,5] b Z<|O7 1 Z fun R b=>O8 (PtrTo.block (Mem.get e mup) _) U8<|C4 2 [1,3,5,21,22,23] b Z<|G.loop (fun fr C' h o=>∃ (i:Nat),(i<=a.length)/\fr=[(1,[],.pointer (some ⟨A,0,none⟩)),(3,[],.map (some n)),(5,[],.map (some f)),(21,[],.slice A2 a.length c2),(22,[],.int .i64 a.length),(23,[],.int .i64 i)]/\h=[.obj f (aM keyZ.enc (EH (tq a i)))]/\o=a.length-i) (hn_ [1,3,5,21,22,23] Z) ⟨0,LV _,Z,Z,Z⟩ (fun fr ac ad m _ q=>?_);obtain ⟨i,hi,rfl,rfl,rfl⟩:=q;refine C6 1 [1,3,5,21,22,23,24] Z<|O9 (fun r=>?_) fun r=>?_
  ·have u:i<a.length:=by simpa using r
   obtain ⟨t,F⟩:∃ t,a[i]?=some t:=⟨a[i],aj u⟩;refine Pb fun R b=>Pm g.m_ U10 om_ (by rw [LU,F];rfl:(a.map jI)[i]?=some (jI t)) fl_ fun ae S=>O8 S U8<|Pq U5 fun b7=>Pg (j:=0) U12<|Pd [1,3,5,7,21,22,23] b Z<|Pb fun R b=>Pe (.head _) U9<|C4 1 [1,3,5,21,22,23,27,28] b Z<|PQ 0 Z<|G.loop (fun fr C' h o=>∃ (j:Nat),(j<=3)/\fr=[(1,[],.pointer (some ⟨A,0,none⟩)),(3,[],.map (some n)),(5,[],.map (some f)),(21,[],.slice A2 a.length c2),(22,[],.int .i64 a.length),(23,[],.int .i64 i),(27,[],.agg ⟨jI t⟩),(28,[],.int .i64 j)]/\h=[.obj f (aM keyZ.enc (EH (HS (tq a i) t j)))]/\o=3-j) (hn_ [1,3,5,21,22,23,27,28] Z) ⟨0,LV _,Z,Z,Z⟩ (fun fr af ag m B q=>?_);obtain ⟨j,hj,rfl,rfl,rfl⟩:=q;refine C6 1 [1,3,5,21,22,23,27,28,29] Z<|O9 (fun v=>?_) fun v=>?_
   ·have w:j<3:=by
     simp only [LY] at v;omega
    refine Pb fun R b=>PZ U11 (fun _=>⟨by omega,by omega,DK t w⟩) U2<|C4 1 [1,3,5,9,21,22,23,27,28] b Z<|O7 2 Z fun R b=>D.mapUpdate keyZ (j:=0) Z Z Z Z Z Z Z Z Z Z kr_<|Pd [1,3,5,21,22,23,27,28] b Z<|Pb fun R b=>Pi _ U7<|C4 1 [1,3,5,21,22,23,27,28] b Z ?_;rw [uj];refine Pk (m':=3-(j+1)) om_ B (hn_ [1,3,5,21,22,23,27,28] Z) ⟨j+1,om_,Z,Z,Z⟩
   ·have w:j=3:=by
     simp only [Mf] at v;omega
    subst w;refine Pb fun R b=>Pi _ U7<|C4 1 [1,3,5,21,22,23] b Z<|Po (L':=[.obj f (aM keyZ.enc (EH (tq a (i+1))))]) (by rw [tq,ak,F];rfl)<|Pk (m':=a.length-(i+1)) om_ mup (hn_ [1,3,5,21,22,23] Z) ⟨i+1,om_,Z,Z,Z⟩
  ·have u:i=a.length:=by
    have:¬ i<a.length:=by simpa using r
    omega
   subst u;refine Pb fun R b=>O8 (PtrTo.block (Mem.get e mup) _) U8<|Pa U6<|PI (FQ _ _ _ n (vo a a.length) (Mem.get Q mup) (by rw [fQ d _ (LP _),Mb];exact d) (by rw [fQ d _ (LP _),Mb];exact fun s T=>(nn l s T).1) (by have:=congrArg List.length (fQ d _ (LP _));rw [Mb,pE,ax] at this;omega)) U7 fl_ (fun ah _ _ H=>?_);rw [fQ d _ (LP _),Mb] at H;obtain ⟨bv,rfl,I⟩:=H;rw [wx l] at I;refine C4 5 [1,5,10,11] b Z<|Px [(3,1)] Z fun R b=>Pc 3 Z<|QT keyZ.enc (.head _) Z Z Z Z Z Z Z Z Z<|Pa U6<|PC U6 (fun _=>PtrTo.block (Mem.get e mup) _) U3<|Pc 2 Z<|Pz U8<|Pa U6<|PC U6 (fun _=>PtrTo.block (Mem.get e mup) _) U3<|Pa U6<|Pw (fun U=>(IF _ J.m_ _ _ bv c (ff a) k.m_ I.m_ (by exact AF (Oj.1 (show (decide (ud (cM a)≠[]) && _)=true/\True from U).1).1) (AG l) L (by have:=FT (cM a);rw [pE] at this;unfold ff;rw [ax];omega))) U9<|Pz U8<|C4 1 [2] b Z<|Pf U2<|⟨?_,Z⟩;have z:(((EH (tq a a.length)).length:Int) == (c.length:Int))=decide ((tq a a.length).length=c.length):=by
    rw [Fp,OQ,Nh,LY];omega
   unfold lC;rw [<- El,<- z,<- Bool.and_assoc]
noncomputable def kP2:KeyP cx.P 58 (Str × Str):=LD rfl rfl rfl dc_ dc_ rfl rfl kr_
def ptK (p:Pt):Str × Str:=(qtx p.1,qtx p.2)
theorem Io {q:Pt}(h:ptK p=ptK q):p=q:=by
 have h1:=lH (congrArg (·.1) h);have h2:=lH (congrArg (·.2) h);exact Prod.ext h1 h2
def F1 (l:List Pt):List ((Str × Str) × Value):=l.map fun p=>(ptK p,.bool true)
theorem yd {l:List Pt}(h:p ∉ l):cV (F1 l) (ptK p)=none:=by
 rw [bZ];unfold F1;rw [ME];intro hm;obtain ⟨q,a,b⟩:=L4.1 hm;exact h (Io b ▸ a)
theorem IL {l:List Pt}(h:p ∉ l):fp (F1 l) (ptK p) (.bool true)=F1 (l++[p]):=by
 rw [iS (yd h)];simp [F1]
def mG (n:Nat)(X:Nat->Nat->Bool):Bool:=(List.range n).any fun i=>(List.range i).any fun k=>X i k
def vL (pts:List Pt)(tris:List Tri)(X:Nat->Nat->Bool):Int:=if tris=[] then 13 else if lC pts tris then 0 else if mG tris.length X then 26 else 25
structure MeshOk (pts:List Pt)(tris:List Tri):Prop where
 q:∀ p∈pts,QP 1 p
 nd:pts.Nodup
 ins:∀ t∈tris,pp pts.length t
 pos:∀ t∈tris,0<fh (pts.getD t.1 (0,0)) (pts.getD t.2.1 (0,0)) (pts.getD t.2.2 (0,0))
 sides:(cM tris).Nodup
 lt:tris.length<=800
 lp:pts.length<=400
theorem nJ (h:i<pts.length):pts[i]?=some (pts.getD i (0,0)):=by
 rw [ak,aj h];rfl
theorem xM (h:i<pts.length):pts.getD i (0,0)∈pts:=LQ (nJ h)
def kR (t:Tri)(j:Nat):Nat:=if j=0 then t.1 else if j=1 then t.2.1 else t.2.2
theorem JN (t:Tri)(j:Nat):Bw t j=(kR t j:Nat):=by
 unfold Bw kR;split
 ·rfl
 ·split <;> rfl
theorem eC (h:pp n t)(j:Nat):kR t j<n:=by
 obtain ⟨h1,h2,h3⟩:=h;unfold kR;split
 ·exact h1
 ·split <;> assumption
theorem JX (q:Rat):decide (dX q.num<=0)=!decide (0<q):=by
 have h1:=xK q;have h2:q.num=0 ↔ q=0:=Ou;rw [<- decide_not,MH];have h3:¬ 0<q ↔ (q<0∨q=0):=by grind
 rw [h3,<- h1,<- h2];rcases dR q.num with h | h | h <;> omega
theorem Db (C:Mem)(F:Tabs C)(H I:Value)(c:List Pt)(b:List Tri)(X:Nat->Nat->Bool)(r:Sl C 2 H (c.map hU))(x:Sl C 3 I (b.map jI))(d:MeshOk c b)
  (U:b≠[]->lC c b=false->∀ D:Mem,C.le D->∀ i k:Nat,i<b.length->k<i->Gives cx.P 102 [.agg ⟨[H,I]⟩,.int .i64 i,.int .i64 k] D (.bool (X i k))) :
  Gives cx.P 66 [.agg ⟨[H,I]⟩] C (.int .i64 (vL c b X)):=by
 obtain ⟨A1,c1,rfl,ae,av,_⟩:=id r;obtain ⟨A2,c2,rfl,af,aw,_⟩:=id x;have ay:maxLen<=9223372036854775807:=by simp [maxLen]
 have az:=d.lt;have aA:=d.lp;simp only [ax] at r x ae af U ⊢;refine Ph func66 105 U3 fun w0=>Pb fun R a=>Pr U6 fun u=>C4 1 [1] a Z<|G.freeze 0 Z fun _ _ f=>O7 1 Z fun R a=>O8 (PtrTo.block (Mem.get f mup) _) U8<|C4 3 [1,12] a Z<|O9 (fun y=>?_) fun y=>?_
 ·have h0:b=[]:=by
   have h:((b.length:Nat):Int)=0:=by simpa using y
   exact MA om_
  exact C6 1 [2] Z<|Pf U2<|⟨by unfold vL;rw [aI h0],Z⟩
 ·have h0:b≠[]:=by
   intro e;rw [e] at y;exact absurd y dc_
  refine O7 1 Z fun R a=>O8 (PtrTo.block (Mem.get f mup) _) U8<|Pc 4 Z<|PC U6 (fun _=>PtrTo.block (Mem.get f mup) _) U3<|Pc 2 Z<|PD U8<|C4 1 [1,17] a Z<|O9 (fun V=>?_) fun V=>?_
  ·exfalso;simp only [Nl,LY] at V;omega
  ·refine Pb fun R a=>QO kP2 Z Z Z Z fl_ fun J=>C4 1 [1,3] a Z<|O7 1 Z fun R a=>O8 (PtrTo.block (Mem.get f mup) _) U8<|C4 2 [1,3,30,31,32] a Z<|G.loop (fun fr C' g l=>∃ (i:Nat),(i<=c.length)/\fr=[(1,[],.pointer (some ⟨u,0,none⟩)),(3,[],.map (some J)),(30,[],.slice A1 c.length c1),(31,[],.int .i64 c.length),(32,[],.int .i64 i)]/\g=[.obj J (aM Ae (F1 (c.take i)))]/\l=c.length-i) (hn_ [1,3,30,31,32] Z) ⟨0,LV _,Z,Z,Z⟩ (fun fr aB aD m _ n=>?_);obtain ⟨i,hi,rfl,rfl,rfl⟩:=n;refine C6 1 [1,3,30,31,32,33] Z<|O9 (fun W=>?_) fun W=>?_
   ·have o:i<c.length:=by simpa using W
    obtain ⟨p,z⟩:∃ p,c[i]?=some p:=⟨c[i],aj o⟩;have A:=d.q p (LQ z);have Y:p ∉ c.take i:=by
     intro hm;obtain ⟨j,v⟩:=M2 hm;rw [Mz] at v;split at v
     ·rename_i aE;have h3:=(aX.1 v);have h4:=(aX.1 z);have:=(List.getElem_inj d.nd).1 (h3.2.trans h4.2.symm);omega
     ·cases v
    have ag:F1 (c.take (i+1))=F1 (c.take i++[p]):=by rw [Mx,z];rfl
    refine Pb fun R a=>Pm r.m_ U10 om_ (by rw [LU,z];rfl:(c.map hU)[i]?=some (hU p)) fl_ fun aF ah=>O8 ah U8<|Pq U5 fun b5=>Pg (j:=0) U12<|Pd [1,3,5,30,31,32] a Z<|Pb fun R a=>Pe (.head _) U9<|Pp (gM _ F.m_ (qtx p.1) (qtx p.2) (by have:=bE A.1 dc_;omega) (by have:=bE A.2 dc_;omega)) U7 fl_<|C4 1 [1,3,5,30,31,32,38] a Z<|O9 (fun K=>?_) fun K=>?_
    ·exfalso;rw [bx (A.1.le dc_),bx (A.2.le dc_)] at K;exact absurd K dc_
    ·refine O7 1 Z fun R a=>Pe (.head _) U9<|QQ kP2 (.tail _ (.head _)) Z Z Z Z Z Z Z Z Z (congrArg (jE (.bool false) false) (yd Y)) Z Z<|Pd [1,3,5,30,31,32,41] a Z<|O9 (fun aa=>?_) fun aa=>?_
     ·exact absurd aa dc_
     ·refine O7 1 Z fun R a=>Pe (.head _) U9<|QK kP2 (j:=1) (key:=ptK p) Z Z Z Z Z Z Z Z Z Z<|Pd [1,3,30,31,32] a Z<|Pb fun R a=>Pi _ U7<|C4 1 [1,3,30,31,32] a Z<|PQ 1 Z<|Po (L':=[.obj J (aM Ae (F1 (c.take (i+1))))]) (by rw [ag,<- IL Y];rfl)<|Pk (m':=c.length-(i+1)) om_ mup (hn_ [1,3,30,31,32] Z) ⟨i+1,om_,Z,Z,Z⟩
   ·refine O7 1 Z fun R a=>O8 (PtrTo.block (Mem.get f mup) _) U8<|C4 2 [1,46,47,48] a Z<|G.dropAll<|G.loop (fun fr C' g l=>∃ (i:Nat),(i<=b.length)/\fr=[(1,[],.pointer (some ⟨u,0,none⟩)),(46,[],.slice A2 b.length c2),(47,[],.int .i64 b.length),(48,[],.int .i64 i)]/\g=[]/\l=b.length-i) (hn_ [1,46,47,48] Z) ⟨0,LV _,Z,Z,Z⟩ (fun fr aG aH m _ n=>?_);obtain ⟨i,hi,rfl,rfl,rfl⟩:=n;refine C6 1 [1,46,47,48,49] Z<|O9 (fun L=>?_) fun L=>?_
    ·have o:i<b.length:=by simpa using L
     obtain ⟨t,ht⟩:∃ t,b[i]?=some t:=⟨b[i],aj o⟩;have ab:=LQ ht;have s:=d.ins t ab;have ai:=d.pos t ab;refine Pb fun R a=>Pm x.m_ U10 om_ (by rw [LU,ht];rfl:(b.map jI)[i]?=some (jI t)) fl_ fun aJ ak=>O8 ak U8<|Pq U5 fun b7=>Pg (j:=0) U12<|Pd [1,7,46,47,48] a Z<|Pb fun R a=>Pe (.head _) U9<|C4 1 [1,7,46,47,48,52,53] a Z<|G.loop (fun fr C' g l=>∃ (j:Nat),(j<=3)/\fr=[(1,[],.pointer (some ⟨u,0,none⟩)),(7,[],.pointer (some ⟨b7,0,none⟩)),(46,[],.slice A2 b.length c2),(47,[],.int .i64 b.length),(48,[],.int .i64 i),(52,[],.agg ⟨jI t⟩),(53,[],.int .i64 j)]/\g=[.obj b7 (.cells ⟨jI t⟩ 108 (0,0))]/\l=3-j) (hn_ [1,7,46,47,48,52,53] Z) ⟨0,LV _,Z,Z,Z⟩ (fun fr aK aL m al n=>?_);obtain ⟨j,v,rfl,rfl,rfl⟩:=n;refine C6 1 [1,7,46,47,48,52,53,54] Z<|O9 (fun M=>?_) fun M=>?_
     ·have am:j<3:=by
       simp only [LY] at M;omega
      have aN:=eC s j;refine Pb fun R a=>PZ U11 (fun _=>⟨by omega,by omega,(show (jI t)[((j:Nat):Int).toNat]?=some (.int .i64 ((kR t j:Nat):Int)) from by rw [<- JN];exact DK t am)⟩) U2<|C4 1 [1,7,9,46,47,48,52,53] a Z<|O7 5 Z fun R a=>PC U6 (fun _=>PtrTo.block (Mem.get f mup) _) U3<|Pc 2 Z<|PD U8<|Pd [1,7,46,47,48,52,53,64] a Z<|O9 (fun ac=>?_) fun ac=>?_
      ·exfalso;simp only [Nl,LY] at ac;omega
      ·refine Pb fun R a=>Pi _ U7<|C4 1 [1,7,46,47,48,52,53] a Z<|Pk (m':=3-(j+1)) om_ al (hn_ [1,7,46,47,48,52,53] Z) ⟨j+1,om_,Z,Z,Z⟩
     ·clear M;refine Pv [0,1,2,3,4,5,6,7,8,9,10,11,12,13,14,15,16,17,18,19] [(18,1)] Z kr_ fun R hB a=>Pa U6<|O8 (PtrTo.block (Mem.get f mup) _) U8<|Py (0) U9 (fun _=>⟨by decide,by decide,Z⟩) U2<|Pe (.head _) U9<|Pm r.m_ U10 om_ (by rw [LU,show (((t.1:Nat):Int)).toNat=t.1 from Z,nJ s.1];rfl:(c.map hU)[(((t.1:Nat):Int)).toNat]?=some (hU (c.getD t.1 (0,0)))) fl_ fun aO an=>O8 an U8<|Pa U6<|O8 (PtrTo.block (Mem.get f mup) _) U8<|Py (1) U9 (fun _=>⟨by decide,by decide,Z⟩) U2<|Pe (.head _) U9<|Pm r.m_ U10 om_ (by rw [LU,show (((t.2.1:Nat):Int)).toNat=t.2.1 from Z,nJ s.2.1];rfl:(c.map hU)[(((t.2.1:Nat):Int)).toNat]?=some (hU (c.getD t.2.1 (0,0)))) fl_ fun aP ao=>O8 ao U8<|Pa U6<|O8 (PtrTo.block (Mem.get f mup) _) U8<|Py (2) U9 (fun _=>⟨by decide,by decide,Z⟩) U2<|Pe (.head _) U9<|Pm r.m_ U10 om_ (by rw [LU,show (((t.2.2:Nat):Int)).toNat=t.2.2 from Z,nJ s.2.2];rfl:(c.map hU)[(((t.2.2:Nat):Int)).toNat]?=some (hU (c.getD t.2.2 (0,0)))) fl_ fun aQ ap=>O8 ap U8<|Pw (fun _=>(mZ _ F.m_ (c.getD t.1 (0,0)) (c.getD t.2.1 (0,0)) (c.getD t.2.2 (0,0)) 1 dc_ dc_ (d.q _ (xM s.1)) (d.q _ (xM s.2.1)) (d.q _ (xM s.2.2)))) U9<|C4 1 [1,46,47,48,85] a Z<|O9 (fun N=>?_) fun N=>?_
      ·exfalso;rw [JX,Mc ai] at N;exact absurd N dc_
      ·refine Pb fun R a=>Pi _ U7<|C4 1 [1,46,47,48] a Z<|G.dropAll<|Pk (m':=b.length-(i+1)) om_ mup (hn_ [1,46,47,48] Z) ⟨i+1,om_,Z,Z,Z⟩
    ·clear L;refine Pb fun R a=>O8 (PtrTo.block (Mem.get f mup) _) U8<|Pp (rm _ F.m_ _ _ c b h0 r.m_ x.m_ d.sides d.ins d.q om_) U7 fl_<|Pd [1,88] a Z<|O9 (fun O=>?_) fun O=>?_
     ·have w:lC c b=true:=O;exact C6 1 [2] Z<|Pf U2<|⟨by unfold vL;rw [aC h0,aI w],Z⟩
     ·have w:lC c b=false:=O;refine O7 1 Z fun R a=>O8 (PtrTo.block (Mem.get f mup) _) U8<|C4 2 [1,91,92] a Z<|G.loop (fun fr C' g l=>∃ (i:Nat),(i<=b.length/\mG i X=false)/\fr=[(1,[],.pointer (some ⟨u,0,none⟩)),(91,[],.int .i64 b.length),(92,[],.int .i64 i)]/\g=[]/\l=b.length-i) (hn_ [1,91,92] Z) ⟨0,⟨LV _,Z⟩,Z,Z,Z⟩ (fun fr aR aS m _ n=>?_);obtain ⟨i,⟨aT,B⟩,rfl,rfl,rfl⟩:=n;refine C6 1 [1,91,92,93] Z<|O9 (fun Q=>?_) fun Q=>?_
      ·have o:i<b.length:=by simpa using Q
       refine C6 2 [1,10,91,92] Z<|C6 2 [1,10,91,92,95,96] Z<|G.loop (fun fr C' g l=>∃ (k:Nat),(k<=i/\(List.range k).any (fun k=>X i k)=false)/\fr=[(1,[],.pointer (some ⟨u,0,none⟩)),(10,[],.int .i64 i),(91,[],.int .i64 b.length),(92,[],.int .i64 i),(95,[],.int .i64 i),(96,[],.int .i64 k)]/\g=[]/\l=i-k) (hn_ [1,10,91,92,95,96] Z) ⟨0,⟨LV _,Z⟩,Z,Z,Z⟩ (fun fr aU aV m aq n=>?_);obtain ⟨k,⟨aW,ad⟩,rfl,rfl,rfl⟩:=n;refine C6 1 [1,10,91,92,95,96,97] Z<|O9 (fun S=>?_) fun S=>?_
       ·have E:k<i:=by simpa using S
        refine C6 2 [1,10,11,91,92,95,96] Z<|Pb fun R a=>O8 (PtrTo.block (Mem.get f mup) _) U8<|Pc 2 Z<|Pn (U h0 w _ mup i k o E) U7<|Pd [1,10,91,92,95,96,102] a Z<|O9 (fun T=>?_) fun T=>?_
        ·have ar:X i k=true:=T;have hc:mG b.length X=true:=N5.2 ⟨i,Me.2 o,N5.2 ⟨k,Me.2 E,ar⟩⟩;exact C6 1 [2] Z<|Pf U2<|⟨by unfold vL;rw [aC h0,w,aC dc_,aI hc],Z⟩
        ·have au:X i k=false:=T;refine Pb fun R a=>Pi _ U7<|C4 1 [1,10,91,92,95,96] a Z<|Pk (m':=i-(k+1)) om_ aq (hn_ [1,10,91,92,95,96] Z) ⟨k+1,⟨by omega,by rw [MU,List.any_append,ad];simp [au]⟩,Z,Z,Z⟩
       ·have E:k=i:=by
         have:¬ k<i:=by simpa using S
         omega
        subst E;refine Pb fun R a=>Pi _ U7<|C4 1 [1,91,92] a Z<|Pk (m':=b.length-(k+1)) om_ mup (hn_ [1,91,92] Z) ⟨k+1,⟨by omega,by unfold mG at B ⊢;rw [MU,List.any_append,B];simp [ad]⟩,Z,Z,Z⟩
      ·have o:i=b.length:=by
        have:¬ i<b.length:=by simpa using Q
        omega
       refine C6 1 [2] Z<|Pf U2<|⟨?_,Z⟩;rw [o] at B;unfold vL;rw [aC h0,w,aC dc_,B];rfl
structure Good (pts:List Pt)(tris:List Tri):Prop where
 ok:MeshOk pts tris
 ne:tris≠[]
 whole:lC pts tris=true
structure MeshIn (C:Mem)(mv:Value)(pts:List Pt)(tris:List Tri):Prop where
 ex:∃ v1 v2,mv=.agg ⟨[v1,v2]⟩/\Sl C 2 v1 (pts.map hU)/\Sl C 3 v2 (tris.map jI)
theorem MeshIn.mono {C D:Mem}{a:Value}{b:List Pt}{c:List Tri}(h:MeshIn C a b c)(d:C.le D):MeshIn D a b c:=by
 obtain ⟨e,f,h1,h2,h3⟩:=h.ex;exact ⟨e,f,h1,h2.mono d,h3.mono d⟩
theorem MeshIn.m_ {D:Mem}{a:Value}(h:MeshIn C a pts tris)(b:C.le D:=by exact mup):MeshIn D a pts tris:=MeshIn.mono h b
def nox:Nat->Nat->Bool:=fun _ _=>false
theorem iV (C:Mem)(f:Tabs C)(d:Value)(a:List Pt)(b:List Tri)(g:MeshIn C d a b)(c:Good a b):Gives cx.P 66 [d] C (.int .i64 0):=by
 obtain ⟨i,j,rfl,h1,h2⟩:=g.ex;have h:=Db C f i j a b nox h1 h2 c.ok (fun _ h3=>by rw [c.whole] at h3;cases h3);have e:vL a b nox=0:=by unfold vL;rw [aC c.ne,aI c.whole]
 rwa [e] at h
def cor (pts:List Pt)(t:Tri)(j:Nat):Pt:=pts.getD (kR t j) (0,0)
def vR (pts:List Pt)(p:Pt)(t:Tri):Bool:=decide (0<=fh (cor pts t 0) (cor pts t 1) p) && decide (0<=fh (cor pts t 1) (cor pts t 2) p) && decide (0<=fh (cor pts t 2) (cor pts t 0) p)
def rY (pts:List Pt)(tris:List Tri)(p:Pt):List Nat:=(List.range tris.length).filter fun i=>vR pts p (tris.getD i (0,0,0))
theorem lM (h:MeshOk pts tris)(a:t∈tris)(j:Nat):QP 1 (cor pts t j):=h.q _ (xM (eC (h.ins t a) j))
theorem QP.le {k m:Nat}{p:Pt}(h:QP k p)(a:k<=m):QP m p:=⟨h.1.le a,h.2.le a⟩
theorem qK (C:Mem)(d:Value)(a:List Pt)(b:List Tri)(f:MeshIn C d a b)(g:MeshOk a b)(i:Nat)(t:Tri)(e:b[i]?=some t) :
  Gives cx.P 156 [d,.int .i64 i] C (Jh (cor a t 0) (cor a t 1) (cor a t 2)):=by
 obtain ⟨h,j,rfl,h1,h2⟩:=f.ex;have c:=g.ins t (LQ e);exact Aq C h j a b i t _ _ _ h1 h2 e (nJ c.1) (nJ c.2.1) (nJ c.2.2)
theorem B8 (h:QP k p)(a:k<=1000):(qtx p.1).length<=999998/\(qtx p.2).length<=999998:=by
 have h1:=bE (h.1.le (N4 k)) om_;have h2:=bE (h.2.le (N4 k)) om_;exact ⟨by omega,by omega⟩
def PtR (p:Pt):Prop:=bd (qtx p.1)=true/\bd (qtx p.2)=true
theorem gK (C:Mem)(c:Tabs C)(p:Pt)(a:QP 23 p)(b:PtR p):Gives cx.P 99 [ptV p] C (.int .i64 0):=by
 have h:=gM C c (qtx p.1) (qtx p.2) (B8 a dc_).1 (B8 a dc_).2;rw [b.1,b.2] at h;exact h
theorem od (C:Mem)(f:Tabs C)(A:Value)(c:List Pt)(a:List Tri)(p:Pt)(B:MeshIn C A c a)(E:Good c a)(F:QP 23 p)(g:PtR p) :
  Pur cx.P 149 [A,ptV p] C fun u D=>∃ v,u=.tuple #[v,.int .i64 0]/\Sl D 1 v ((rY c a p).map aU):=by
 have d:=E.ok;have V:=d.lt;have W:maxLen<=9223372036854775807:=by simp [maxLen]
 have h:=B;obtain ⟨X,Y,rfl,h1,h2⟩:=id B.ex;obtain ⟨A1,c1,rfl,aa,ab,_⟩:=id h1;obtain ⟨A2,c2,rfl,ac,ad,_⟩:=id h2;simp only [ax] at h1 h2 h ⊢;refine Ph func149 34 U3 fun w0=>Pb fun R b=>Pr U6 fun N=>Pr U6 fun O=>C4 2 [2,3] b Z<|G.freeze 1 Z fun _ _ k=>G.freeze 0 Z fun _ _ H=>Pb fun R b=>O8 (PtrTo.block (Mem.get k mup) _) U8<|Pn (iV _ f.m_ _ c a h.m_ E) U7<|C4 1 [2,3,6] b Z<|C6 2 [2,3,6,12] Z<|O9 (fun I=>?_) fun I=>?_
 ·exact absurd I dc_
 ·refine Pb fun R b=>O8 (PtrTo.block (Mem.get H mup) _) U8<|Pn (gK _ f.m_ p F g) U7<|C4 1 [2,3,16] b Z<|O9 (fun J=>?_) fun J=>?_
  ·exact absurd J dc_
  ·refine C6 1 [2,3,7] Z<|O7 1 Z fun R b=>O8 (PtrTo.block (Mem.get k mup) _) U8<|C4 2 [2,3,7,19,20] b Z<|G.nilArr 3 1<|G.loop (fun fr C' K Q=>∃ (i:Nat)(out:List Nat)(w:Value),(i<=a.length/\out=(List.range i).filter (fun i=>vR c p (a.getD i (0,0,0))))/\fr=[(2,[],.pointer (some ⟨N,0,none⟩)),(3,[],.pointer (some ⟨O,0,none⟩)),(7,[],w),(19,[],.int .i64 a.length),(20,[],.int .i64 i)]/\K=[.arr w 3 1 out.length (out.map aU).flatten]/\Q=a.length-i) (hn_ [2,3,7,19,20] Z) ⟨0,[],_,⟨LV _,Z⟩,Z,Z,Z⟩ (fun fr ae af m _ S=>?_);obtain ⟨i,out,w,⟨hi,e⟩,rfl,rfl,rfl⟩:=S;refine C6 1 [2,3,7,19,20,21] Z<|O9 (fun l=>?_) fun l=>?_
   ·have n:i<a.length:=by simpa using l
    obtain ⟨t,o⟩:∃ t,a[i]?=some t:=⟨a[i],aj n⟩;have q:=LQ o;have L:a.getD i (0,0,0)=t:=by rw [ak,o];rfl
    have ag:out.length<=i:=by
     rw [e];exact Md (No _ _) (by simp)
    refine C6 2 [2,3,7,8,19,20] Z<|Pv [0,1,2,3,4] [(2,1),(4,1)] Z kr_ fun R hB b=>O8 (PtrTo.block (Mem.get k mup) _) U8<|Pa U6<|PH (fun _=>(qK _ _ c a h.m_ d i t o)) U9<|O8 (PtrTo.block (Mem.get H mup) _) U8<|Pw (fun _=>(Dy _ f.m_ (cor c t 0) (cor c t 1) (cor c t 2) p 23 dc_ dc_ ((lM d q 0).le dc_) ((lM d q 1).le dc_) ((lM d q 2).le dc_) F)) U9<|Pd [2,3,7,8,19,20,27] b Z<|O9 (fun s=>?_) fun s=>?_
    ·have x:vR c p t=true:=s;have z:(List.range (i+1)).filter (fun i=>vR c p (a.getD i (0,0,0)))=out++[i]:=by rw [MU,Nw,<- e,List.filter_cons,L,x];rfl
     refine O7 2 Z fun R b=>Ps [aU i] U12 fun ah _ _ T=>D.append (j:=0) U11 T Z (by simp only [aE,maxLen];omega) (by simp only [aE];omega) fl_ fun M=>C4 1 [2,3,7,19,20] b Z<|Pb fun R b=>Pi _ U7<|C4 1 [2,3,7,19,20] b Z<|Po (L':=[.arr M 3 1 (out++[i]).length ((out++[i]).map aU).flatten]) (by simp [aU])<|Pk (m':=a.length-(i+1)) om_ mup (hn_ [2,3,7,19,20] Z) ⟨i+1,out++[i],M,⟨by omega,z.symm⟩,Z,Z,Z⟩
    ·have x:vR c p t=false:=s;have z:(List.range (i+1)).filter (fun i=>vR c p (a.getD i (0,0,0)))=out:=by rw [MU,Nw,<- e,List.filter_cons,L,x];simp
     refine Pb fun R b=>Pi _ U7<|C4 1 [2,3,7,19,20] b Z<|Pk (m':=a.length-(i+1)) om_ mup (hn_ [2,3,7,19,20] Z) ⟨i+1,out,w,⟨by omega,z.symm⟩,Z,Z,Z⟩
   ·have n:i=a.length:=by
     have:¬ i<a.length:=by simpa using l
     omega
    refine C6 3 [4,5] Z<|G.freezeArr 0 (out.map aU) rfl rfl (by intro r g;obtain ⟨y,_,rfl⟩:=L4.1 g;rfl) (by simp) fun Cg hg U=>Pl (G.dropAll (PE U3 ?_));refine ⟨Z,_,Z, ?_⟩;rw [n] at e;unfold rY;rw [<- e];exact U
theorem wj (C:Mem)(g:Tabs C)(d:Value)(a:List Pt)(b:List Tri)(p:Pt)(e:MeshIn C d a b)(h:Good a b)(i:QP 23 p)(j:PtR p) :
  Gives cx.P 97 [d,ptV p] C (.tuple #[.bool (decide (rY a b p≠[])),.int .i64 0]):=by
 have k:=e;obtain ⟨n,o,rfl,h1,h2⟩:=id e.ex;refine Ph func97 18 U3 fun w0=>Pb fun R c=>Pr U6 fun q=>Pr U6 fun r=>C4 2 [2,3] c Z<|Pb fun R c=>Pe (.tail _ (.head _)) U9<|Pe (.head _) U9<|PK (od _ g.m_ _ a b p k.m_ h i j) U7 (fun s _ _ l=>?_);obtain ⟨t,rfl,m⟩:=l;obtain ⟨u,v,f,_⟩:=id m;rw [ax] at f;subst f;refine C4 5 [6,7] c Z<|C6 6 [4,5] Z<|Pl (G.dropAll (PE U3 ?_));refine ⟨?_,Z⟩;have:decide (((rY a b p).length:Int) > 0)=decide (rY a b p≠[]):=by
  rw [MH,<- MD];omega
 rw [<- this]
theorem wt (C:Mem)(j:Tabs C)(d:Value)(c:List Pt)(b:List Tri)(i:Nat)(e:MeshIn C d c b)(k:Good c b)(l:i<b.length) :
  Gives cx.P 273 [d,.int .i64 i] C (.int .i64 0):=by
 have f:=e;obtain ⟨m,n,rfl,h1,h2⟩:=id e.ex;obtain ⟨A2,c2,rfl,o,p,_⟩:=id h2;simp only [ax] at h1 h2 f ⊢;refine Ph func273 20 U3 fun w0=>Pb fun R a=>Pr U6 fun q=>C4 1 [1,2] a Z<|Pb fun R a=>Pe (.head _) U9<|Pn (iV _ j.m_ _ c b f.m_ k) U7<|C4 1 [1,2,5] a Z<|C6 2 [1,2,5,9] Z<|O9 (fun g=>?_) fun g=>?_
 ·exact absurd g dc_
 ·refine O7 5 Z fun R a=>Pe (.head _) U9<|Pc 2 Z<|PD U8<|Pd [19] a Z<|O9 (fun h=>?_) fun h=>?_
  ·exfalso;simp only [Nl,LY] at h;omega
  ·exact C6 1 [4] Z<|Pf U2<|⟨Z,Z⟩
def wgt (pts:List Pt)(t:Tri)(p:Pt)(j:Nat):Rat:=fh p (cor pts t ((j+1) % 3)) (cor pts t ((j+2) % 3)) / fh (cor pts t 0) (cor pts t 1) (cor pts t 2)
theorem mC (a:MeshOk pts tris)(b:t∈tris):fh (cor pts t 0) (cor pts t 1) (cor pts t 2)≠0:=by
 have h:=a.pos t b;intro e;have c:fh (pts.getD t.1 (0,0)) (pts.getD t.2.1 (0,0)) (pts.getD t.2.2 (0,0))=0:=e;rw [c] at h;exact absurd h dc_
theorem BM (C:Mem)(g:Tabs C)(x:Value)(c:List Pt)(h:List Tri)(p:Pt)(i:Nat)(t:Tri)(y:MeshIn C x c h)(z:Good c h)(l:QP 23 p)(O:PtR p)(o:h[i]?=some t)(q:∀ j,QB 22 (wgt c t p j)) :
  Gives cx.P 239 [x,.int .i64 i,ptV p] C (.tuple #[.agg ⟨[al (qtx (wgt c t p 0)),al (qtx (wgt c t p 1)),al (qtx (wgt c t p 2))]⟩,.int .i64 0]):=by
 have r:=z.ok;have A:=LQ o;have Q:=(aX.1 o).1;have B:=y;obtain ⟨v1,v2,rfl,h1,h2⟩:=id y.ex;have e:=fun j=>(lM r A j).le (show 1<=23 by decide);have s:=mC r A;have u:∀ a b,QP 23 a->QP 23 b->QB 189 (fh p a b):=fun a b S T=>(wD l S T).le dc_;have v:QB 189 (fh (cor c t 0) (cor c t 1) (cor c t 2)):=(wD (e 0) (e 1) (e 2)).le dc_;refine Ph func239 69 U3 fun w0=>Pb fun R d=>Pr U6 fun b3=>Pr U6 fun U=>Pq U5 fun D=>C4 1 [1,3,5,6] d Z<|G.freeze 2 Z fun _ _ E=>G.freeze 1 Z fun _ _ n=>Pb fun R d=>O8 (PtrTo.block (Mem.get E mup) _) U8<|Pa U6<|Pn (wt _ g.m_ _ c h i B.m_ z Q) U7<|C4 1 [1,3,5,6,8] d Z<|C6 2 [1,3,5,6,8,18] Z<|O9 (fun F=>?_) fun F=>?_
 ·exact absurd F dc_
 ·refine Pb fun R d=>O8 (PtrTo.block (Mem.get n mup) _) U8<|Pn (gK _ g.m_ p l O) U7<|C4 1 [1,3,5,6,23] d Z<|O9 (fun H=>?_) fun H=>?_
  ·exact absurd H dc_
  ·refine Pb fun R d=>O8 (PtrTo.block (Mem.get E mup) _) U8<|Pa U6<|Pn (qK _ _ c h B.m_ r i t o) U7<|Pq U5 fun V=>Pg (j:=0) U12<|Pd [5,6,9] d Z<|G.freeze 0 Z fun _ _ f=>Pb fun R d=>Pq U5 fun I=>Pd [5,6,9,10] d Z<|C6 1 [5,6,9,10,28] Z<|G.loop (fun fr C' W X=>∃ (j:Nat),(j<=3)/\fr=[(5,[],.pointer (some ⟨U,0,none⟩)),(6,[],.pointer (some ⟨D,0,none⟩)),(9,[],.pointer (some ⟨V,0,none⟩)),(10,[],.pointer (some ⟨I,0,none⟩)),(28,[],.int .i64 j)]/\W=[.obj I (.cells ⟨(List.range 3).map fun k=>if k<j then al (qtx (wgt c t p k)) else al []⟩ 328 (0,0)),.obj D (.cells ⟨[al [],al [],al []]⟩ 328 (0,0))]/\X=3-j) (hn_ [5,6,9,10,28] Z) ⟨0,LV _,Z,Z,Z⟩ (fun fr aa ab m _ Y=>?_);obtain ⟨j,hj,rfl,rfl,rfl⟩:=Y;refine C6 1 [5,6,9,10,28,29] Z<|O9 (fun w=>?_) fun w=>?_
   ·have J:j<3:=by
     simp only [LY] at w;omega
    rcases (by omega:j=0∨j=1∨j=2) with rfl | rfl | rfl
    ·refine C6 2 [5,6,9,10,11,28] Z<|Pv [0,1,2,3,4,5,6,7,8,9,10,11,12,13,14,15,16,17,18,19,20,21,22,23,24,25] [(12,1),(19,1),(20,1)] Z kr_ fun R K d=>Pa U6<|O8 (PtrTo.block (Mem.get n mup) _) U8<|Pa U6<|Pi _ U7<|Qb U6 om_ om_ U2<|Py (_) U9 (fun _=>⟨by decide,by decide,Z⟩) U2<|O8 (bkT f 2) U8<|Pa U6<|Pi _ U7<|Qb U6 om_ om_ U2<|Py (_) U9 (fun _=>⟨by decide,by decide,Z⟩) U2<|O8 (bkT f 2) U8<|Pw (fun _=>(jK _ g.m_ p (cor c t ((0+1) % 3)) (cor c t ((0+2) % 3)) 23 dc_ dc_ l (e _) (e _))) U9<|Py (0) U9 (fun _=>⟨by decide,by decide,Z⟩) U2<|O8 (bkT f 2) U8<|Py (2) U9 (fun _=>⟨by decide,by decide,Z⟩) U2<|O8 (bkT f 2) U8<|Py (4) U9 (fun _=>⟨by decide,by decide,Z⟩) U2<|O8 (bkT f 2) U8<|Pw (fun _=>(jK _ g.m_ (cor c t 0) (cor c t 1) (cor c t 2) 23 dc_ dc_ (e 0) (e 1) (e 2))) U9<|Pw (fun _=>(gg _ g.m_ _ _ 189 dc_ dc_ (u _ _ (e _) (e _)) v s)) U9<|Pc 3 Z<|Py (_) U9 (fun _=>⟨by decide,by decide,Z⟩) U2<|Pg (j:=0) U12<|Pd [5,6,9,10,11,28] d Z<|O7 1 Z fun R d=>Py (_) U9 (fun _=>⟨by decide,by decide,Z⟩) U2<|Pe (.head _) U9<|Pn (rB _ g.m_ (wgt c t p 0) (q 0)) U7<|C4 5 [5,6,9,10,13,28] d Z<|C6 2 [5,6,9,10,13,28,64] Z<|O9 (fun L=>?_) fun L=>?_
     ·exact absurd L dc_
     ·refine Pb fun R d=>Pi _ U7<|C4 1 [5,6,9,10,28] d Z<|Pk (m':=2) om_ mup (hn_ [5,6,9,10,28] Z) ⟨1,by decide,Z,Z,Z⟩
    ·refine C6 2 [5,6,9,10,11,28] Z<|Pv [0,1,2,3,4,5,6,7,8,9,10,11,12,13,14,15,16,17,18,19,20,21,22,23,24,25] [(12,1),(19,1),(20,1)] Z kr_ fun R K d=>Pa U6<|O8 (PtrTo.block (Mem.get n mup) _) U8<|Pa U6<|Pi _ U7<|Qb U6 om_ om_ U2<|Py (_) U9 (fun _=>⟨by decide,by decide,Z⟩) U2<|O8 (bkT f 2) U8<|Pa U6<|Pi _ U7<|Qb U6 om_ om_ U2<|Py (_) U9 (fun _=>⟨by decide,by decide,Z⟩) U2<|O8 (bkT f 2) U8<|Pw (fun _=>(jK _ g.m_ p (cor c t ((1+1) % 3)) (cor c t ((1+2) % 3)) 23 dc_ dc_ l (e _) (e _))) U9<|Py (0) U9 (fun _=>⟨by decide,by decide,Z⟩) U2<|O8 (bkT f 2) U8<|Py (2) U9 (fun _=>⟨by decide,by decide,Z⟩) U2<|O8 (bkT f 2) U8<|Py (4) U9 (fun _=>⟨by decide,by decide,Z⟩) U2<|O8 (bkT f 2) U8<|Pw (fun _=>(jK _ g.m_ (cor c t 0) (cor c t 1) (cor c t 2) 23 dc_ dc_ (e 0) (e 1) (e 2))) U9<|Pw (fun _=>(gg _ g.m_ _ _ 189 dc_ dc_ (u _ _ (e _) (e _)) v s)) U9<|Pc 3 Z<|Py (_) U9 (fun _=>⟨by decide,by decide,Z⟩) U2<|Pg (j:=0) U12<|Pd [5,6,9,10,11,28] d Z<|O7 1 Z fun R d=>Py (_) U9 (fun _=>⟨by decide,by decide,Z⟩) U2<|Pe (.head _) U9<|Pn (rB _ g.m_ (wgt c t p 1) (q 1)) U7<|C4 5 [5,6,9,10,13,28] d Z<|C6 2 [5,6,9,10,13,28,64] Z<|O9 (fun M=>?_) fun M=>?_
     ·exact absurd M dc_
     ·refine Pb fun R d=>Pi _ U7<|C4 1 [5,6,9,10,28] d Z<|Pk (m':=1) om_ mup (hn_ [5,6,9,10,28] Z) ⟨2,by decide,Z,Z,Z⟩
    ·refine C6 2 [5,6,9,10,11,28] Z<|Pv [0,1,2,3,4,5,6,7,8,9,10,11,12,13,14,15,16,17,18,19,20,21,22,23,24,25] [(12,1),(19,1),(20,1)] Z kr_ fun R K d=>Pa U6<|O8 (PtrTo.block (Mem.get n mup) _) U8<|Pa U6<|Pi _ U7<|Qb U6 om_ om_ U2<|Py (_) U9 (fun _=>⟨by decide,by decide,Z⟩) U2<|O8 (bkT f 2) U8<|Pa U6<|Pi _ U7<|Qb U6 om_ om_ U2<|Py (_) U9 (fun _=>⟨by decide,by decide,Z⟩) U2<|O8 (bkT f 2) U8<|Pw (fun _=>(jK _ g.m_ p (cor c t ((2+1) % 3)) (cor c t ((2+2) % 3)) 23 dc_ dc_ l (e _) (e _))) U9<|Py (0) U9 (fun _=>⟨by decide,by decide,Z⟩) U2<|O8 (bkT f 2) U8<|Py (2) U9 (fun _=>⟨by decide,by decide,Z⟩) U2<|O8 (bkT f 2) U8<|Py (4) U9 (fun _=>⟨by decide,by decide,Z⟩) U2<|O8 (bkT f 2) U8<|Pw (fun _=>(jK _ g.m_ (cor c t 0) (cor c t 1) (cor c t 2) 23 dc_ dc_ (e 0) (e 1) (e 2))) U9<|Pw (fun _=>(gg _ g.m_ _ _ 189 dc_ dc_ (u _ _ (e _) (e _)) v s)) U9<|Pc 3 Z<|Py (_) U9 (fun _=>⟨by decide,by decide,Z⟩) U2<|Pg (j:=0) U12<|Pd [5,6,9,10,11,28] d Z<|O7 1 Z fun R d=>Py (_) U9 (fun _=>⟨by decide,by decide,Z⟩) U2<|Pe (.head _) U9<|Pn (rB _ g.m_ (wgt c t p 2) (q 2)) U7<|C4 5 [5,6,9,10,13,28] d Z<|C6 2 [5,6,9,10,13,28,64] Z<|O9 (fun N=>?_) fun N=>?_
     ·exact absurd N dc_
     ·refine Pb fun R d=>Pi _ U7<|C4 1 [5,6,9,10,28] d Z<|Pk (m':=0) om_ mup (hn_ [5,6,9,10,28] Z) ⟨3,by decide,Z,Z,Z⟩
   ·have J:j=3:=by
     simp only [Mf] at w;omega
    subst J;refine Pb fun R d=>Pe (.head _) U9<|Pg (j:=1) U12<|C4 1 [6,7] d Z<|Pl (Qh (.head _) U5 ?_);exact ⟨Z,Z⟩
theorem ce {f:α->List Value}{l:List α}{x:α}(h:l[i]?=some x):(l.map f)[i]?=some (f x):=by rw [LU,h];rfl
def zW (n:Nat)(l:List Str):Int:=if l.length=n then oW (l.all bd) else 5
theorem uO (C:Mem)(y:Tabs C)(z v A:Value)(b:List Pt)(f:List Tri)(l:List Str)(B:MeshIn C z b f)(D:Good b f)(g:Sl C 1 v [[A]])(k:Sl C 1 A (l.map lW))(N:∀ s∈l,s.length<=999998) :
  Gives cx.P 103 [z,v] C (.int .i64 (zW b.length l)):=by
 have E:=B;have Y:=D.ok.lp;obtain ⟨v1,v2,rfl,h1,h2⟩:=id B.ex;obtain ⟨A1,c1,rfl,aa,ab,_⟩:=id h1;obtain ⟨F,H,rfl,ac,ad,_⟩:=id g;obtain ⟨n,o,rfl,O,ae,_⟩:=id k;have af:maxLen<=9223372036854775807:=by simp [maxLen]
 simp only [ax,aE] at h1 g k E O ⊢;refine Ph func103 41 U3 fun w0=>Pb fun R a=>Pr U6 fun I=>C4 1 [1,2] a Z<|G.freeze 0 Z fun _ _ J=>Pb fun R a=>O8 (PtrTo.block (Mem.get J mup) _) U8<|Pn (iV _ y.m_ _ b f E.m_ D) U7<|C4 1 [1,2,5] a Z<|C6 2 [1,2,5,14] Z<|O9 (fun K=>?_) fun K=>?_
 ·exact absurd K dc_
 ·refine C6 3 [2,16,17,18] Z<|G.loop (fun fr C' p q=>∃ (i:Nat),(i<=1/\(i=1->l.length=b.length/\l.all bd=true))/\fr=[(2,[],.pointer (some ⟨I,0,none⟩)),(16,[],.slice F 1 H),(17,[],.int .i64 1),(18,[],.int .i64 i)]/\p=[]/\q=1-i) (hn_ [2,16,17,18] Z) ⟨0,⟨LV _,fun h=>absurd h dc_⟩,Z,Z,Z⟩ (fun fr ag ah m _ r=>?_);obtain ⟨i,⟨hi,Q⟩,rfl,rfl,rfl⟩:=r;refine C6 1 [2,16,17,18,19] Z<|O9 (fun t=>?_) fun t=>?_
  ·obtain rfl:i=0:=by
    simp only [LY] at t;omega
   refine Pb fun R a=>Pm g.m_ U10 om_ (rfl:([[.slice n l.length o]]:List (List Value))[0]?=some [.slice n l.length o]) fl_ fun ai S=>O8 S U8<|C4 1 [2,7,16,17,18] a Z<|O7 3 Z fun R a=>O8 (PtrTo.block (Mem.get J mup) _) U8<|C4 2 [2,7,16,17,18,27] a Z<|O9 (fun d=>?_) fun d=>?_
   ·have T:l.length≠b.length:=by
     intro e;rw [e] at d;simp at d
    exact C6 1 [4] Z<|Pf U2<|⟨by unfold zW;rw [aC T],Z⟩
   ·have L:l.length=b.length:=by
     have h:((l.length:Nat):Int)=(b.length:Nat):=by simpa using d
     omega
    refine C6 3 [2,16,17,18,28,29,30] Z<|G.loop (fun fr C' p q=>∃ (j:Nat),(j<=l.length/\(l.take j).all bd=true)/\fr=[(2,[],.pointer (some ⟨I,0,none⟩)),(16,[],.slice F 1 H),(17,[],.int .i64 1),(18,[],.int .i64 0),(28,[],.slice n l.length o),(29,[],.int .i64 l.length),(30,[],.int .i64 j)]/\p=[]/\q=l.length-j) (hn_ [2,16,17,18,28,29,30] Z) ⟨0,⟨LV _,by simp⟩,Z,Z,Z⟩ (fun fr ak al m U r=>?_);obtain ⟨j,⟨hj,u⟩,rfl,rfl,rfl⟩:=r;refine C6 1 [2,16,17,18,28,29,30,31] Z<|O9 (fun w=>?_) fun w=>?_
    ·have x:j<l.length:=by simpa using w
     obtain ⟨s,hs⟩:∃ s,l[j]?=some s:=⟨l[j],aj x⟩;refine Pb fun R a=>Pm k.m_ U10 om_ (ce hs) fl_ fun am V=>O8 V U8<|C4 1 [2,9,16,17,18,28,29,30] a Z<|O7 1 Z fun R a=>Pn (dq _ y.m_ s (N s (LQ hs))) U7<|C4 1 [2,10,16,17,18,28,29,30] a Z<|C6 2 [2,10,16,17,18,28,29,30,37] Z<|O9 (fun c=>?_) fun c=>?_
     ·have M:bd s=false:=by
       rcases fW (bd s) with ⟨h1,h2⟩ | ⟨h1,h2⟩
       ·rw [h1] at c;exact absurd c dc_
       ·exact h2
      refine C6 2 [4] Z<|Pf U2<|⟨?_,Z⟩;unfold zW;rw [aI L,M,show l.all bd=false from Ob.2 ⟨s,LQ hs,by rw [M];decide⟩]
     ·have W:bd s=true:=by
       rcases fW (bd s) with ⟨h1,h2⟩ | ⟨h1,h2⟩
       ·exact h2
       ·rw [h1] at c;exact absurd c dc_
      refine Pb fun R a=>Pi _ U7<|C4 1 [2,16,17,18,28,29,30] a Z<|Pk (m':=l.length-(j+1)) om_ U (hn_ [2,16,17,18,28,29,30] Z) ⟨j+1,⟨by omega,by rw [Mx,hs,OR,u];simp [W]⟩,Z,Z,Z⟩
    ·have x:j=l.length:=by
      have:¬ j<l.length:=by simpa using w
      omega
     refine Pb fun R a=>Pi _ U7<|C4 1 [2,16,17,18] a Z<|Pk (m':=0) om_ mup (hn_ [2,16,17,18] Z) ⟨1,⟨LP _,fun _=>⟨L,by rw [x,Mb] at u;exact u⟩⟩,Z,Z,Z⟩
  ·have X:i=1:=by
    simp only [Mf] at t;omega
   refine C6 1 [4] Z<|Pf U2<|⟨?_,Z⟩;obtain ⟨h3,h4⟩:=Q X;unfold zW;rw [aI h3,h4];rfl
theorem sn (C:Mem)(h:Tabs C)(e f:Value)(a:List Pt)(b:List Tri)(l:List Str)(g:MeshIn C e a b)(i:Good a b)(c:Sl C 1 f (l.map lW))(j:∀ s∈l,s.length<=999998) :
  Gives cx.P 67 [e,f] C (.int .i64 (zW a.length l)):=by
 have k:=g;obtain ⟨p,q,rfl,h1,h2⟩:=id g.ex;obtain ⟨m,n,rfl,r,t,_⟩:=id c;simp only [ax] at c ⊢;exact Ph func67 9 U3 fun w0=>Pb fun R d=>Pr U6 fun u=>C4 1 [1,2] d Z<|Pb fun R d=>Pe (.head _) U9<|Pa U6<|Ps [[.slice m l.length n]] U12 fun v _ _ o=>Pn (uO _ h.m_ _ _ _ a b l k.m_ i o.m_ c.m_ j) U7<|C4 1 [4] d Z<|Pf U2<|⟨Z,Z⟩
def fH (q:Rat):List Value:=[al (qtx q)]
def fz (fs:List Rat)(t:Tri)(j:Nat):Rat:=fs.getD (kR t j) 0
def wi (pts:List Pt)(fs:List Rat)(t:Tri)(j:Nat):List Value:=hU (cor pts t j)++fH (fz fs t j)
theorem DG (h:i<fs.length):fs[i]?=some (fs.getD i 0):=by
 rw [ak,aj h];rfl
theorem wb (C:Mem)(r s:Value)(b:List Pt)(l:List Tri)(c:List Rat)(z:MeshIn C r b l)(A:MeshOk b l)(e:Sl C 1 s (c.map fH))(n:c.length=b.length)(i:Nat)(t:Tri)(o:l[i]?=some t) :
  Gives cx.P 298 [r,s,.int .i64 i] C (.agg ⟨wi b c t 0++wi b c t 1++wi b c t 2⟩):=by
 have d:=A.ins t (LQ o);obtain ⟨M,N,rfl,h1,h2⟩:=id z.ex;obtain ⟨O,Q,rfl,B,S,_⟩:=id h1;obtain ⟨A2,c2,rfl,D,T,_⟩:=id h2;obtain ⟨E,F,rfl,U,V,_⟩:=id e;have W:maxLen<=9223372036854775807:=by simp [maxLen]
 simp only [ax] at h1 h2 e B D ⊢;have X:=(aX.1 o).1;refine Ph func298 32 U3 fun w0=>Pb fun R a=>Pr U6 fun H=>Pq U5 fun u=>Pd [1,2,3,6] a Z<|G.freeze 1 Z fun _ _ h=>O7 1 Z fun R a=>O8 (PtrTo.block (Mem.get h mup) _) U8<|Pa U6<|Pm h2.m_ U10 om_ (ce o) fl_ fun Y I=>O8 I U8<|C4 1 [1,3,6,13,14] a Z<|G.loop (fun fr C' J K=>∃ (j:Nat),(j<=3)/\fr=[(1,[],.slice E c.length F),(3,[],.pointer (some ⟨H,0,none⟩)),(6,[],.pointer (some ⟨u,0,none⟩)),(13,[],.agg ⟨jI t⟩),(14,[],.int .i64 j)]/\J=[.obj u (.cells ⟨(List.range 3).flatMap fun k=>if k<j then wi b c t k else [al [],al [],al []]⟩ 391 (0,0))]/\K=3-j) (hn_ [1,3,6,13,14] Z) ⟨0,LV _,Z,Z,Z⟩ (fun fr aa ab m p L=>?_);obtain ⟨j,hj,rfl,rfl,rfl⟩:=L;refine C6 1 [1,3,6,13,14,15] Z<|O9 (fun q=>?_) fun q=>?_
 ·have v:j<3:=by
   simp only [LY] at q;omega
  rcases (by omega:j=0∨j=1∨j=2) with rfl | rfl | rfl
  ·refine O7 1 Z fun R a=>PZ U11 (fun _=>⟨by decide,by decide,Z⟩) U2<|C4 2 [1,3,6,7,8,13,14] a Z<|Pv [0,1,2,3,4,5,6,7,8,9,10,11,12] [] Z kr_ fun R w a=>Pc 2 Z<|O8 (PtrTo.block (Mem.get h mup) _) U8<|Pa U6<|Pm h1.m_ U10 om_ (ce (nJ (eC d 0))) fl_ fun x f=>O8 f U8<|Pc 2 Z<|Pm e.m_ U10 om_ (ce (DG (n ▸ eC d 0))) fl_ fun y g=>O8 g U8<|PB (wi b c t 0) U8<|Py (_) U9 (fun _=>⟨by decide,by decide,Z⟩) U2<|Pg (j:=0) U12<|Pd [1,3,6,13,14] a Z<|Pb fun R a=>Pi _ U7<|C4 1 [1,3,6,13,14] a Z<|Pk (m':=2) om_ p (hn_ [1,3,6,13,14] Z) ⟨1,by decide,Z,Z,Z⟩
  ·refine O7 1 Z fun R a=>PZ U11 (fun _=>⟨by decide,by decide,Z⟩) U2<|C4 2 [1,3,6,7,8,13,14] a Z<|Pv [0,1,2,3,4,5,6,7,8,9,10,11,12] [] Z kr_ fun R w a=>Pc 2 Z<|O8 (PtrTo.block (Mem.get h mup) _) U8<|Pa U6<|Pm h1.m_ U10 om_ (ce (nJ (eC d 1))) fl_ fun x f=>O8 f U8<|Pc 2 Z<|Pm e.m_ U10 om_ (ce (DG (n ▸ eC d 1))) fl_ fun y g=>O8 g U8<|PB (wi b c t 1) U8<|Py (_) U9 (fun _=>⟨by decide,by decide,Z⟩) U2<|Pg (j:=0) U12<|Pd [1,3,6,13,14] a Z<|Pb fun R a=>Pi _ U7<|C4 1 [1,3,6,13,14] a Z<|Pk (m':=1) om_ p (hn_ [1,3,6,13,14] Z) ⟨2,by decide,Z,Z,Z⟩
  ·refine O7 1 Z fun R a=>PZ U11 (fun _=>⟨by decide,by decide,Z⟩) U2<|C4 2 [1,3,6,7,8,13,14] a Z<|Pv [0,1,2,3,4,5,6,7,8,9,10,11,12] [] Z kr_ fun R w a=>Pc 2 Z<|O8 (PtrTo.block (Mem.get h mup) _) U8<|Pa U6<|Pm h1.m_ U10 om_ (ce (nJ (eC d 2))) fl_ fun x f=>O8 f U8<|Pc 2 Z<|Pm e.m_ U10 om_ (ce (DG (n ▸ eC d 2))) fl_ fun y g=>O8 g U8<|PB (wi b c t 2) U8<|Py (_) U9 (fun _=>⟨by decide,by decide,Z⟩) U2<|Pg (j:=0) U12<|Pd [1,3,6,13,14] a Z<|Pb fun R a=>Pi _ U7<|C4 1 [1,3,6,13,14] a Z<|Pk (m':=0) om_ p (hn_ [1,3,6,13,14] Z) ⟨3,by decide,Z,Z,Z⟩
 ·have v:j=3:=by
   simp only [Mf] at q;omega
  subst v;refine Pb fun R a=>Pe (.head _) U9<|Pg (j:=0) U12<|Pd [6] a Z<|Pl (PW (.head _) U4 ?_);exact ⟨Z,Z⟩
/-! Finer bounds. -/
theorem ly (c:QB k a)(d:QB m b):QB (k+m) (a*b):=by
 rw [fP];refine gp (Nat.mul_ne_zero a.den_nz b.den_nz) ?_ ?_
 ·rw [Nr,On];exact NE c.1 d.1
 ·rw [On];exact NE c.2 d.2
theorem sQ (c:QB k a)(d:QB m b):QB (k+m+1) (a+b):=by
 rw [iO];have e:B9 ^ (k+m+1)=B9 ^ k*B9 ^ m*B9:=by rw [M7,On]
 have f:(a.num*b.den).natAbs<B9 ^ k*B9 ^ m:=by rw [Nr,MT];exact NE c.1 d.2
 have g:(b.num*a.den).natAbs<B9 ^ k*B9 ^ m:=by rw [Nr,MT,ML];exact NE c.2 d.1
 have h:a.den*b.den<B9 ^ k*B9 ^ m:=NE c.2 d.2;have i:2*(B9 ^ k*B9 ^ m)<=B9 ^ k*B9 ^ m*B9:=by
  rw [ML];exact NH _ dc_
 refine gp (Nat.mul_ne_zero a.den_nz b.den_nz) ?_ ?_
 ·rw [e];have:=Oc (a.num*b.den) (b.num*a.den);omega
 ·rw [e];omega
theorem fj (c:QB k a)(d:QB m b):QB (k+m+1) (a-b):=by
 rw [O1];exact sQ c (fk d)
theorem QB_one:QB 1 1:=⟨by decide,by decide⟩
theorem QB_zero:QB 1 0:=⟨by decide,by decide⟩
def eX (a b c d:Rat):Rat:=a*d-b*c
theorem ox (C:Mem)(e:Tabs C)(a b c d:Rat)(k:Nat)(f:0<k)(m:k<=2000)(g:QB k a)(h:QB k b)(i:QB k c)(j:QB k d):Gives cx.P 299 [al (qtx a),al (qtx b),al (qtx c),al (qtx d)] C (al (qtx (eX a b c d))):=by
 exact Ph func299 16 U3 fun w0=>C6 1 [0,1,2,3] Z<|O7 2 Z fun R l=>Pp (dm _ e.m_ a d k f om_ g j) U7 fl_<|Pc 2 Z<|Pp (dm _ e.m_ b c k f om_ h i) U7 fl_<|Pp (dB _ e.m_ (a*d) (b*c) (k+k) om_ om_ (oT g j) (oT h i)) U7 fl_<|C4 1 [8] l Z<|Pf U2<|⟨Z,Z⟩
theorem jf {d:Rat}(e:QB k a)(f:QB k b)(g:QB k c)(h:QB k d):QB (4*k+1) (eX a b c d):=(fj (ly e h) (ly f g)).le om_
def JV (c0 c1 c2:Pt)(z0 z1 z2:Rat):Pt :=
 ((1 / eX (c1.1-c0.1) (c1.2-c0.2) (c2.1-c0.1) (c2.2-c0.2))*eX (z1-z0) (c1.2-c0.2) (z2-z0) (c2.2-c0.2),
 (1 / eX (c1.1-c0.1) (c1.2-c0.2) (c2.1-c0.1) (c2.2-c0.2))*eX (c1.1-c0.1) (z1-z0) (c2.1-c0.1) (z2-z0))
def dH (pts:List Pt)(fs:List Rat)(t:Tri):Pt:=JV (cor pts t 0) (cor pts t 1) (cor pts t 2) (fz fs t 0) (fz fs t 1) (fz fs t 2)
theorem I0 (a:MeshOk pts tris)(b:fs.length=pts.length)(c:∀ q∈fs,QB k q)(d:t∈tris)(j:Nat):QB k (fz fs t j) :=
 c _ (LQ (DG (b ▸ eC (a.ins t d) j)))
theorem tD (d:MeshOk pts tris)(g:fs.length=pts.length)(h:∀ q∈fs,QB k q)(e:t∈tris):QP (8*k+39) (dH pts fs t):=by
 have a:=fun j=>lM d e j;have f:=fun j=>I0 d g h e j;have b:∀ i j,QB 3 ((cor pts t i).1-(cor pts t j).1):=fun i j=>(fj (a i).1 (a j).1).le dc_;have hy:∀ i j,QB 3 ((cor pts t i).2-(cor pts t j).2):=fun i j=>(fj (a i).2 (a j).2).le dc_;have c:∀ i j,QB (2*k+1) (fz fs t i-fz fs t j):=fun i j=>(fj (f i) (f j)).le om_;have hm:QB 13 (eX ((cor pts t 1).1-(cor pts t 0).1) ((cor pts t 1).2-(cor pts t 0).2) ((cor pts t 2).1-(cor pts t 0).1) ((cor pts t 2).2-(cor pts t 0).2)):=(jf (k:=3) (b 1 0) (hy 1 0) (b 2 0) (hy 2 0)).le dc_;have l:eX ((cor pts t 1).1-(cor pts t 0).1) ((cor pts t 1).2-(cor pts t 0).2) ((cor pts t 2).1-(cor pts t 0).1) ((cor pts t 2).2-(cor pts t 0).2)≠0:=mC d e;have h1:QB 26 _:=(kI (k:=13) (QB_one.le dc_) hm l).le dc_;have m:QB (4*(2*k+3)+1) (eX (fz fs t 1-fz fs t 0) ((cor pts t 1).2-(cor pts t 0).2) (fz fs t 2-fz fs t 0) ((cor pts t 2).2-(cor pts t 0).2)):=jf (k:=2*k+3) ((c 1 0).le om_) ((hy 1 0).le om_) ((c 2 0).le om_) ((hy 2 0).le om_);have n:QB (4*(2*k+3)+1) (eX ((cor pts t 1).1-(cor pts t 0).1) (fz fs t 1-fz fs t 0) ((cor pts t 2).1-(cor pts t 0).1) (fz fs t 2-fz fs t 0)):=jf (k:=2*k+3) ((b 1 0).le om_) ((c 1 0).le om_) ((b 2 0).le om_) ((c 2 0).le om_);exact ⟨(ly h1 m).le om_,(ly h1 n).le om_⟩
theorem uA (C:Mem)(d:Tabs C)(r s:Value)(a:List Pt)(n:List Tri)(b:List Rat)(k:Nat)(u:0<k)(K:k<=100)(v:MeshIn C r a n)(o:MeshOk a n)(D:Sl C 1 s (b.map fH))(w:b.length=a.length)(E:∀ q∈b,QB k q)(i:Nat)(t:Tri)(x:n[i]?=some t) :
  Gives cx.P 276 [r,s,.int .i64 i] C (ptV (dH a b t)):=by
 have p:=LQ x;have F:=v;obtain ⟨L,M,rfl,h1,h2⟩:=id v.ex;have e:=fun j=>lM o p j;have m:=fun j=>I0 o w E p j;have g:∀ i j,QB 3 ((cor a t i).1-(cor a t j).1):=fun i j=>(fj (e i).1 (e j).1).le dc_;have hy:∀ i j,QB 3 ((cor a t i).2-(cor a t j).2):=fun i j=>(fj (e i).2 (e j).2).le dc_;have l:∀ i j,QB (2*k+1) (fz b t i-fz b t j):=fun i j=>(fj (m i) (m j)).le om_;have y:QB 13 (eX ((cor a t 1).1-(cor a t 0).1) ((cor a t 1).2-(cor a t 0).2) ((cor a t 2).1-(cor a t 0).1) ((cor a t 2).2-(cor a t 0).2)):=(jf (k:=3) (g 1 0) (hy 1 0) (g 2 0) (hy 2 0)).le dc_;have z:eX ((cor a t 1).1-(cor a t 0).1) ((cor a t 1).2-(cor a t 0).2) ((cor a t 2).1-(cor a t 0).1) ((cor a t 2).2-(cor a t 0).2)≠0:=mC o p;have A:QB 26 (1 / eX ((cor a t 1).1-(cor a t 0).1) ((cor a t 1).2-(cor a t 0).2) ((cor a t 2).1-(cor a t 0).1) ((cor a t 2).2-(cor a t 0).2)):=(kI (k:=13) (QB_one.le dc_) y z).le dc_;have H:QB (8*k+26) (eX (fz b t 1-fz b t 0) ((cor a t 1).2-(cor a t 0).2) (fz b t 2-fz b t 0) ((cor a t 2).2-(cor a t 0).2)):=(jf (k:=2*k+3) ((l 1 0).le om_) ((hy 1 0).le om_) ((l 2 0).le om_) ((hy 2 0).le om_)).le om_;have I:QB (8*k+26) (eX ((cor a t 1).1-(cor a t 0).1) (fz b t 1-fz b t 0) ((cor a t 2).1-(cor a t 0).1) (fz b t 2-fz b t 0)):=(jf (k:=2*k+3) ((g 1 0).le om_) ((l 1 0).le om_) ((g 2 0).le om_) ((l 2 0).le om_)).le om_;refine Ph func276 98 U3 fun w0=>Pb fun R c=>Pr U6 fun N=>Pq U5 fun O=>Pd [1,2,3,6] c Z<|Pb fun R c=>Pe (.tail _ (.head _)) U9<|Pc 2 Z<|Pn (wb _ _ _ a n b F.m_ o D.m_ w i t x) U7<|Pq U5 fun Q=>Pg (j:=0) U12<|Pd [6,7] c Z<|G.freeze 0 Z fun J _ f=>Pv [0,1,2,3,4,5,6,7,8,9,10,11,12,13,14,15,16,17,18,19] [(8,1),(17,1)] Z kr_ fun R B c=>Py (3) U9 (fun _=>⟨by decide,by decide,Z⟩) U2<|Pc 2 Z<|O8 (bkT f 1) U8<|Py (0) U9 (fun _=>⟨by decide,by decide,Z⟩) U2<|Pc 2 Z<|O8 (bkT f 1) U8<|Pw (fun _=>(dB _ d.m_ (cor a t 1).1 (cor a t 0).1 1 dc_ dc_ (e 1).1 (e 0).1)) U9<|Py (3) U9 (fun _=>⟨by decide,by decide,Z⟩) U2<|Pc 2 Z<|O8 (bkT f 1) U8<|Py (0) U9 (fun _=>⟨by decide,by decide,Z⟩) U2<|Pc 2 Z<|O8 (bkT f 1) U8<|Pw (fun _=>(dB _ d.m_ (cor a t 1).2 (cor a t 0).2 1 dc_ dc_ (e 1).2 (e 0).2)) U9<|C4 2 [6,7,8,9] c Z<|Pv [0,1,2,3,4,5,6,7,8,9,10,11,12,13,14,15,16,17,18,19] [(8,1),(17,1)] Z kr_ fun R B c=>Py (6) U9 (fun _=>⟨by decide,by decide,Z⟩) U2<|Pc 2 Z<|O8 (bkT f 1) U8<|Py (0) U9 (fun _=>⟨by decide,by decide,Z⟩) U2<|Pc 2 Z<|O8 (bkT f 1) U8<|Pw (fun _=>(dB _ d.m_ (cor a t 2).1 (cor a t 0).1 1 dc_ dc_ (e 2).1 (e 0).1)) U9<|Py (6) U9 (fun _=>⟨by decide,by decide,Z⟩) U2<|Pc 2 Z<|O8 (bkT f 1) U8<|Py (0) U9 (fun _=>⟨by decide,by decide,Z⟩) U2<|Pc 2 Z<|O8 (bkT f 1) U8<|Pw (fun _=>(dB _ d.m_ (cor a t 2).2 (cor a t 0).2 1 dc_ dc_ (e 2).2 (e 0).2)) U9<|C4 2 [6,7,8,9,10,11] c Z<|Pv [0,1,2,3,4,5,6,7,8,9,10,11,12,13,14,15] [(6,1),(13,1)] Z kr_ fun R B c=>Py (3) U9 (fun _=>⟨by decide,by decide,Z⟩) U2<|Pa U6<|O8 (bkT f 1) U8<|Py (0) U9 (fun _=>⟨by decide,by decide,Z⟩) U2<|Pa U6<|O8 (bkT f 1) U8<|Pw (fun _=>(dB _ d.m_ (fz b t 1) (fz b t 0) k u om_ (m 1) (m 0))) U9<|Py (6) U9 (fun _=>⟨by decide,by decide,Z⟩) U2<|Pa U6<|O8 (bkT f 1) U8<|Py (0) U9 (fun _=>⟨by decide,by decide,Z⟩) U2<|Pa U6<|O8 (bkT f 1) U8<|Pw (fun _=>(dB _ d.m_ (fz b t 2) (fz b t 0) k u om_ (m 2) (m 0))) U9<|C4 2 [6,8,9,10,11,12,13] c Z<|C6 1 [6,8,9,10,11,12,13,14] Z<|O7 5 Z fun R c=>Pp (ox _ d.m_ _ _ _ _ 3 dc_ dc_ (g 1 0) (hy 1 0) (g 2 0) (hy 2 0)) U7 fl_<|Pp (by have h:=gg J d.m_ 1 _ 13 dc_ dc_ (QB_one.le dc_) y z;rw [dp] at h;exact h) U7 fl_<|C4 5 [6,8,9,10,11,12,13,14,15] c Z<|O7 6 Z fun R c=>Pp (ox _ d.m_ (fz b t 1-fz b t 0) ((cor a t 1).2-(cor a t 0).2) (fz b t 2-fz b t 0) ((cor a t 2).2-(cor a t 0).2) (2*k+3) om_ om_ ((l 1 0).le om_) ((hy 1 0).le om_) ((l 2 0).le om_) ((hy 2 0).le om_)) U7 fl_<|Pp (dm _ d.m_ _ _ (8*k+26) om_ om_ (A.le om_) H) U7 fl_<|Pc 6 Z<|Pp (ox _ d.m_ ((cor a t 1).1-(cor a t 0).1) (fz b t 1-fz b t 0) ((cor a t 2).1-(cor a t 0).1) (fz b t 2-fz b t 0) (2*k+3) om_ om_ ((g 1 0).le om_) ((l 1 0).le om_) ((g 2 0).le om_) ((l 2 0).le om_)) U7 fl_<|Pp (dm _ d.m_ _ _ (8*k+26) om_ om_ (A.le om_) I) U7 fl_<|PB (hU (dH a b t)) U8<|Pg (j:=0) U12<|Pd [6] c Z<|Pl (PW (.head _) U4 ?_);exact ⟨Z,Z⟩
def E2 (l:List Rat):Rat:=l.foldl (·+·) 0
theorem BB (l:List Rat)(q:Rat):E2 (l++[q])=E2 l+q:=by unfold E2;rw [List.foldl_append];rfl
theorem Ib (C:Mem)(g:Tabs C)(v:Value)(l:List Rat)(k:Nat)(h:0<k)(j:k<=10000)(b:Sl C 1 v (l.map fH))(n:∀ q∈l,QB k q)(o:∀ i,QB k (E2 (l.take i))) :
  Gives cx.P 312 [v] C (al (qtx (E2 l))):=by
 obtain ⟨p,c0,rfl,r,z,_⟩:=id b;have A:maxLen<=9223372036854775807:=by simp [maxLen]
 simp only [ax] at b r ⊢;refine Ph func312 17 U3 fun w0=>C6 1 [0] Z<|C6 1 [0,3] Z<|C6 3 [3,6,7,8] Z<|G.loop (fun fr C' t u=>∃ (i:Nat)(s:Str),(i<=l.length/\s=qtx (E2 (l.take i)))/\fr=[(3,[],al s),(6,[],.slice p l.length c0),(7,[],.int .i64 l.length),(8,[],.int .i64 i)]/\t=[]/\u=l.length-i) (hn_ [3,6,7,8] Z) ⟨0,[48],⟨LV _,qtx_zero.symm⟩,Z,Z,Z⟩ (fun fr B D m w x=>?_);obtain ⟨i,s,⟨E,f⟩,rfl,rfl,rfl⟩:=x;refine C6 1 [3,6,7,8,9] Z<|O9 (fun c=>?_) fun c=>?_
 ·have d:i<l.length:=by simpa using c
  obtain ⟨q,e⟩:∃ q,l[i]?=some q:=⟨l[i],aj d⟩;subst f;refine Pb fun R a=>Pm b.m_ U10 om_ (ce e) fl_ fun F y=>O8 y U8<|C4 1 [3,5,6,7,8] a Z<|O7 2 Z fun R a=>Pn (kX _ g.m_ (E2 (l.take i)) q k h j (o i) (n q (LQ e))) U7<|C4 1 [3,6,7,8] a Z<|Pb fun R a=>Pi _ U7<|C4 1 [3,6,7,8] a Z<|Pk (m':=l.length-(i+1)) om_ w (hn_ [3,6,7,8] Z) ⟨i+1,_,⟨by omega,by rw [Mx,e,Nv,BB]⟩,Z,Z,Z⟩
 ·have d:i=l.length:=by
   have:¬ i<l.length:=by simpa using c
   omega
  exact C6 2 [2] Z<|Pf U2<|⟨by rw [f,d,Mb],Z⟩
def zG (q:Rat):Value:=if bd (qtx q) then .tuple #[al (qtx q),.int .i64 0] else .tuple #[al [],.int .i64 4]
theorem DH (C:Mem)(b:Tabs C)(q:Rat)(c:(qtx q).length<=999998):Gives cx.P 296 [al (qtx q)] C (zG q):=by
 refine Ph func296 8 U3 fun w0=>C6 2 [0] Z<|O7 1 Z fun R d=>Pn (dq _ b.m_ _ c) U7<|C4 1 [0,6] d Z<|O9 (fun a=>?_) fun a=>?_
 ·have e:bd (qtx q)=false:=by
   rcases fW (bd (qtx q)) with ⟨h1,h2⟩ | ⟨h1,h2⟩
   ·rw [h1] at a;exact absurd a dc_
   ·exact h2
  refine C6 2 [2,3] Z<|Pl (G.dropAll (PE U3 ?_));exact ⟨by unfold zG;rw [e];rfl,Z⟩
 ·have f:bd (qtx q)=true:=by
   rcases fW (bd (qtx q)) with ⟨h1,h2⟩ | ⟨h1,h2⟩
   ·exact h2
   ·rw [h1] at a;exact absurd a dc_
  refine C6 3 [2,3] Z<|Pl (G.dropAll (PE U3 ?_));exact ⟨by unfold zG;rw [f];rfl,Z⟩
def onQ (pts:List Pt)(fs:List Rat)(t:Tri)(p:Pt):Rat:=E2 [fz fs t 0,(dH pts fs t).1*(p.1-(cor pts t 0).1),(dH pts fs t).2*(p.2-(cor pts t 0).2)]
theorem Hr (n:k<=23)(a:MeshOk pts tris)(c:fs.length=pts.length)(d:∀ q∈fs,QB k q)(b:t∈tris)(e:QP 23 p):QB 600 (onQ pts fs t p)/\(∀ i,QB 600 (E2 ([fz fs t 0,(dH pts fs t).1*(p.1-(cor pts t 0).1),(dH pts fs t).2*(p.2-(cor pts t 0).2)].take i)))/\QB 600 (fz fs t 0)/\QB 600 ((dH pts fs t).1*(p.1-(cor pts t 0).1))/\QB 600 ((dH pts fs t).2*(p.2-(cor pts t 0).2)):=by
 have hs:=tD a c d b;have f:=lM a b 0;have g:=I0 a c d b 0;have h1:QB 248 ((dH pts fs t).1*(p.1-(cor pts t 0).1)):=(ly hs.1 (fj e.1 f.1)).le om_;have h2:QB 248 ((dH pts fs t).2*(p.2-(cor pts t 0).2)):=(ly hs.2 (fj e.2 f.2)).le om_;have h:QB 25 (0+fz fs t 0):=(sQ QB_zero g).le om_;have j:QB 274 (0+fz fs t 0+(dH pts fs t).1*(p.1-(cor pts t 0).1)):=(sQ h h1).le om_;have l:QB 523 (0+fz fs t 0+(dH pts fs t).1*(p.1-(cor pts t 0).1)+(dH pts fs t).2*(p.2-(cor pts t 0).2)):=(sQ j h2).le om_;refine ⟨l.le dc_,fun i=>?_,g.le om_,h1.le dc_,h2.le dc_⟩;rcases (by omega:i=0∨i=1∨i=2∨3<=i) with rfl | rfl | rfl | m
 ·exact QB_zero.le dc_
 ·exact h.le dc_
 ·exact j.le dc_
 ·rw [MZ (by simpa using m)];exact l.le dc_
theorem HW (e:QB k a)(f:QB k b)(g:QB k c):∀ q∈[a,b,c],QB k q:=by
 intro q d;simp only [Ma,M3,Ol] at d;rcases d with rfl | rfl | rfl <;> assumption
theorem Lq (C:Mem)(d:Tabs C)(u v:Value)(a:List Pt)(g:List Tri)(c:List Rat)(k:Nat)(E:0<k)(F:k<=23)(w:MeshIn C u a g)(e:MeshOk a g)(h:Sl C 1 v (c.map fH))(l:c.length=a.length)(r:∀ q∈c,QB k q)(i:Nat)(t:Tri)(m:g[i]?=some t)(p:Pt)(f:QP 23 p) :
  Gives cx.P 297 [u,v,.int .i64 i,ptV p] C (al (qtx (onQ a c t p))):=by
 have n:=LQ m;have x:=e.ins t n;have y:=w;have z:=h;obtain ⟨X,Y,rfl,h1,h2⟩:=id w.ex;obtain ⟨A1,c1,rfl,H,aa,_⟩:=id h1;obtain ⟨A2,c2,rfl,I,ab,_⟩:=id h2;obtain ⟨A4,c4,rfl,ac,ad,_⟩:=id h;have ae:maxLen<=9223372036854775807:=by simp [maxLen]
 simp only [ax] at h1 h2 h z y H I ⊢;have af:=(aX.1 m).1;have o:=lM e n 0;obtain ⟨ag,J,K,L,M⟩:=Hr F e l r n f;have hs:=tD e l r n;have N:QB 25 (p.1-(cor a t 0).1):=(fj f.1 o.1).le dc_;have O:QB 25 (p.2-(cor a t 0).2):=(fj f.2 o.2).le dc_;refine Ph func297 49 U3 fun w0=>Pb fun R b=>Pr U6 fun b4=>Pr U6 fun b7=>C4 1 [1,2,4,7] b Z<|G.freeze 1 Z fun _ _ s=>Pb fun R b=>O8 (PtrTo.block (Mem.get s mup) _) U8<|Pc 2 Z<|Pp (uA _ d.m_ _ _ a g c k E om_ y.m_ e z.m_ l r i t m) U7 fl_<|Pq U5 fun b9=>Pg (j:=0) U12<|Pd [1,2,4,7,9] b Z<|O7 1 Z fun R b=>O8 (PtrTo.block (Mem.get s mup) _) U8<|Pa U6<|Pm h2.m_ U10 om_ (ce m) fl_ fun ah Q=>Rk Z Z Z Z Z Z Z Z Z (fun _=>Q) (fun _=>⟨by omega,om_⟩) fl_ Z (fun ai S=>?_);have T:=S trivial;exact O8 T U8<|C4 1 [1,4,7,9,10] b Z<|O7 1 Z fun R b=>O8 (PtrTo.block (Mem.get s mup) _) U8<|Pa U6<|Pm h1.m_ U10 om_ (ce (nJ x.1)) fl_ fun aj U=>O8 U U8<|Pq U5 fun ak=>Pg (j:=0) U12<|Pd [1,7,9,10,11] b Z<|G.freeze 0 Z fun _ _ A=>G.freeze 0 Z fun _ _ B=>G.freeze 0 Z fun _ _ D=>Pv [0,1,2,3,4,5,6,7,8,9,10,11,12,13,14,15,16,17,18,19,20,21,22] [(10,1),(11,1),(18,1),(19,1),(21,1)] Z kr_ fun R hB b=>Pc 2 Z<|Pm h.m_ U10 om_ (ce (DG (l ▸ x.1))) fl_ fun am V=>O8 V U8<|Pa U6<|O8 (bkT B 1) U8<|Pa U6<|O8 (bkT D 1) U8<|Pa U6<|O8 (bkT A 1) U8<|Pw (fun _=>(dB _ d.m_ p.1 (cor a t 0).1 23 dc_ dc_ f.1 (o.1.le dc_))) U9<|Pw (fun _=>(dm _ d.m_ _ _ 300 dc_ dc_ (hs.1.le om_) (N.le dc_))) U9<|Pa U6<|O8 (bkT B 1) U8<|Pa U6<|O8 (bkT D 1) U8<|Pa U6<|O8 (bkT A 1) U8<|Pw (fun _=>(dB _ d.m_ p.2 (cor a t 0).2 23 dc_ dc_ f.2 (o.2.le dc_))) U9<|Pw (fun _=>(dm _ d.m_ _ _ 300 dc_ dc_ (hs.2.le om_) (O.le dc_))) U9<|Ps ([fz c t 0,(dH a c t).1*(p.1-(cor a t 0).1),(dH a c t).2*(p.2-(cor a t 0).2)].map fH) U12 fun an _ _ W=>Pw (fun _=>(Ib _ d.m_ _ _ 600 dc_ dc_ W.m_ (HW K L M) J)) U9<|C4 1 [8] b Z<|Pf U2<|⟨Z,Z⟩
def Bo (pts:List Pt)(tris:List Tri)(fs:List Rat)(p:Pt):Value:=match rY pts tris p with
 | []=>.tuple #[al [],.int .i64 28]
 | i::_=>zG (onQ pts fs (tris.getD i (0,0,0)) p)
theorem Et (h:∀ q∈fs,bd (qtx q)=true):(fs.map qtx).all bd=true:=by
 rw [Mg];intro s hs;obtain ⟨q,a,rfl⟩:=L4.1 hs;exact h q a
theorem DL (a:List Rat):a.map fH=(a.map qtx).map lW:=by rw [ME];rfl
theorem Ch (b:k<=100)(h:∀ q∈fs,QB k q):∀ s∈fs.map qtx,s.length<=999998:=by
 intro s hs;obtain ⟨q,a,rfl⟩:=L4.1 hs;have:=bE ((h q a).le (N4 k)) om_;omega
theorem uN (C:Mem)(i:Tabs C)(c v d:Value)(b:List Pt)(f:List Tri)(a:List Rat)(j:MeshIn C c b f)(l:Good b f)(m:Sl C 1 v [[d]])(g:Sl C 1 d (a.map fH))(n:a.length=b.length)(r:k<=23)(o:∀ q∈a,QB k q)(p:∀ q∈a,bd (qtx q)=true) :
  Gives cx.P 103 [c,v] C (.int .i64 0):=by
 rw [DL] at g;have h:=uO C i c v d b f (a.map qtx) j l m g (Ch om_ o);have e:zW b.length (a.map qtx)=0:=by unfold zW;rw [aI (by simpa using n),Et p];rfl
 rwa [e] at h
theorem Kt (h:i∈rY pts tris p):∃ t,tris[i]?=some t/\tris.getD i (0,0,0)=t/\vR pts p t=true:=by
 unfold rY at h;rw [NP,Me] at h;obtain ⟨h1,h2⟩:=h;obtain ⟨t,a⟩:∃ t,tris[i]?=some t:=⟨tris[i],aj h1⟩;have b:tris.getD i (0,0,0)=t:=by rw [ak,a,M9]
 rw [b] at h2;exact ⟨t,a,b,h2⟩
theorem Kh (h:QB 600 q):(qtx q).length<=999998:=Md (bE h dc_) dc_
theorem EQ (C:Mem)(e:Tabs C)(x y:Value)(a:List Pt)(c:List Tri)(b:List Rat)(k:Nat)(I:0<k)(j:k<=23)(z:MeshIn C x a c)(l:Good a c)(f:Sl C 1 y (b.map fH))(m:b.length=a.length)(n:∀ q∈b,QB k q)(J:∀ q∈b,bd (qtx q)=true)(p:Pt)(o:QP 23 p)(K:PtR p) :
  Gives cx.P 275 [x,y,ptV p] C (Bo a c b p):=by
 have A:=l.ok;have s:=z;obtain ⟨X,Y,rfl,h1,h2⟩:=id z.ex;obtain ⟨L,M,rfl,aa,ab,_⟩:=id f;simp only [ax] at f ⊢;have ac:maxLen<=9223372036854775807:=by simp [maxLen]
 refine Ph func275 40 U3 fun w0=>Pb fun R d=>Pr U6 fun b3=>Pr U6 fun b5=>C4 2 [1,3,5] d Z<|G.freeze 1 Z fun _ _ u=>G.freeze 0 Z fun _ _ B=>Pb fun R d=>O8 (PtrTo.block (Mem.get u mup) _) U8<|Pa U6<|Ps [[.slice L b.length M]] U12 fun ad _ _ N=>Pn (uN _ e.m_ _ _ _ a c b s.m_ l N.m_ f.m_ m j n J) U7<|C4 1 [1,3,5,8] d Z<|C6 2 [1,3,5,8,16] Z<|O9 (fun D=>?_) fun D=>?_
 ·exact absurd D dc_
 ·refine Pb fun R d=>O8 (PtrTo.block (Mem.get u mup) _) U8<|O8 (PtrTo.block (Mem.get B mup) _) U8<|PK (od _ e.m_ _ a c p s.m_ l o K) U7 (fun ae _ _ O=>?_);obtain ⟨wv,rfl,v⟩:=O;obtain ⟨Aw,cw,E,_⟩:=id v;rw [ax] at E;subst E;refine C4 5 [1,3,5,9,10] d Z<|C6 2 [1,3,5,9,10,25] Z<|O9 (fun F=>?_) fun F=>?_
  ·exact absurd F dc_
  ·refine C6 3 [1,3,5,9,29] Z<|O9 (fun g=>?_) fun g=>?_
   ·have Q:rY a c p=[]:=by
     have h:(((rY a c p).length:Nat):Int)=0:=by simpa using g
     exact MA om_
    refine C6 2 [6,7] Z<|Pl (G.dropAll (PE U3 ?_));exact ⟨by unfold Bo;rw [Q];rfl,Z⟩
   ·obtain ⟨i,r,w⟩:∃ i r,rY a c p=i::r:=by
     cases S:rY a c p with
     | nil=>rw [S] at g;exact absurd g dc_
     | cons i r=>exact ⟨i,r,rfl⟩
    obtain ⟨t,H,T,_⟩:=Kt (pts:=a) (tris:=c) (p:=p) (i:=i) (by rw [w];simp);have U:=Hr j A m n (LQ H) o;have V:Bo a c b p=zG (onQ a b t p):=by unfold Bo;rw [w];show zG (onQ a b (c.getD i (0,0,0)) p)=_;rw [T]
    rw [w] at v ⊢;refine Pv [0,1,2,3,4,5,6,7,8,9,10,11] [(6,1),(7,1)] Z kr_ fun R hB d=>O8 (PtrTo.block (Mem.get u mup) _) U8<|Pc 2 Z<|Pm v.m_ U10 om_ (rfl:(List.map aU (i::r))[0]?=some (aU i)) fl_ fun af W=>O8 W U8<|O8 (PtrTo.block (Mem.get B mup) _) U8<|PH (fun _=>(Lq _ e.m_ _ _ a c b k I j s.m_ A f.m_ m n i t H p o)) U9<|PH (fun _=>(DH _ e.m_ _ (Kh U.1))) U9 ?_;rw [show zG (onQ a b t p)=.tuple #[if bd (qtx (onQ a b t p)) then al (qtx (onQ a b t p)) else al [],.int .i64 (if bd (qtx (onQ a b t p)) then 0 else 4)] by unfold zG;split <;> rfl];refine C4 4 [6,7] d Z<|Pl (G.dropAll (PE U3 ?_));refine ⟨?_,Z⟩;rw [V];unfold zG;split <;> rfl
theorem J8 (h:QP 22 p):PtR p:=⟨bx h.1,bx h.2⟩
theorem ry (C:Mem)(f:Tabs C)(l m:Value)(c:List Pt)(d:List Tri)(b:List Rat)(k:Nat)(z:0<k)(A:k<=23)(n:MeshIn C l c d)(o:Good c d)(e:Sl C 1 m (b.map fH))(p:b.length=c.length)(r:∀ q∈b,QB k q)(B:∀ q∈b,bd (qtx q)=true)(i:Nat)(t:Tri)(s:d[i]?=some t)(u:QP 22 (dH c b t)) :
  Gives cx.P 244 [l,m,.int .i64 i] C (.tuple #[ptV (dH c b t),.int .i64 0]):=by
 have D:=o.ok;have g:=n;have I:=(aX.1 s).1;obtain ⟨J,K,rfl,h1,h2⟩:=id n.ex;obtain ⟨A2,c2,rfl,L,M,_⟩:=id h2;obtain ⟨E,F,rfl,N,O,_⟩:=id e;simp only [ax] at e h2 g ⊢;have Q:maxLen<=9223372036854775807:=by simp [maxLen]
 refine Ph func244 37 U3 fun w0=>Pb fun R a=>Pr U6 fun S=>Pq U5 fun T=>C4 1 [1,2,3,6] a Z<|G.freeze 1 Z fun _ _ h=>Pb fun R a=>O8 (PtrTo.block (Mem.get h mup) _) U8<|Pa U6<|Ps [[.slice E b.length F]] U12 fun U _ _ H=>Pn (uN _ f.m_ _ _ _ c d b g.m_ o H.m_ e.m_ p A r B) U7<|C4 1 [1,2,3,6,8] a Z<|C6 2 [1,2,3,6,8,15] Z<|O9 (fun v=>?_) fun v=>?_
 ·exact absurd v dc_
 ·refine O7 5 Z fun R a=>PC U6 (fun _=>PtrTo.block (Mem.get h mup) _) U3<|Pc 2 Z<|PD U8<|Pd [1,2,3,6,26] a Z<|O9 (fun w=>?_) fun w=>?_
  ·exfalso;simp only [Nl,LY] at w;omega
  ·refine Pb fun R a=>O8 (PtrTo.block (Mem.get h mup) _) U8<|Pc 2 Z<|Pp (uA _ f.m_ _ _ c d b k z om_ g.m_ D e.m_ p r i t s) U7 fl_<|Pq U5 fun V=>Pg (j:=0) U12<|Pd [6,9] a Z<|G.freeze 0 Z fun _ _ x=>Pb fun R a=>O8 (PtrTo.block (Mem.get x mup) _) U8<|Pp (gK _ f.m_ _ (u.le dc_) (J8 u)) U7 fl_<|C4 1 [6,9,34] a Z<|O9 (fun y=>?_) fun y=>?_
   ·exact absurd y dc_
   ·refine Pb fun R a=>O8 (PtrTo.block (Mem.get x mup) _) U8<|Pg (j:=0) U12<|C4 1 [6,7] a Z<|Pl (Qh (.head _) U5 ?_);exact ⟨Z,Z⟩
def ju {α:Type}(p:α->Bool):List α->Nat->Int
 | [],_=>-1
 | x::l,k=>if p x then (k:Nat) else ju p l (k+1)
theorem mA {a:Type}{p:a->Bool}:∀ {l:List a}{i k:Nat}{x:a},l[i]?=some x->p x=true->(∀ y∈l.take i,p y=false)->ju p l k=((k+i:Nat):Int)
 | y::l,0,k,x,h,b,_=>by
  simp only [List.getElem?_cons_zero,Mq] at h;subst h;simp [ju,b]
 | y::l,i+1,k,x,h,b,c=>by
  simp only [NC] at h;have hy:p y=false:=c y (by simp);have:=mA (k:=k+1) h b (fun z d=>c z (by simp [d]));simp only [ju,hy,MC,MW,this];omega
theorem ku {a:Type}{p:a->Bool}:∀ {l:List a}{k:Nat},(∀ y∈l,p y=false)->ju p l k=-1
 | [],_,_=>rfl
 | y::l,k,h=>by
  simp only [ju,h y aF,MC,MW];exact ku fun z b=>h z (LW _ b)
theorem lf (p:α->Bool)(l:List α):(ju p l 0=-1/\∀ y∈l,p y=false)∨∃ (i:Nat)(x:α),ju p l 0=(i:Nat)/\l[i]?=some x/\p x=true/\∀ y∈l.take i,p y=false:=by
 by_cases h:∀ y∈l,p y=false
 ·exact .inl ⟨ku h,h⟩
 ·right;have d:∀ (l:List α),(¬ ∀ y∈l,p y=false)->∃ (i:Nat)(x:α),l[i]?=some x/\p x=true/\∀ y∈l.take i,p y=false:=by
   intro l;induction l with
   | nil=>intro h;exact absurd (fun y hy=>(by cases hy)) h
   | cons a l e =>
    intro h;by_cases b:p a=true
    ·exact ⟨0,a,Z,b,by simp⟩
    ·have c:p a=false:=by simpa using b
     obtain ⟨i,x,h1,h2,h3⟩:=e (fun h2=>h (fun y hy=>by
      rcases Ma.1 hy with rfl | hy
      ·exact c
      ·exact h2 y hy))
     refine ⟨i+1,x,by simpa using h1,h2,fun y hy=>?_⟩;rw [List.take_succ_cons] at hy;rcases Ma.1 hy with rfl | hy
     ·exact c
     ·exact h3 y hy
  obtain ⟨i,x,h1,h2,h3⟩:=d l h;exact ⟨i,x,by rw [mA h1 h2 h3,M6],h1,h2,h3⟩
structure Lay where
 unit:Str
 min:Rat
 max:Option Rat
def ue:Option Rat->Str
 | none=>[]
 | some q=>qtx q
def Ah (x:Lay):List Value:=[al x.unit,al (qtx x.min),al (ue x.max)]
def isU (u:Str)(x:Lay):Bool:=decide (x.unit=u)
def KR (x:Lay):Prop:=QB 22 x.min/\(∀ q,x.max=some q->QB 22 q)/\x.unit.length<=999998
theorem nS (m:Option Rat):(!((⟨(ue m).toArray⟩:ByteArray).data.toList == (⟨#[]⟩:ByteArray).data.toList))=m.isSome:=by
 cases m with
 | none=>rfl
 | some q =>
  have:=Ci q;show (!(qtx q == []))=true;cases h:qtx q with
  | nil=>rw [h] at this;simp at this
  | cons a l=>rfl
theorem kr (C:Mem)(v:Value)(l:List Lay)(g:Nat)(d:List Value)(a:Lay->Bool)(e:Sl C 3 v (l.map Ah))(_A:Jog.Enters cx.P g=true)
  (n:∀ x∈l,∀ D:Mem,C.le D->Gives cx.P g (.agg ⟨Ah x⟩::d) D (.bool (a x))) :
  Gives cx.P 159 [v,.func (.func g) #[] ⟨d⟩] C (.int .i64 (ju a l 0)):=by
 obtain ⟨o,c0,rfl,p,B,_⟩:=id e;have E:maxLen<=9223372036854775807:=by simp [maxLen]
 simp only [ax] at e p ⊢;refine Ph func159 19 U3 fun w0=>C6 1 [0,1] Z<|C6 3 [0,1,7,8] Z<|G.loop (fun fr C' q r=>∃ (i:Nat),(i<=l.length/\∀ y∈l.take i,a y=false)/\fr=[(0,[],.slice o l.length c0),(1,[],.func (.func g) #[] ⟨d⟩),(7,[],.int .i64 l.length),(8,[],.int .i64 i)]/\q=[]/\r=l.length-i) (hn_ [0,1,7,8] Z) ⟨0,⟨LV _,by simp⟩,Z,Z,Z⟩ (fun fr F H m s t=>?_);obtain ⟨i,⟨I,b⟩,rfl,rfl,rfl⟩:=t;refine C6 1 [0,1,7,8,9] Z<|O9 (fun f=>?_) fun f=>?_
 ·have h:i<l.length:=by simpa using f
  obtain ⟨x,c⟩:∃ x,l[i]?=some x:=⟨l[i],aj h⟩;refine C6 2 [0,1,5,7,8] Z<|O7 3 Z fun R j=>Pm e.m_ U10 om_ (ce c) fl_ fun J u=>O8 u U8<|Pn (n x (LQ c) _ mup) U7<|Pd [0,1,5,7,8,16] j Z<|O9 (fun k=>?_) fun k=>?_
  ·have w:a x=true:=k;exact C6 2 [4] Z<|Pf U2<|⟨by rw [mA c w b,M6],Z⟩
  ·have z:a x=false:=k;refine Pb fun R j=>Pi _ U7<|C4 1 [0,1,7,8] j Z<|Pk (m':=l.length-(i+1)) om_ s (hn_ [0,1,7,8] Z) ⟨i+1,⟨by omega,fun y hy=>by
    rw [Mx,c] at hy;rcases Mh.1 hy with hy | hy
    ·exact b y hy
    ·simp only [Nv,Mn] at hy;subst hy;exact z⟩,Z,Z,Z⟩
 ·have h:i=l.length:=by
   have:¬ i<l.length:=by simpa using f
   omega
  exact C6 1 [4] Z<|Pf U2<|⟨by rw [h,Mb] at b;rw [ku b],Z⟩
theorem E4 (a b:Str):((⟨a.toArray⟩:ByteArray).data.toList == (⟨b.toArray⟩:ByteArray).data.toList)=decide (a=b):=by
 show (a == b)=_;by_cases h:a=b <;> simp [h]
theorem Ec (C:Mem)(b:Nat)(u:Str)(x:Lay)(c:C b=some (.cells ⟨[al u]⟩ 9 (0,0))):Gives cx.P 160 [.agg ⟨Ah x⟩,.pointer (some ⟨b,0,none⟩)] C (.bool (isU u x)):=by
 exact Ph func160 8 U3 fun w0=>Pb fun R a=>Pr U6 fun d=>C4 1 [1,2] a Z<|O7 1 Z fun R a=>Pe (.head _) U9<|O8 (PtrTo.block (Mem.get c mup) _) U8<|C4 2 [3] a Z<|Pf U2<|⟨by unfold isU;rw [<- E4],Z⟩
theorem wz (C:Mem)(b:Nat)(u:Str)(x:Lay)(c:C b=some (.cells ⟨[al u]⟩ 9 (0,0))):Gives cx.P 163 [.agg ⟨Ah x⟩,.pointer (some ⟨b,0,none⟩)] C (.bool (isU u x)):=by
 exact Ph func163 8 U3 fun w0=>Pb fun R a=>Pr U6 fun d=>C4 1 [1,2] a Z<|O7 1 Z fun R a=>Pe (.head _) U9<|O8 (PtrTo.block (Mem.get c mup) _) U8<|C4 2 [3] a Z<|Pf U2<|⟨by unfold isU;rw [<- E4],Z⟩
theorem yD (C:Mem)(v:Value)(l:List Lay)(u:Str)(c:Sl C 3 v (l.map Ah)):Gives cx.P 106 [v,al u] C (.int .i64 (ju (isU u) l 0)):=by
 exact Ph func106 8 U3 fun w0=>Pb fun R a=>Pr U6 fun b=>C4 1 [0,3] a Z<|G.freeze 0 Z fun _ _ d=>O7 2 Z fun R a=>Pn (kr _ _ l 160 [.pointer (some ⟨b,0,none⟩)] (isU u) c.m_ Z (fun x _ D e=>Ec D b u x (e _ _ (Mem.get d mup)))) U7<|C4 1 [4] a Z<|Pf U2<|⟨Z,Z⟩
theorem je (C:Mem)(v:Value)(l:List Lay)(u:Str)(c:Sl C 3 v (l.map Ah)):Gives cx.P 109 [v,al u] C (.int .i64 (ju (isU u) l 0)):=by
 exact Ph func109 8 U3 fun w0=>Pb fun R a=>Pr U6 fun b=>C4 1 [0,3] a Z<|G.freeze 0 Z fun _ _ d=>O7 2 Z fun R a=>Pn (kr _ _ l 163 [.pointer (some ⟨b,0,none⟩)] (isU u) c.m_ Z (fun x _ D e=>wz D b u x (e _ _ (Mem.get d mup)))) U7<|C4 1 [4] a Z<|Pf U2<|⟨Z,Z⟩
theorem rF (h:QB 22 q):(qtx q).length<=999998:=Md (bE h dc_) dc_
theorem zw (h:QB 22 q):(qtx q).length<=1000000:=Md (bE h dc_) dc_
theorem Gc (C:Mem)(d:Tabs C)(x:Lay)(e:KR x):Gives cx.P 104 [.agg ⟨Ah x⟩] C (.int .i64 0):=by
 obtain ⟨u,f,c⟩:=x;obtain ⟨h1,h2,h3⟩:=e;simp only at h1 h2 h3;clear h3;have g:(ue c).length<=999998:=by
  cases c with
  | none=>decide
  | some q=>exact rF (h2 q rfl)
 refine Ph func104 17 U3 fun w0=>Pb fun R a=>Pr U6 fun h=>C4 1 [1] a Z<|O7 1 Z fun R a=>Pe (.head _) U9<|Pn (dq _ d.m_ (qtx f) (rF h1)) U7<|C4 2 [1,3] a Z<|O9 (fun h3=>?_) fun h3=>?_
 ·exfalso;rw [uM h1] at h3;exact absurd h3 dc_
 ·refine O7 1 Z fun R a=>Pe (.head _) U9<|Pc 3 Z<|Pe (.head _) U9<|PH (fun _=>(dq _ d.m_ (ue c) g)) U9<|Pa U6<|Pz U8<|C4 1 [3] a Z<|O9 (fun b=>?_) fun b=>?_
  ·exfalso;simp only [] at b;cases c with
   | none=>exact absurd b dc_
   | some q =>
    rw [show ue (some q)=qtx q from rfl,uM (h2 q rfl)] at b;simp at b
  ·exact C6 1 [2] Z<|Pf U2<|⟨Z,Z⟩
def Do (x:Lay):Bool:=match x.max with
 | none=>false
 | some m=>decide (m<x.min)
def Hy (pre:List Lay)(x:Lay):Int:=if fa x.unit=false then 8 else if 0<=ju (isU x.unit) pre 0 then 9 else if x.min<0 then 3 else if Do x then 6 else 0
def Av (l:List Lay):Nat->Int
 | 0=>0
 | n+1=>if Av l n≠0 then Av l n else Hy (l.take n) (l.getD n ⟨[],0,none⟩)
def sH (l:List Lay):Int:=if l=[] then 13 else if 60<l.length then 4 else Av l l.length
theorem uJ {l:List Lay}{n:Nat}(h:Av l n≠0):∀ m,n<=m->Av l m=Av l n
 | 0,hm=>by rw [show n=0 by omega]
 | m+1,hm=>by
  rcases Mw m n with h1 | h1
  ·rw [show n=m+1 by omega]
  ·have a:=uJ h m h1;simp only [Av,a];rw [aI h]
theorem Hx {l:List Lay}{x:Lay}(h:l[i]?=some x):l.getD i ⟨[],0,none⟩=x:=by rw [ak,h,M9]
theorem yC {l:List Lay}{x:Lay}(a:Av l i=0)(b:l[i]?=some x):Av l (i+1)=Hy (l.take i) x:=by
 simp only [Av,a];rw [aC dc_,Hx b]
theorem sE {l:List Lay}{x:Lay}{z:Int}(d:Av l i=0)(a:l[i]?=some x)(b:Hy (l.take i) x=z)(f:z≠0)(g:¬ 60<l.length):sH l=z:=by
 have c:=(aX.1 a).1;have h1:=yC d a;unfold sH;rw [aC (fun e=>by rw [e] at c;simp at c),aC g,uJ (n:=i+1) (by rw [h1,b];exact f) l.length om_,h1,b]
theorem Jj (C:Mem)(c:Tabs C)(a:Option Rat)(b:Rat)(d:QB 22 b)(e:∀ q,a=some q->QB 22 q)(h:(!((⟨(ue a).toArray⟩:ByteArray).data.toList == (⟨#[]⟩:ByteArray).data.toList))=true) :
  Gives cx.P 107 [al (ue a),al (qtx b)] C (.int .i64 (qM (a.getD 0) b)):=by
 rw [nS] at h;cases a with
 | none=>cases h
 | some q=>exact gi C c q b 22 dc_ dc_ (e q rfl) d
theorem yg (x:Lay):(x.max.isSome && decide (qM (x.max.getD 0) x.min<0))=Do x:=by
 unfold Do;cases x.max with
 | none=>rfl
 | some q =>
  show (true && decide (qM q x.min<0))=decide (q<x.min);unfold qM;by_cases h:q<x.min
  ·simp [h]
  ·rw [aC h,Mk h];split <;> rfl
theorem rT (q:Rat):decide (dX q.num<0)=decide (q<0):=by
 rw [MH,<- xK];rcases dR q.num with h | h | h <;> omega
theorem oJ (C:Mem)(y:Tabs C)(v:Value)(l:List Lay)(k:Sl C 3 v (l.map Ah))(F:∀ x∈l,KR x)(S:l.length<=1000000):Gives cx.P 68 [v] C (.int .i64 (sH l)):=by
 obtain ⟨A,c0,rfl,H,T,_⟩:=id k;have U:maxLen<=9223372036854775807:=by simp [maxLen]
 simp only [ax] at k H ⊢;refine Ph func68 57 U3 fun w0=>C6 1 [0] Z<|C6 4 [0,6] Z<|O9 (fun n=>?_) fun n=>?_
 ·have h0:l=[]:=by
   have h:((l.length:Nat):Int)=0:=by simpa using n
   exact MA om_
  exact C6 1 [2] Z<|Pf U2<|⟨by rw [h0];rfl,Z⟩
 ·have h0:l≠[]:=by
   intro e;rw [e] at n;exact absurd n dc_
  refine C6 4 [0,10] Z<|O9 (fun o=>?_) fun o=>?_
  ·have h60:60<l.length:=by
    simp only [LY] at o;omega
   exact C6 1 [2] Z<|Pf U2<|⟨by unfold sH;rw [aC h0,aI h60],Z⟩
  ·have h60:¬ 60<l.length:=by
    simp only [Mf] at o;omega
   refine C6 3 [0,14,15,16] Z<|G.loop (fun fr C' I J=>∃ (i:Nat),(i<=l.length/\Av l i=0)/\fr=[(0,[],.slice A l.length c0),(14,[],.slice A l.length c0),(15,[],.int .i64 l.length),(16,[],.int .i64 i)]/\I=[]/\J=l.length-i) (hn_ [0,14,15,16] Z) ⟨0,⟨LV _,Z⟩,Z,Z,Z⟩ (fun fr V W m K L=>?_);obtain ⟨i,⟨X,b⟩,rfl,rfl,rfl⟩:=L;refine C6 1 [0,14,15,16,17] Z<|O9 (fun p=>?_) fun p=>?_
   ·have q:i<l.length:=by simpa using p
    obtain ⟨x,c⟩:∃ x,l[i]?=some x:=⟨l[i],aj q⟩;obtain ⟨r,B,M⟩:=F x (LQ c);have D:=Sl.sub k (l:=0) (h:=i) (m:=c0) (LV _) (by simp;omega) om_ (LP _);rw [NB,<- O2] at D;refine O7 1 Z fun R a=>Pm k.m_ U10 om_ (ce c) fl_ fun Y N=>O8 N U8<|Pq U5 fun b4=>Pa U6<|Pg (j:=0) U12<|Pd [0,3,4,14,15,16] a Z<|Pb fun R a=>Pe (.head _) U9<|Pn (Gc _ y.m_ x ⟨r,B,M⟩) U7<|C4 1 [0,3,4,5,14,15,16] a Z<|C6 2 [0,3,4,5,14,15,16,24] Z<|O9 (fun E=>?_) fun E=>?_
    ·exact absurd E dc_
    ·refine O7 1 Z fun R a=>Pe (.head _) U9<|Pp (gx _ x.unit om_) U7 fl_<|C4 2 [0,3,4,14,15,16,26] a Z<|O9 (fun s=>?_) fun s=>?_
     ·have d:fa x.unit=false:=by simpa using s
      exact C6 1 [2] Z<|Pf U2<|⟨by rw [sE (z:=8) b c (by unfold Hy;rw [aI d]) dc_ h60],Z⟩
     ·have d:¬ fa x.unit=false:=by
       have h:fa x.unit=true:=by simpa using s
       rw [h];decide
      refine Pv [0,1,2,3,4,5,6,7] [(5,1)] Z kr_ fun R hB a=>Pc 2 Z<|PX 0 i c0 U12 (fun _=>⟨.inl ⟨Z,Z⟩,.inr ⟨_,Z⟩,.inl ⟨Z,Z⟩,by omega,by omega,by omega⟩) U2<|Pa U6<|Pe (.head _) U9<|PH (fun _=>(yD _ _ (l.take i) x.unit D.m_)) U9<|C4 2 [0,4,14,15,16,31] a Z<|O9 (fun t=>?_) fun t=>?_
      ·have f:0<=ju (isU x.unit) (l.take i) 0:=by simpa using t
       exact C6 1 [2] Z<|Pf U2<|⟨by rw [sE (z:=9) b c (by unfold Hy;rw [aC d,aI f]) dc_ h60],Z⟩
      ·have f:¬ 0<=ju (isU x.unit) (l.take i) 0:=by simpa using t
       refine O7 1 Z fun R a=>Pe (.head _) U9<|Pn (fu _ x.min (zw r)) U7<|C4 2 [0,4,14,15,16,39] a Z<|O9 (fun g=>?_) fun g=>?_
       ·have hs:x.min<0:=by
         rw [rT] at g;exact K5 g
        exact C6 1 [2] Z<|Pf U2<|⟨by rw [sE (z:=3) b c (by unfold Hy;rw [aC d,aC f,aI hs]) dc_ h60],Z⟩
       ·have hs:¬ x.min<0:=by
         rw [rT] at g;exact LS g
        refine O7 1 Z fun R a=>Pe (.head _) U9<|Pc 3 Z<|Pe (.head _) U9<|Pa U6<|Pe (.head _) U9<|Pw (fun O=>(Jj _ y.m_ x.max x.min r B (by exact O.1))) U9<|Pa U6<|Pz U8<|C4 1 [0,14,15,16,44] a Z<|O9 (fun u=>?_) fun u=>?_
        ·have w:Do x=true:=by
          rw [<- yg,<- nS];exact u
         exact C6 1 [2] Z<|Pf U2<|⟨by rw [sE (z:=6) b c (by unfold Hy;rw [aC d,aC f,aC hs,aI w]) dc_ h60],Z⟩
        ·have w:Do x=false:=by
          rw [<- yg,<- nS];exact u
         have Q:Av l (i+1)=0:=by rw [yC b c];unfold Hy;rw [aC d,aC f,aC hs,w];rfl
         refine Pb fun R a=>Pi _ U7<|C4 1 [0,14,15,16] a Z<|G.dropAll<|Pk (m':=l.length-(i+1)) om_ K (hn_ [0,14,15,16] Z) ⟨i+1,⟨by omega,Q⟩,Z,Z,Z⟩
   ·have q:i=l.length:=by
     have:¬ i<l.length:=by simpa using p
     omega
    refine C6 1 [2] Z<|Pf U2<|⟨?_,Z⟩;rw [q] at b;unfold sH;rw [aC h0,aC h60,b]
theorem wo (C:Mem)(f:Tabs C)(v:Value)(l:List Lay)(u:Str)(c:Sl C 3 v (l.map Ah))(g:∀ x∈l,KR x)(a:sH l=0)(i:Nat)(j:ju (isU u) l 0=(i:Nat)):Gives cx.P 197 [v,al u] C (.tuple #[.int .i64 (i:Nat),.bool true,.int .i64 0]):=by
 have k:l.length<=1000000:=by
  unfold sH at a;split at a
  ·cases a
  ·split at a
   ·cases a
   ·omega
 refine Ph func197 20 U3 fun w0=>C6 3 [0,1] Z<|O7 1 Z fun R b=>Pp (by have h:=oJ _ f.m_ v l c.m_ g k;rw [a] at h;exact h) U7 fl_<|C4 1 [0,1,7] b Z<|C6 2 [0,1,7,12] Z<|O9 (fun d=>?_) fun d=>?_
 ·exact absurd d dc_
 ·refine O7 2 Z fun R b=>Pp (by have h:=yD _ v l u c.m_;rw [j] at h;exact h) U7 fl_<|C4 1 [8] b Z<|C6 2 [8,18] Z<|O9 (fun e=>?_) fun e=>?_
  ·refine C6 4 [4,5,6] Z<|Pl (G.dropAll (P1 U4 ?_));exact ⟨Z,Z⟩
  ·exfalso;simp only [Mf] at e;omega
end Go.Proofs.YthnpijdjlddpmaaGreatDoor
