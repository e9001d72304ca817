/- Laws that the proofs of this seat share, part 10. -/
import Derived.Test.YthnpijdjlddpmaaGreatDoorG9
import Derived.Test.YthnpijdjlddpmaaGreatDoorShelf
set_option maxHeartbeats 4000000
namespace Go.Proofs.YthnpijdjlddpmaaGreatDoor
open Tryz
open Go Go.Jog
set_option maxRecDepth 100000
instance:DecidableEq RowQ:=fun a b=>decidable_of_iff (a.f=b.f/\a.b=b.b) (by cases a;cases b;simp)
instance (k:Nat) (q:Rat):Decidable (QB k q):=by unfold QB;infer_instance
instance (k:Nat) (p:Pt):Decidable (QP k p):=by unfold QP;infer_instance
instance (n:Nat) (t:Tri):Decidable (pp n t):=by unfold pp;infer_instance
theorem ka {z:Int}{s:Str}(h:txt z=s):qtx ((z:Int):Rat)=s:=by rw [nH,h]
theorem Ih:qtx 2=[50]:=ka (z:=2) (by decide +kernel)
theorem rE (q:Rat){s:Str}(h:qtx q=s)(a:QB 22 q):dh s=q:=by rw [<- h];exact nF (bx a)
theorem ro0:dh [48]=0:=rE 0 qtx_zero (by decide +kernel)
theorem Bl (a:List Pt)(t:Tri)(p:Pt)(j:Nat):wgt a t p j=wgt a t p (j % 3):=by
 unfold wgt;rw [show (j+1) % 3=(j % 3+1) % 3 by omega,show (j+2) % 3=(j % 3+2) % 3 by omega]
theorem EX (t:Tri)(j:Nat):kR t j=kR t (min j 2):=by
 unfold kR;rcases (by omega:j=0∨j=1∨2<=j) with h | h | h
 ·subst h;rfl
 ·subst h;rfl
 ·rw [Nat.min_eq_right h,aC om_,aC om_];rfl
theorem q6:qtx 6=[54]:=by decide +kernel
def Kz (pts:List Pt)(tris:List Tri):Bool :=
 pts.all (fun p=>decide (QP 1 p)) && (decide pts.Nodup && (tris.all (fun t=>decide (pp pts.length t)) && (tris.all (fun t=>decide (0<fh (pts.getD t.1 (0,0)) (pts.getD t.2.1 (0,0)) (pts.getD t.2.2 (0,0)))) && (decide (cM tris).Nodup && (lC pts tris && pts.all fun p=>decide (rY pts tris p≠[]))))))
theorem IY {a:List Pt}{b:List Tri}(h:Kz a b=true)(c:b≠[])(d:b.length<=800)(e:a.length<=400):Good a b/\∀ p∈a,rY a b p≠[]:=by
 unfold Kz at h;simp only [L3,Mg,LY] at h;obtain ⟨f,g,i,j,k,l,m⟩:=h;exact ⟨⟨⟨f,g,i,j,k,d,e⟩,c,l⟩,m⟩
structure PlanR (S:Sht)(H:Hts)(l:List Sgt):Prop where
 kd:S.kd<256
 h:HtsR H
 s:∀ s∈l,SgtR s
def G6 (s p:Nat)(a b:Int):Prop:=a<0∨(s:Int)<=a∨b<0∨(p:Int)<=b
instance (s p:Nat) (a b:Int):Decidable (G6 s p a b):=by unfold G6;infer_instance
def Hp (n:Nat)(x:Int):Prop:=x<0∨(n:Int)<=x
instance (n:Nat) (x:Int):Decidable (Hp n x):=by unfold Hp;infer_instance
end Go.Proofs.YthnpijdjlddpmaaGreatDoor
namespace Go.Jog
open Go
theorem QW {F:Fx}{k:List KI}{b:Fr}{C:Mem}{L:List Ent}{e:Exit}{v:Value}{t d a:Nat}{f:List Value}(i:Ent.arr v t d a f∈L)(h:∀ A c,v=.slice A a c->(0<a->∃ g,A=some ⟨g,0,none⟩)->G F k e b C L):G F k e b C L :=
 G.form i fun j _=>by
  rcases j with ⟨h1,h2⟩ | ⟨g,c,h1,_,_⟩
  ·exact h none 0 (by rw [h1,h2]) om_
  ·exact h _ c h1 (fun _=>⟨g,Z⟩)
end Go.Jog
namespace Go.Proofs.YthnpijdjlddpmaaGreatDoor
open Tryz
open Go Go.Jog
set_option maxRecDepth 100000
variable {i:Nat}{q:Rat}{rows:List (List Str × Str)}{vs:List Value}{w z:Int}{α:Type}
/-! Small parts: numbers of quarters and of halves. -/
theorem Fy (a:w≠0)(h:q*w=z):q=HF z w:=by
 have c:(w:Rat)≠0:=by simpa using a
 unfold HF;rw [Rat.mkRat_eq_div];have b:q=z / w:=by grind
 rw [b];split
 ·rename_i d;have:((w.natAbs:Nat):Int)=-w:=by omega
  rw [show ((w.natAbs:Nat):Rat)=(((w.natAbs:Nat):Int):Rat) from rfl,this];simp only [Rat.intCast_neg];grind
 ·have:((w.natAbs:Nat):Int)=w:=by omega
  rw [show ((w.natAbs:Nat):Rat)=(((w.natAbs:Nat):Int):Rat) from rfl,this]
theorem Ik (a:w≠0)(h:q*w=z)(b:z.natAbs<1000000000)(c:w.natAbs<1000000000):QB 1 q:=by
 rw [Fy a h];exact I7 a b c
theorem zA (x y:Nat)(a:x<18446744073709551616)(b:y<18446744073709551616)(C:Mem):Gives cx.P 125 [.int .u64 x,.int .u64 y] C (.tuple #[.int .u64 ((x*y / 18446744073709551616:Nat):Int),.int .u64 ((x*y % 18446744073709551616:Nat):Int)]) :=
 Gives.ofCalls kr_ (fun w=>Any.bits_Mul Tryz.mul x y a b w) C
theorem Ct {a:Value}{n k m:Nat}{b:List Value}(_d:k+m<=n)(c:m<=k)(_e:b.length=n-k) :
  aA (List.replicate k a++b) ((List.replicate k a++b).take m) k=List.replicate (k+m) a++b.drop m:=by
 have h1:(List.replicate k a++b).take m=List.replicate m a:=by
  rw [List.take_append_of_le_length (by simpa using c),List.take_replicate,NI c]
 have h2:(List.replicate k a++b).take k=List.replicate k a:=by
  rw [List.take_append_of_le_length (by simp),List.take_replicate,Nat.min_self]
 have h3:(List.replicate k a++b).drop (k+m)=b.drop m:=by
  rw [OE,Nd,MY (by simp),Nu];congr 1;omega
 unfold aA;rw [h1,h2,Nd,h3,List.replicate_append_replicate]
theorem Cj (a:Value)(n:Nat):jx [a] n=List.replicate n a:=by
 rw [eh];induction n with
 | zero=>rfl
 | succ n b=>rw [MX,Ng,b,MX];rfl
theorem FO (n:Nat)(a:n<18446744073709551616)(C:Mem):Gives cx.P 125 [.int .u64 (1:Int),.int .u64 n] C (.tuple #[.int .u64 0,.int .u64 n]):=by
 have h:=zA 1 n om_ a C;have b:1*n / 18446744073709551616=0:=by omega
 have c:1*n % 18446744073709551616=n:=by omega
 rw [b,c] at h;exact h
theorem zy (C:Mem)(v:Value)(n:Nat)(s:Str)(g:Sl C 1 v [[al s]])(y:n<=1000000):Jog.Fn cx.P 83 [v,.int .i64 n] C [] fun u _z e=>∃ b,u=.slice (some ⟨b,0,none⟩) n n/\e=[.arr u 56 1 n (List.replicate n (al s))]:=by
 have p:=g;obtain ⟨A,c,rfl,_⟩:=p;refine Ph func83 48 U3 fun w0=>C6 1 [0,1] Z<|C6 2 [0,1,10] Z<|O9 (fun h=>?_) fun h=>?_
 ·simp at h;omega
 ·refine O7 2 Z fun R d=>PS (c:=1) U8 Z fl_<|Pa U6<|PS (c:=(n:Int)) U8 (by rw [IntKind.wrap_u64];omega) fl_<|Pp (FO n om_ _) U7 fl_<|C4 5 [0,5,6] d Z<|O7 5 Z fun R d=>PD U8<|Pd [0,6,26] d Z<|O9 (fun i=>?_) fun i=>?_
  ·simp at i;omega
  ·refine O7 1 Z fun R d=>PS (c:=(n:Int)) U8 (by rw [IntKind.wrap_i64];omega) fl_<|P3 U9 (LP _) (by show 16*n<=281474976710656;omega) (by simp only [maxLen];omega) fl_ fun a=>C4 1 [0,7] d Z<|O7 2 Z fun R d=>QA (j:=0) (q:=min 1 n) U12 g U2 (by rw [cI];show 0+min 1 n*1<=n*1;omega) fl_<|C4 1 [7,8] d Z ?_;have r:aA (jx [al []] n) (([[al s]]:List (List Value)).take (min 1 n)).flatten 0=List.replicate (min 1 n) (al s)++List.replicate (n-min 1 n) (al []):=by
    rw [Cj];cases n with
    | zero=>rfl
    | succ n=>rw [show min 1 (n+1)=1 by omega,MX];rfl
   refine Po (L':=[.arr (.slice (some ⟨a,0,none⟩) n n) 56 1 n (List.replicate (min 1 n) (al s)++List.replicate (n-min 1 n) (al []))]) (by rw [<- r];rfl)<|G.loop (fun fr C' e t=>∃ (k:Nat),(k<=n/\min 1 n<=k)/\fr=[(7,[],.slice (some ⟨a,0,none⟩) n n),(8,[],.int .i64 k)]/\e=[.arr (.slice (some ⟨a,0,none⟩) n n) 56 1 n (List.replicate k (al s)++List.replicate (n-k) (al []))]/\t=n-k) (hn_ [7,8] Z) ⟨min 1 n,⟨Nat.min_le_right _ _,LP _⟩,Z,Z,Z⟩ (fun fr B D m w x=>?_);obtain ⟨k,⟨l,E⟩,rfl,rfl,rfl⟩:=x;refine C6 4 [7,8,37] Z<|O9 (fun f=>?_) fun f=>?_
   ·simp only [LY] at f;have o:k<n:=by omega
    have F:1<=k:=by omega
    refine Pv [0,1,2,3,4,5,6,7,8,9] [] Z kr_ fun R H d=>Pc 3 Z<|PX k n n U12 (fun _=>⟨.inr ⟨_,Z⟩,.inl ⟨Z,Z⟩,.inl ⟨Z,Z⟩,l,LP _,LP _⟩) U2<|Pc 2 Z<|PX 0 k n U12 (fun _=>⟨.inl ⟨Z,Z⟩,.inr ⟨_,Z⟩,.inl ⟨Z,Z⟩,LV _,l,LP _⟩) U2 ?_;refine Qz (j:=0) (off:=k) (g0:=a) (dl:=n-k) (dc:=n-k) (sl:=k-0) (sc:=n-0) (q:=min k (n-k)) U8 (by show some (Value.slice (if n=k then some (⟨a,0,none⟩:Addr) else (some (⟨a,0,none⟩:Addr)).map (·.add (k*1))) (n-k) (n-k))=_;rw [aC om_];simp [Addr.add_lit]) (by show some (Value.slice (if n=0 then some (⟨a,0,none⟩:Addr) else (some (⟨a,0,none⟩:Addr)).map (·.add (0*1))) (k-0) (n-0))=_;split <;> simp [Addr.add_lit]) U2 (by simp [nT,al]) (by simp;omega) fl_ ?_;refine PN (((k+min k (n-k):Nat):Int)) U4 om_ om_ om_ U2<|C4 1 [7,8] d Z<|Po (L':=[.arr (.slice (some ⟨a,0,none⟩) n n) 56 1 n (List.replicate (k+min k (n-k)) (al s)++List.replicate (n-(k+min k (n-k))) (al []))]) (by rw [Ct (n:=n) om_ (Nat.min_le_left _ _) (by simp),List.drop_replicate,Nat.sub_sub];rfl)<|Pk (m':=n-(k+min k (n-k))) om_ w (hn_ [7,8] Z) ⟨k+min k (n-k),⟨by omega,by omega⟩,Z,Z,Z⟩
   ·simp only [Mf] at f;have o:k=n:=by omega
    subst o;refine C6 2 [4] Z<|Pl (PM Z Z ?_);exact ⟨a,Z,by simp⟩
theorem il (C:Mem)(n:Nat)(a:n<=1000000):Jog.Fn cx.P 76 [.int .i64 n] C [] fun u _g c=>∃ b,u=.slice (some ⟨b,0,none⟩) n n/\c=[.arr u 56 1 n (List.replicate n (al [48]))]:=by
 refine Ph func76 6 U3 fun w0=>C6 1 [0] Z<|Px [(2,3)] Z fun R d=>Ps [[al [48]]] U12 fun h _ _ e=>Pa U6<|D.call (zy _ _ n [48] e.m_ a) Z (.inr dc_) U6 (LR _) fl_ fun i _ j _ f=>C4 1 [2] d Z ?_;obtain ⟨b,rfl,rfl⟩:=f;refine Pl (PM Z Z ?_);exact ⟨b,Z,Z⟩
theorem fD {f:α->List Value}{l:List α}{x:α}(h:l[i]?=some x):(l.map f)[i]?=some (f x):=by rw [LU,h];rfl
def wc (s:Str):List Value:=[al s]
def aT (q:Rat):List Value:=[al (qtx q)]
theorem yo (l:List Rat):l.map aT=(l.map qtx).map wc:=by rw [ME];rfl
def EJ {α:Type}(p:α->Bool):List α->Nat->Int
 | [],_=>-1
 | x::l,k=>if p x then (k:Nat) else EJ p l (k+1)
theorem mh {a:Type}{p:a->Bool}:∀ {l:List a}{i k:Nat}{x:a},l[i]?=some x->p x=true->(∀ y∈l.take i,p y=false)->EJ p l k=((k+i:Nat):Int)
 | y::l,0,k,x,h,b,_=>by
  simp only [List.getElem?_cons_zero,Mq] at h;subst h;simp [EJ,b]
 | y::l,i+1,k,x,h,b,c=>by
  simp only [NC] at h;have hy:p y=false:=c y (by simp);have:=mh (k:=k+1) h b (fun z d=>c z (by simp [d]));simp only [EJ,hy,MC,MW,this];omega
theorem kb {a:Type}{p:a->Bool}:∀ {l:List a}{k:Nat},(∀ y∈l,p y=false)->EJ p l k=-1
 | [],_,_=>rfl
 | y::l,k,h=>by
  simp only [EJ,h y aF,MC,MW];exact kb fun z b=>h z (LW _ b)
theorem pO (p:α->Bool)(l:List α):(EJ p l 0=-1/\∀ y∈l,p y=false)∨∃ (i:Nat)(x:α),EJ p l 0=(i:Nat)/\l[i]?=some x/\p x=true/\∀ y∈l.take i,p y=false:=by
 by_cases h:∀ y∈l,p y=false
 ·exact .inl ⟨kb h,h⟩
 ·right;have d:∀ (l:List α),(¬ ∀ y∈l,p y=false)->∃ (i:Nat)(x:α),l[i]?=some x/\p x=true/\∀ y∈l.take i,p y=false:=by
   intro l;induction l with
   | nil=>intro h;exact absurd (fun y hy=>(by cases hy)) h
   | cons a l e =>
    intro h;by_cases b:p a=true
    ·exact ⟨0,a,Z,b,by simp⟩
    ·have c:p a=false:=by simpa using b
     obtain ⟨i,x,h1,h2,h3⟩:=e (fun h2=>h (fun y hy=>by
      rcases Ma.1 hy with rfl | hy
      ·exact c
      ·exact h2 y hy))
     refine ⟨i+1,x,by simpa using h1,h2,fun y hy=>?_⟩;rw [List.take_succ_cons] at hy;rcases Ma.1 hy with rfl | hy
     ·exact c
     ·exact h3 y hy
  obtain ⟨i,x,h1,h2,h3⟩:=d l h;exact ⟨i,x,by rw [mh h1 h2 h3,M6],h1,h2,h3⟩
theorem CA (C:Mem)(v:Value)(l:List Str)(g:Nat)(d:List Value)(a:Str->Bool)(e:Sl C 1 v (l.map wc))(_A:Jog.Enters cx.P g=true)
  (n:∀ x∈l,∀ D:Mem,C.le D->Gives cx.P g (al x::d) D (.bool (a x))) :
  Gives cx.P 93 [v,.func (.func g) #[] ⟨d⟩] C (.int .i64 (EJ a l 0)):=by
 obtain ⟨o,c0,rfl,p,B,_⟩:=id e;have E:maxLen<=9223372036854775807:=by simp [maxLen]
 simp only [ax] at e p ⊢;refine Ph func93 19 U3 fun w0=>C6 1 [0,1] Z<|C6 3 [0,1,7,8] Z<|G.loop (fun fr C' q r=>∃ (i:Nat),(i<=l.length/\∀ y∈l.take i,a y=false)/\fr=[(0,[],.slice o l.length c0),(1,[],.func (.func g) #[] ⟨d⟩),(7,[],.int .i64 l.length),(8,[],.int .i64 i)]/\q=[]/\r=l.length-i) (hn_ [0,1,7,8] Z) ⟨0,⟨LV _,by simp⟩,Z,Z,Z⟩ (fun fr F H m s t=>?_);obtain ⟨i,⟨I,b⟩,rfl,rfl,rfl⟩:=t;refine C6 1 [0,1,7,8,9] Z<|O9 (fun f=>?_) fun f=>?_
 ·have h:i<l.length:=by simpa using f
  obtain ⟨x,c⟩:∃ x,l[i]?=some x:=⟨l[i],aj h⟩;refine C6 2 [0,1,5,7,8] Z<|O7 3 Z fun R j=>Pm e.m_ U10 om_ (fD c) fl_ fun J u=>O8 u U8<|Pn (n x (LQ c) _ mup) U7<|Pd [0,1,5,7,8,16] j Z<|O9 (fun k=>?_) fun k=>?_
  ·have w:a x=true:=k;exact C6 2 [4] Z<|Pf U2<|⟨by rw [mh c w b,M6],Z⟩
  ·have z:a x=false:=k;refine Pb fun R j=>Pi _ U7<|C4 1 [0,1,7,8] j Z<|Pk (m':=l.length-(i+1)) om_ s (hn_ [0,1,7,8] Z) ⟨i+1,⟨by omega,fun y hy=>by
    rw [Mx,c] at hy;rcases Mh.1 hy with hy | hy
    ·exact b y hy
    ·simp only [Nv,Mn] at hy;subst hy;exact z⟩,Z,Z,Z⟩
 ·have h:i=l.length:=by
   have:¬ i<l.length:=by simpa using f
   omega
  exact C6 1 [4] Z<|Pf U2<|⟨by rw [h,Mb] at b;rw [kb b],Z⟩
theorem CG (C:Mem)(v:Value)(l:List Str)(g:Nat)(b:List Value)(a:Str->Bool)(c:Sl C 1 v (l.map wc))(d:Jog.Enters cx.P g=true)
  (e:∀ x∈l,∀ D:Mem,C.le D->Gives cx.P g (al x::b) D (.bool (a x))) :
  Gives cx.P 59 [v,.func (.func g) #[] ⟨b⟩] C (.bool (l.any a)):=by
 refine Ph func59 9 U3 fun w0=>C6 1 [0,1] Z<|O7 2 Z fun R f=>Pn (CA _ v l g b a c.m_ d (fun x h D j=>e x h D (Mem.le.trans mup j))) U7<|C4 2 [4] f Z<|Pf U2<|⟨?_,Z⟩;congr 1;rcases pO a l with ⟨h1,h2⟩ | ⟨i,x,h1,h2,h3,_⟩
 ·rw [h1,List.any_eq_false.2 (fun y hy=>by rw [h2 y hy];decide)];rfl
 ·rw [h1,N5.2 ⟨x,LQ h2,h3⟩];exact Mc om_
theorem nI (C:Mem)(a:Tabs C)(s:Str)(b:s.length<=999998):Gives cx.P 89 [al s] C (.bool (!bd s)):=by
 refine Ph func89 6 U3 fun w0=>C6 1 [0] Z<|O7 1 Z fun R c=>Pn (dq _ a.m_ s b) U7<|C4 2 [2] c Z<|Pf U2 ?_;exact ⟨by cases bd s <;> rfl,Z⟩
def iv (n:Int)(l:List Str):Int:=if (l.length:Int)=n then oW (l.all bd) else 5
theorem xO (C:Mem)(e:Tabs C)(v:Value)(n:Int)(l:List Str)(a:Sl C 1 v (l.map wc))(b:∀ s∈l,s.length<=999998):Gives cx.P 88 [v,.int .i64 n] C (.int .i64 (iv n l)):=by
 obtain ⟨o,c0,rfl,f,p,_⟩:=id a;have q:maxLen<=9223372036854775807:=by simp [maxLen]
 simp only [ax] at a f ⊢;refine Ph func88 13 U3 fun w0=>C6 1 [0,1] Z<|C6 5 [0,5] Z<|O9 (fun h5=>?_) fun h5=>?_
 ·have g:¬ (l.length:Int)=n:=by simpa using h5
  exact C6 1 [4] Z<|Pf U2<|⟨by unfold iv;rw [aC g],Z⟩
 ·have d:(l.length:Int)=n:=by simpa using h5
  refine O7 1 Z fun R h=>Pn (CG _ _ l _ [] (fun s=>!bd s) a.m_ Z (fun s i D j=>nI D (e.mono (Mem.le.trans mup j)) s (b s i))) U7<|C4 1 [10] h Z<|O9 (fun c=>?_) fun c=>?_
  ·have k:l.all bd=false:=by
    obtain ⟨s,h1,h2⟩:=N5.1 (show (l.any fun s=>!bd s)=true from c);exact Ob.2 ⟨s,h1,by simpa using h2⟩
   exact C6 1 [4] Z<|Pf U2<|⟨by unfold iv;rw [aI d,k];rfl,Z⟩
  ·have m:l.all bd=true:=by
    have h1:=List.any_eq_false.1 (show (l.any fun s=>!bd s)=false from c);exact Mg.2 fun s b=>by simpa using h1 s b
   exact C6 1 [4] Z<|Pf U2<|⟨by unfold iv;rw [aI d,m];rfl,Z⟩
def RowsT (C:Mem)(v:Value)(rows:List (List Str × Str)):Prop:=∃ vs:List Value,vs.length=rows.length/\(∀ (i:Nat)(w:Value)(r:List Str × Str),vs[i]?=some w->rows[i]?=some r->Sl C 1 w (r.1.map wc))/\Sl C 2 v (List.zipWith (fun w (r:List Str × Str)=>[w,al r.2]) vs rows)
theorem RowsT.mono {C D:Mem}{v:Value}{a:List (List Str × Str)}(h:RowsT C v a)(b:C.le D):RowsT D v a:=by
 obtain ⟨vs,h1,h2,h3⟩:=h;exact ⟨vs,h1,fun i w r c hr=>(h2 i w r c hr).mono b,h3.mono b⟩
theorem RowsT.m_ {C D:Mem}{v:Value}(h:RowsT C v rows)(a:C.le D:=by exact mup):RowsT D v rows:=RowsT.mono h a
theorem Bd {w:Value}{r:List Str × Str}(a:vs[i]?=some w)(b:rows[i]?=some r):(List.zipWith (fun w (r:List Str × Str)=>[w,al r.2]) vs rows)[i]?=some [w,al r.2]:=by
 rw [List.getElem?_zipWith,a,b]
theorem rh (h:vs.length=rows.length):(List.zipWith (fun w (r:List Str × Str)=>[w,al r.2]) vs rows).length=rows.length:=by simp [h]
def BY (n:Int)(r:List Str × Str):Int:=if iv n r.1≠0 then iv n r.1 else oW (bd r.2)
def rA (n:Int):List (List Str × Str)->Int
 | []=>0
 | r::l=>if BY n r≠0 then BY n r else rA n l
def GK (n:Int)(rows:List (List Str × Str))(obj:List Str):Int:=if n<0∨60<n then 3 else if 300<rows.length then 4 else if iv n obj≠0 then iv n obj else rA n rows
def LO (rows:List (List Str × Str)):Prop:=∀ r∈rows,(∀ s∈r.1,s.length<=999998)/\r.2.length<=999998
theorem CD (C:Mem)(p:Tabs C)(n:Int)(E F:Value)(a:List (List Str × Str))(c:List Str)(M:RowsT C E a)(q:Sl C 1 F (c.map wc))(H:LO a)(N:∀ s∈c,s.length<=999998) :
  Gives cx.P 56 [.agg ⟨[.int .i64 n,E,F]⟩] C (.int .i64 (GK n a c)):=by
 obtain ⟨vs,O,Q,t⟩:=M;obtain ⟨S,c0,rfl,T,ae,_⟩:=id t;obtain ⟨A1,c1,rfl,U,af,_⟩:=id q;have ag:maxLen<=9223372036854775807:=by simp [maxLen]
 simp only [rh O,ax] at t q T U ⊢;refine Ph func56 48 U3 fun w0=>Pb fun R b=>Pr U6 fun V=>C4 1 [1] b Z<|G.freeze 0 Z fun _ _ d=>O7 1 Z fun R b=>O8 (bkT d 1) U8<|Pc 3 Z<|PC U6 (fun _=>PtrTo.blockT (Mem.get d mup) _ 1) U3<|Pa U6<|PD U8<|C4 1 [1,7] b Z<|O9 (fun u=>?_) fun u=>?_
 ·have f:n<0∨60<n:=by
   simp only [Nl,LY] at u;omega
  exact C6 1 [2] Z<|Pf U2<|⟨by unfold GK;rw [aI f],Z⟩
 ·have f:¬ (n<0∨60<n):=by
   simp only [Nb,Mf] at u;omega
  refine O7 1 Z fun R b=>O8 (bkT d 1) U8<|C4 3 [1,16] b Z<|O9 (fun v=>?_) fun v=>?_
  ·have g:300<a.length:=by
    have:=K5 v;omega
   exact C6 1 [2] Z<|Pf U2<|⟨by unfold GK;rw [aC f,aI g],Z⟩
  ·have g:¬ 300<a.length:=by
    have:=LS v;omega
   refine O7 1 Z fun R b=>O8 (bkT d 1) U8<|Pa U6<|O8 (bkT d 1) U8<|Pn (xO _ p.m_ _ n c q.m_ N) U7<|C4 1 [1,3] b Z<|C6 2 [1,3,27] Z<|O9 (fun x=>?_) fun x=>?_
   ·have y:iv n c≠0:=by simpa using x
    exact C6 2 [2] Z<|Pf U2<|⟨by unfold GK;rw [aC f,aC g,aI y],Z⟩
   ·have y:¬ iv n c≠0:=by simpa using x
    have z:GK n a c=rA n a:=by unfold GK;rw [aC f,aC g,aC y]
    refine O7 1 Z fun R b=>O8 (bkT d 1) U8<|C4 2 [1,30,31,32] b Z<|G.loop (fun fr C' W X=>∃ (i:Nat),(i<=a.length/\rA n a=rA n (a.drop i))/\fr=[(1,[],.pointer (some ⟨V,0,none⟩)),(30,[],.slice S a.length c0),(31,[],.int .i64 a.length),(32,[],.int .i64 i)]/\W=[]/\X=a.length-i) (hn_ [1,30,31,32] Z) ⟨0,⟨LV _,Z⟩,Z,Z,Z⟩ (fun fr ah ai m _ Y=>?_);obtain ⟨i,⟨hi,e⟩,rfl,rfl,rfl⟩:=Y;refine C6 1 [1,30,31,32,33] Z<|O9 (fun A=>?_) fun A=>?_
    ·have h:i<a.length:=by
      have:=K5 A;omega
     obtain ⟨r,k⟩:∃ r,a[i]?=some r:=⟨a[i],aj h⟩;obtain ⟨w,I⟩:∃ w,vs[i]?=some w:=⟨vs[i]'om_,aj _⟩;have J:=LQ k;have K:=Q i w r I k;obtain ⟨Aw,cw,rfl,_⟩:=id K;have aa:a.drop i=r::a.drop (i+1):=MB h |>.trans (by rw [(aX.1 k).2]);rw [aa] at e;simp only [rA] at e;refine Pb fun R b=>Pm t.m_ U10 om_ (Bd I k) fl_ fun ak ab=>O8 ab U8<|Pq U5 fun b5=>Pg (j:=0) U12<|Pd [1,5,30,31,32] b Z<|G.freeze 0 Z fun _ _ L=>O7 1 Z fun R b=>O8 (bkT L 1) U8<|Pa U6<|O8 (bkT d 1) U8<|Pn (xO _ p.m_ _ n r.1 K.m_ (H r J).1) U7<|C4 1 [1,5,6,30,31,32] b Z<|C6 2 [1,5,6,30,31,32,42] Z<|O9 (fun B=>?_) fun B=>?_
     ·have l:iv n r.1≠0:=by simpa using B
      have o:BY n r=iv n r.1:=by unfold BY;rw [aI l]
      exact C6 2 [2] Z<|Pf U2<|⟨by rw [z,e,o,aI l],Z⟩
     ·have l:¬ iv n r.1≠0:=by simpa using B
      have o:BY n r=oW (bd r.2):=by unfold BY;rw [aC l]
      refine O7 1 Z fun R b=>O8 (bkT L 1) U8<|Pn (nI _ p.m_ r.2 (H r J).2) U7<|Pd [1,30,31,32,46] b Z<|O9 (fun D=>?_) fun D=>?_
      ·have ac:bd r.2=false:=by simpa using D
       exact C6 1 [2] Z<|Pf U2<|⟨by rw [z,e,o,ac];rfl,Z⟩
      ·have ad:bd r.2=true:=by simpa using D
       refine Pb fun R b=>Pi _ U7<|C4 1 [1,30,31,32] b Z<|Pk (m':=a.length-(i+1)) om_ mup (hn_ [1,30,31,32] Z) ⟨i+1,⟨by omega,by rw [e,o,ad];rfl⟩,Z,Z,Z⟩
    ·have h:i=a.length:=by
      have:=LS A;omega
     exact C6 1 [2] Z<|Pf U2<|⟨by rw [z,e,h,Nm];rfl,Z⟩
end Go.Proofs.YthnpijdjlddpmaaGreatDoor
namespace Go.Jog.Lp
variable {N i j:Nat}{os:List Nat}{r s v:Nat}{x:Nat->Rat}
def sumN (g:Nat->Rat):Nat->Rat
 | 0=>0
 | n+1=>sumN g n+g n
theorem aK {g h:Nat->Rat}:∀ {n:Nat},(∀ j,j<n->g j=h j)->sumN g n=sumN h n
 | 0,_=>rfl
 | n+1,e=>by rw [sumN,sumN,aK fun j a=>e j om_,e n om_]
theorem cX (g h:Nat->Rat):∀ n:Nat,sumN (fun j=>g j+h j) n=sumN g n+sumN h n
 | 0=>by simp only [sumN];grind
 | n+1=>by simp only [sumN];rw [cX g h n];grind
theorem cE (k:Rat)(g:Nat->Rat):∀ n:Nat,sumN (fun j=>k*g j) n=k*sumN g n
 | 0=>by simp only [sumN];grind
 | n+1=>by simp only [sumN];rw [cE k g n];grind
theorem bU:∀ {g:Nat->Rat}{n:Nat},(∀ j,j<n->g j=0)->sumN g n=0
 | _,0,_=>rfl
 | g,n+1,e=>by rw [sumN,bU fun j a=>e j om_,e n om_];grind
theorem gd {g:Nat->Rat}{a:Nat}:∀ {n:Nat},a<n->sumN g n=g a+sumN (fun j=>if j=a then 0 else g j) n
 | n+1,h=>by
  rcases Mw a n with h1 | h1
  ·rw [sumN,gd h1,sumN,aC om_];grind
  ·have e:a=n:=by omega
   subst e;rw [sumN,sumN,aI rfl,aK (h:=g) fun j b=>aC om_];grind
theorem vy:∀ {g:Nat->Rat}{n:Nat},(∀ j,j<n->g j<=0)->sumN g n<=0
 | _,0,_=>by simp only [sumN];grind
 | g,n+1,e=>by
  have h1:=vy (g:=g) (n:=n) fun j a=>e j om_;have h2:=e n om_;rw [sumN];grind
theorem BD:∀ {g:Nat->Rat}{n:Nat},(∀ j,j<n->0<=g j)->0<=sumN g n
 | _,0,_=>by simp only [sumN];grind
 | g,n+1,e=>by
  have h1:=BD (g:=g) (n:=n) fun j a=>e j om_;have h2:=e n om_;rw [sumN];grind
structure Line where
 c:Rat
 f:List Rat
def Line.g (l:Line)(j:Nat):Rat:=l.f.getD j 0
structure Tab where
 basic:List Nat
 lines:List Line
 others:List Nat
 worth:Line
def Tab.line (t:Tab)(i:Nat):Line:=t.lines.getD i ⟨0,[]⟩
def Tab.bas (t:Tab)(i:Nat):Nat:=t.basic.getD i 0
def Tab.oth (t:Tab)(j:Nat):Nat:=t.others.getD j 0
def lv (l:Line)(os:List Nat)(x:Nat->Rat):Rat:=l.c+sumN (fun j=>l.g j*x (os.getD j 0)) os.length
structure Tab.Ok (t:Tab)(N:Nat):Prop where
 ll:t.lines.length=t.basic.length
 fl:∀ l∈t.lines,l.f.length=t.others.length
 wl:t.worth.f.length=t.others.length
 nd:(t.basic++t.others).Nodup
 lt:∀ v∈t.basic++t.others,v<N
def Tab.Sol (t:Tab)(x:Nat->Rat):Prop:=∀ i,i<t.basic.length->x (t.bas i)=lv (t.line i) t.others x
def Tab.W (t:Tab)(x:Nat->Rat):Rat:=lv t.worth t.others x
def putL (l:Line)(s:Nat)(b:Line):Line:=⟨l.c+l.g s*b.c,(List.range l.f.length).map fun j=>(if j=s then 0 else l.g j)+l.g s*b.g j⟩
def byL (l:Line)(s:Nat):Line:=⟨-l.c / l.g s,(List.range l.f.length).map fun j=>if j=s then 1 / l.g s else -l.g j / l.g s⟩
def Tab.pivot (t:Tab)(r s:Nat):Tab :=
 { basic:=t.basic.set r (t.oth s),others:=t.others.set s (t.bas r),lines:=(List.range t.lines.length).map fun i=>if i=r then byL (t.line r) s else putL (t.line i) s (byL (t.line r) s),worth:=putL t.worth s (byL (t.line r) s) }
theorem eg {f:Nat->Rat}{n:Nat}(h:j<n):((List.range n).map f).getD j 0=f j:=by
 rw [ak,LU,Mr h];rfl
theorem Cl {l b:Line}(h:j<l.f.length):(putL l s b).g j=(if j=s then 0 else l.g j)+l.g s*b.g j:=eg h
theorem byL_g {l:Line}(h:j<l.f.length):(byL l s).g j=if j=s then 1 / l.g s else -l.g j / l.g s:=eg h
theorem nt {l:List Nat}(h:s<l.length):(l.set s v).getD j 0=if j=s then v else l.getD j 0:=by
 rw [ak,ak,List.getElem?_set];by_cases e:s=j
 ·subst e;rw [aI rfl,aI h,aI rfl];rfl
 ·rw [aC e,aC (Ne.symm e)]
theorem zI {l:Line}(a:s<os.length):lv l os x=l.c+(l.g s*x (os.getD s 0)+sumN (fun j=>if j=s then 0 else l.g j*x (os.getD j 0)) os.length):=by
 unfold lv;rw [gd a]
theorem Di {l b:Line}(a:s<os.length)(d:l.f.length=os.length) :
  lv (putL l s b) (os.set s v) x=l.c+(l.g s*lv b (os.set s v) x+sumN (fun j=>if j=s then 0 else l.g j*x (os.getD j 0)) os.length):=by
 unfold lv;rw [MN];have e:sumN (fun j=>(putL l s b).g j*x ((os.set s v).getD j 0)) os.length=sumN (fun j=>l.g s*(b.g j*x ((os.set s v).getD j 0))+(if j=s then 0 else l.g j*x (os.getD j 0))) os.length:=aK fun j i=>by
  rw [Cl om_,nt a];by_cases h:j=s
  ·rw [aI h,aI h,aI h];grind
  ·rw [aC h,aC h,aC h];grind
 rw [e,cX,cE];show l.c+l.g s*b.c+_=_;grind
theorem Ks {l:Line}(a:s<os.length)(d:l.f.length=os.length)(b:l.g s≠0) :
  (x v=lv l os x ↔ x (os.getD s 0)=lv (byL l s) (os.set s v) x):=by
 have h2:lv (byL l s) (os.set s v) x=-l.c / l.g s+(1 / l.g s*x v + -1 / l.g s*sumN (fun j=>if j=s then 0 else l.g j*x (os.getD j 0)) os.length):=by
  rw [zI (by rw [MN];exact a),MN,byL_g om_,aI rfl,nt a,aI rfl,<- cE];have e:sumN (fun j=>if j=s then 0 else (byL l s).g j*x ((os.set s v).getD j 0)) os.length=sumN (fun j=>-1 / l.g s*if j=s then 0 else l.g j*x (os.getD j 0)) os.length:=aK fun j i=>by
   by_cases h:j=s
   ·rw [aI h,aI h];grind
   ·rw [aC h,aC h,byL_g om_,aC h,nt a,aC h];grind
  rw [e];rfl
 rw [h2,zI a];generalize sumN (fun j=>if j=s then 0 else l.g j*x (os.getD j 0)) os.length=S;generalize l.g s=k at b;constructor <;> intro h <;> grind
theorem line_mem {t:Tab}(h:t.Ok N)(a:i<t.basic.length):t.line i∈t.lines:=by
 unfold Tab.line;rw [ak,aj (by rw [h.ll];exact a)];exact MP _
theorem pivot_line {t:Tab}(a:i<t.lines.length):(t.pivot r s).line i=if i=r then byL (t.line r) s else putL (t.line i) s (byL (t.line r) s):=by
 unfold Tab.line Tab.pivot;rw [ak,LU,Mr a];rfl
theorem ua {t:Tab}(h:t.Ok N)(b:r<t.basic.length)(c:s<t.others.length)(l:(t.line r).g s≠0):(t.pivot r s).Sol x ↔ t.Sol x:=by
 have m:=h.fl _ (line_mem h b);have k:=Ks (x:=x) (v:=t.bas r) c m l;have d:∀ i,(t.pivot r s).bas i=if i=r then t.oth s else t.bas i:=fun i=>nt b;have f:(t.pivot r s).others=t.others.set s (t.bas r):=rfl;have j:(t.pivot r s).basic.length=t.basic.length:=MN;constructor
 ·intro hS i a;have h0:=hS r (by rw [j];exact b);rw [d,aI rfl,pivot_line (by rw [h.ll];exact b),aI rfl,f] at h0;by_cases e:i=r
  ·subst e;exact k.2 h0
  ·have h1:=hS i (by rw [j];exact a);rw [d,aC e,pivot_line (by rw [h.ll];exact a),aC e,f,Di c (h.fl _ (line_mem h a)),<- h0] at h1;rw [h1,zI c];rfl
 ·intro hS i a;rw [j] at a;have h0:=k.1 (hS r b);rw [d,pivot_line (by rw [h.ll];exact a),f];by_cases e:i=r
  ·rw [aI e,aI e];exact h0
  ·rw [aC e,aC e,Di c (h.fl _ (line_mem h a)),<- h0,hS i a,zI c]
theorem Cv {t:Tab}(h:t.Ok N)(b:r<t.basic.length)(a:s<t.others.length)(c:(t.line r).g s≠0)(d:t.Sol x):(t.pivot r s).W x=t.W x:=by
 have e:=h.fl _ (line_mem h b);have h0:=(Ks (x:=x) (v:=t.bas r) a e c).1 (d r b);show lv (putL t.worth s (byL (t.line r) s)) (t.others.set s (t.bas r)) x=_;rw [Di a h.wl,<- h0];unfold Tab.W;rw [zI a]
theorem Fm {a b:List Nat}(c:r<a.length)(d:s<b.length):(a.set r (b.getD s 0)++b.set s (a.getD r 0)).Perm (a++b):=by
 have e:∀ {l:List Nat}{i:Nat}(_:i<l.length)(v:Nat),(v::l).Perm (l.getD i 0::l.set i v):=by
  intro l;induction l with
  | nil=>intro i h;exact absurd h (Nat.not_lt_zero _)
  | cons y l f =>
   intro i h v;cases i with
   | zero=>exact List.Perm.swap _ _ _
   | succ i =>
    have h1:=f (i:=i) (by simpa using h) v;show (v::y::l).Perm (l.getD i 0::y::l.set i v);exact (List.Perm.swap _ _ _).trans ((h1.cons y).trans (List.Perm.swap _ _ _))
 have h1:=e c (b.getD s 0);have h2:=e d (a.getD r 0);have h3:(b.getD s 0::a.getD r 0::(a++b)).Perm (a.getD r 0::b.getD s 0::(a.set r (b.getD s 0)++b.set s (a.getD r 0))):=by
  have g:(b.getD s 0::a.getD r 0::(a++b)).Perm ((b.getD s 0::a)++(a.getD r 0::b)):=by
   refine List.Perm.cons _ ?_;exact List.perm_middle.symm
  have j:=h1.append h2;have k:((a.getD r 0::a.set r (b.getD s 0))++(b.getD s 0::b.set s (a.getD r 0))).Perm (a.getD r 0::b.getD s 0::(a.set r (b.getD s 0)++b.set s (a.getD r 0))):=by
   refine List.Perm.cons _ ?_;exact List.perm_middle
  exact g.trans (j.trans k)
 exact ((h3.trans (List.Perm.swap _ _ _)).cons_inv.cons_inv).symm
theorem xP {t:Tab}(h:t.Ok N)(a:r<t.basic.length)(d:s<t.others.length):(t.pivot r s).Ok N:=by
 have b:((t.pivot r s).basic++(t.pivot r s).others).Perm (t.basic++t.others):=Fm a d;refine ⟨?_, ?_, ?_,(List.Perm.nodup_iff b).2 h.nd,fun v e=>h.lt v (b.mem_iff.1 e)⟩
 ·show ((List.range t.lines.length).map _).length=(t.basic.set _ _).length;rw [ax,MJ,MN,h.ll]
 ·intro l f;obtain ⟨i,c,rfl⟩:=L4.1 f;rw [Me] at c;show _=(t.others.set _ _).length;rw [MN];split
  ·show ((List.range _).map _).length=_;rw [ax,MJ];exact h.fl _ (line_mem h a)
  ·show ((List.range _).map _).length=_;rw [ax,MJ];exact h.fl _ (line_mem h (by rw [<- h.ll];exact c))
 ·show ((List.range _).map _).length=(t.others.set _ _).length;rw [ax,MJ,MN,h.wl]
end Go.Jog.Lp
namespace Go.Proofs.YthnpijdjlddpmaaGreatDoor
open Tryz
open Go Go.Jog
set_option maxRecDepth 100000
theorem rP {a b:Rat}{k m:Nat}(c:QB k a)(d:QB m b):QB (k+m) (a*b):=by
 rw [fP];refine gp (Nat.mul_ne_zero a.den_nz b.den_nz) ?_ ?_
 ·rw [Nr,On];exact NE c.1 d.1
 ·rw [On];exact NE c.2 d.2
def gZ (r:List Rat × Rat):List Str × Str:=(r.1.map qtx,qtx r.2)
structure RowsQ (n:Nat)(rs:List (List Rat × Rat)):Prop where
 l:∀ r∈rs,r.1.length=n
 q:∀ r∈rs,(∀ x∈r.1,QB 23 x)/\QB 23 r.2
 m:rs.length<=150
theorem KA {l:List Rat}{j:Nat}(h:∀ x∈l,QB 23 x):QB 23 (l.getD j 0):=by
 rw [ak];cases e:l[j]? with
 | none=>exact ⟨by decide,by decide⟩
 | some x=>exact h x (LQ e)
theorem rK (q:Rat):decide (dX q.num<0)=decide (q<0):=by
 have h:q.num<0 ↔ q<0:=by rw [Rat.lt_iff];simp
 rw [MH];unfold dX;by_cases h1:q.num<0
 ·rw [aI h1];exact ⟨fun _=>h.1 h1,fun _=>by decide⟩
 ·rw [aC h1];exact ⟨fun h2=>by split at h2 <;> exact absurd h2 dc_,fun h2=>absurd (h.2 h2) h1⟩
open Classical in
theorem qO (b:Bool):oW b=0/\b=true∨oW b=2/\b=false:=by cases b <;> simp [oW]
theorem bG:∀ q:Rat,(aT q).length=1:=fun _=>rfl
open Classical in
theorem Cp (q:Rat):decide (dX q.num ≥ 0)=decide (0<=q):=by
 have h:=rK q;have h2:decide (0<=q)=!decide (q<0):=by
  rw [<- decide_not,MH];grind
 rw [h2,<- h,<- decide_not,MH];omega
end Go.Proofs.YthnpijdjlddpmaaGreatDoor
namespace Go.Jog.Lp
theorem cH:∀ {l:List Nat}{i:Nat},l.Nodup->i<l.length->l.idxOf (l.getD i 0)=i
 | x::l,0,_,_=>by simp []
 | x::l,i+1,c,d=>by
  have a:=OS.1 c;have b:i<l.length:=by simpa using d
  have hm:l.getD i 0∈l:=by
   rw [ak,aj b];exact MP _
  show (x::l).idxOf (l.getD i 0)=i+1;rw [List.idxOf_cons];have e:(x == l.getD i 0)=false:=by
   rw [M5];rintro rfl;exact a.1 hm
  rw [e,cH a.2 b];rfl
theorem gz {l:List Nat}{i:Nat}(h:i<l.length):l.getD i 0∈l:=by
 rw [ak,aj h];exact MP _
theorem cY {l:List Nat}{v:Nat}(h:v∈l):∃ i,i<l.length/\l.getD i 0=v:=by
 obtain ⟨i,a,e⟩:=List.getElem_of_mem h;exact ⟨i,a,by rw [ak,aj a,e];rfl⟩
section
variable {t:Tab} {N:Nat}
theorem Tab.Ok.nb (h:t.Ok N):t.basic.Nodup:=(Np.1 h.nd).1
theorem Tab.Ok.no (h:t.Ok N):t.others.Nodup:=(Np.1 h.nd).2.1
theorem Tab.Ok.dj (h:t.Ok N){v:Nat}(a:v∈t.basic)(b:v∈t.others):False:=(Np.1 h.nd).2.2 v a v b rfl
theorem bas_mem {i:Nat}(h:i<t.basic.length):t.bas i∈t.basic:=gz h
theorem oth_mem {j:Nat}(h:j<t.others.length):t.oth j∈t.others:=gz h
def Tab.ext (t:Tab)(y:Nat->Rat)(v:Nat):Rat:=if v∈t.basic then lv (t.line (t.basic.idxOf v)) t.others y else y v
theorem so (_b:t.Ok N){y:Nat->Rat}{v:Nat}(a:v ∉ t.basic):t.ext y v=y v:=aC a
theorem sq (h:t.Ok N){y:Nat->Rat}{i:Nat}(a:i<t.basic.length):t.ext y (t.bas i)=lv (t.line i) t.others y:=by
 unfold Tab.ext;rw [aI (bas_mem a)];unfold Tab.bas;rw [cH h.nb a]
theorem ul (h:t.Ok N){y:Nat->Rat}(l:Line):lv l t.others (t.ext y)=lv l t.others y:=by
 unfold lv;congr 1;exact aK fun j a=>by rw [show t.ext y (t.others.getD j 0)=y (t.others.getD j 0) from so h (fun b=>h.dj b (oth_mem a))]
theorem lj (h:t.Ok N)(y:Nat->Rat):t.Sol (t.ext y):=fun i a=>by rw [sq h a,ul h]
theorem Dh (l:Line)(a:List Nat):lv l a (fun _=>0)=l.c:=by
 unfold lv;rw [bU fun j _=>by grind];grind
def Tab.sol (t:Tab):Nat->Rat:=t.ext fun _=>0
theorem sol_bas (h:t.Ok N){i:Nat}(a:i<t.basic.length):t.sol (t.bas i)=(t.line i).c:=by
 unfold Tab.sol;rw [sq h a,Dh]
theorem sol_oth (h:t.Ok N){v:Nat}(a:v ∉ t.basic):t.sol v=0:=by unfold Tab.sol;rw [so h a]
theorem dQ (h:t.Ok N):t.Sol t.sol:=lj h _
theorem zg (h:t.Ok N):t.W t.sol=t.worth.c:=by
 unfold Tab.W Tab.sol;rw [ul h,Dh]
theorem CZ {r s v:Nat}(h:t.Ok N)(d:r<t.basic.length)(_n:s<t.others.length):v∈(t.pivot r s).basic ↔ v=t.oth s∨v∈t.basic/\v≠t.bas r:=by
 have f:∀ i,(t.pivot r s).bas i=if i=r then t.oth s else t.bas i:=fun i=>nt d;have g:(t.pivot r s).basic.length=t.basic.length:=MN;constructor
 ·intro j;obtain ⟨i,b,e⟩:=cY j;rw [g] at b;have a:(t.pivot r s).bas i=v:=e;rw [f] at a;by_cases c:i=r
  ·rw [aI c] at a;exact .inl a.symm
  ·rw [aC c] at a;refine .inr ⟨by rw [<- a];exact bas_mem b,fun k=>c ?_⟩;have h1:=cH h.nb b;have h2:=cH h.nb d;have l:t.basic.getD i 0=t.basic.getD r 0:=by rw [show t.basic.getD i 0=v from a];exact k
   rw [l,h2] at h1;exact h1.symm
 ·rintro (rfl | ⟨j,m⟩)
  ·have:=bas_mem (t:=t.pivot r s) (i:=r) (by rw [g];exact d);rw [f,aI rfl] at this;exact this
  ·obtain ⟨i,b,e⟩:=cY j;have c:i≠r:=by rintro rfl;exact m e.symm
   have:=bas_mem (t:=t.pivot r s) (i:=i) (by rw [g];exact b);rw [f,aC c] at this;rw [<- e];exact this
end
structure Way (F N:Nat)(T:Nat->Tab)(R S:Nat->Nat)(K:Nat):Prop where
 ok:(T 0).Ok N
 st:∀ k,k<K->T (k+1)=(T k).pivot (R k) (S k)
 r:∀ k,k<K->R k<(T k).basic.length
 s:∀ k,k<K->S k<(T k).others.length
 ne:∀ k,k<K->((T k).line (R k)).g (S k)≠0
 rs:∀ k,k<K->F<=(T k).bas (R k)
 ss:∀ k,k<K->F<=(T k).oth (S k)
section
variable {F N K:Nat} {T:Nat->Tab} {R S:Nat->Nat}
theorem Way.oks (h:Way F N T R S K):∀ k,k<=K->(T k).Ok N
 | 0,_=>h.ok
 | k+1,a=>by
  rw [h.st k a];exact xP (h.oks k om_) (h.r k a) (h.s k a)
theorem Way.sol1 (h:Way F N T R S K){x:Nat->Rat}:∀ k,k<=K->((T k).Sol x ↔ (T 0).Sol x)
 | 0,_=>Iff.rfl
 | k+1,a=>by
  rw [h.st k a,ua (h.oks k om_) (h.r k a) (h.s k a) (h.ne k a)];exact h.sol1 k om_
theorem Way.sols (h:Way F N T R S K){x:Nat->Rat}{k l:Nat}(a:k<=K)(b:l<=K):(T k).Sol x ↔ (T l).Sol x:=(h.sol1 k a).trans (h.sol1 l b).symm
theorem Way.w1 (h:Way F N T R S K){x:Nat->Rat}(b:(T 0).Sol x):∀ k,k<=K->(T k).W x=(T 0).W x
 | 0,_=>rfl
 | k+1,a=>by
  rw [h.st k a,Cv (h.oks k om_) (h.r k a) (h.s k a) (h.ne k a) ((h.sol1 k om_).2 b)];exact h.w1 b k om_
theorem Way.ws (h:Way F N T R S K){x:Nat->Rat}{k l:Nat}(a:k<=K)(b:l<=K)(c:(T k).Sol x):(T k).W x=(T l).W x :=
 have h0:=(h.sol1 k a).1 c
 (h.w1 h0 k a).trans (h.w1 h0 l b).symm
def ED (T:Nat->Tab)(R S:Nat->Nat)(a b v:Nat):Prop:=∃ k,a<=k/\k<b/\((T k).bas (R k)=v∨(T k).oth (S k)=v)
theorem Way.step (h:Way F N T R S K){k v:Nat}(a:k<K):v∈(T (k+1)).basic ↔ v=(T k).oth (S k)∨v∈(T k).basic/\v≠(T k).bas (R k):=by
 rw [h.st k a];exact CZ (h.oks k om_) (h.r k a) (h.s k a)
theorem Way.still (h:Way F N T R S K){a b v:Nat}(f:b<=K)(c:¬ ED T R S a b v):∀ k,a<=k->k<=b->(v∈(T k).basic ↔ v∈(T a).basic):=by
 intro k g;induction k with
 | zero=>intro _;rw [show a=0 by omega]
 | succ k d =>
  intro i;rcases Mw k a with h1 | h1
  ·rw [show a=k+1 by omega]
  ·rw [h.step om_,<- d h1 om_];constructor
   ·rintro (rfl | ⟨h2,_⟩)
    ·exact absurd ⟨k,h1,by omega,.inr Z⟩ c
    ·exact h2
   ·intro h2;exact .inr ⟨h2,fun e=>c ⟨k,h1,by omega,.inl e.symm⟩⟩
theorem Way.leaves (h:Way F N T R S K){a b v:Nat}(o:b<=K)(j:v∈(T a).basic ↔ v∈(T b).basic)(m:ED T R S a b v):∃ k,a<=k/\k<b/\(T k).bas (R k)=v:=by
 apply Mu;intro f;obtain ⟨k,h1,h2,h3 | h3⟩:=m
 ·exact f ⟨k,h1,h2,h3⟩
 ·have up:∀ l,k+1<=l->l<=b->v∈(T l).basic:=by
   intro l;induction l with
   | zero=>intro h4;omega
   | succ l g =>
    intro h4 h5;rw [h.step om_];rcases Mw l (k+1) with c | c
    ·rw [show l=k by omega];exact .inl h3.symm
    ·exact .inr ⟨g c om_,fun e=>f ⟨l,by omega,by omega,e.symm⟩⟩
  have d:=j.2 (up b om_ (LP _));have n:∀ l,a<=l->l<=k->v∈(T l).basic:=by
   intro l;induction l with
   | zero=>intro h4 _;rw [show a=0 by omega] at d;exact d
   | succ l g =>
    intro h4 h5;rcases Mw l a with c | c
    ·rw [show a=l+1 by omega] at d;exact d
    ·rw [h.step om_];exact .inr ⟨g c om_,fun e=>f ⟨l,by omega,by omega,e.symm⟩⟩
  have i:=n k h1 (LP _);rw [<- h3] at i;exact (h.oks k om_).dj i (oth_mem (h.s k om_))
theorem Way.enters (h:Way F N T R S K){a b v:Nat}(p:b<=K)(j:v∈(T a).basic ↔ v∈(T b).basic)(m:ED T R S a b v):∃ k,a<=k/\k<b/\(T k).oth (S k)=v:=by
 apply Mu;intro f;obtain ⟨k,h1,h2,h3 | h3⟩:=m
 ·have up:∀ l,k+1<=l->l<=b->v ∉ (T l).basic:=by
   intro l;induction l with
   | zero=>intro h4;omega
   | succ l g =>
    intro h4 h5 hm;rcases (h.step om_).1 hm with e | ⟨e,n⟩
    ·exact f ⟨l,by omega,by omega,e.symm⟩
    ·rcases Mw l (k+1) with c | c
     ·have:l=k:=by omega
      subst this;exact n h3.symm
     ·exact g c om_ e
  have d:v ∉ (T a).basic:=fun hm=>up b om_ (LP _) (j.1 hm);have o:∀ l,a<=l->l<=k->v ∉ (T l).basic:=by
   intro l;induction l with
   | zero=>intro h4 _;rw [show a=0 by omega] at d;exact d
   | succ l g =>
    intro h4 h5 hm;rcases Mw l a with c | c
    ·rw [show a=l+1 by omega] at d;exact d hm
    ·rcases (h.step om_).1 hm with e | ⟨e,_⟩
     ·exact f ⟨l,by omega,by omega,e.symm⟩
     ·exact g c om_ e
  have i:=o k h1 (LP _);rw [<- h3] at i;exact i (bas_mem (h.r k om_))
 ·exact f ⟨k,h1,h2,h3⟩
theorem Way.fick_slack (h:Way F N T R S K){a b v:Nat}(d:b<=K)(c:ED T R S a b v):F<=v/\v<N:=by
 obtain ⟨k,h1,h2,h3 | h3⟩:=c
 ·rw [<- h3];exact ⟨h.rs k om_,(h.oks k om_).lt _ (Na _ (bas_mem (h.r k om_)))⟩
 ·rw [<- h3];exact ⟨h.ss k om_,(h.oks k om_).lt _ (Nz _ (oth_mem (h.s k om_)))⟩
theorem Dc {p:Nat->Prop}:∀ N:Nat,(∀ v,p v->v<N)->(∃ v,p v)->∃ t,p t/\∀ u,p u->u<=t
 | 0,a,⟨v,b⟩=>absurd (a v b) (Nat.not_lt_zero _)
 | N+1,a,d=>by
  by_cases c:p N
  ·exact ⟨N,c,fun u e=>by have:=a u e;omega⟩
  ·exact Dc N (fun v b=>by
    have:=a v b;rcases Mw v N with h1 | h1
    ·exact h1
    ·exact absurd (show p N by rwa [show N=v by omega]) c) d
theorem Way.moved (h:Way F N T R S K){a b k l v:Nat}(c:b<=K)(e:a<=k)(f:k<=b)(g:a<=l)(i:l<=b)(j:v∈(T k).basic)(m:v ∉ (T l).basic):ED T R S a b v:=by
 apply Mu;intro d;exact m (((h.still c d k e f).trans (h.still c d l g i).symm).1 j)
theorem Way.feas (h:Way F N T R S K)
  (q:∀ k,k<K->((T k).line (R k)).c<0/\∀ i,i<(T k).basic.length->F<=(T k).bas i->((T k).line i).c<0->(T k).bas (R k)<=(T k).bas i)
  (B:∀ k,k<K->0<((T k).line (R k)).g (S k)/\∀ j,j<(T k).others.length->F<=(T k).oth j->0<((T k).line (R k)).g j->(T k).oth (S k)<=(T k).oth j)
  {a b:Nat} (P:a<b) (d:b<=K):¬ ∀ v,v∈(T a).basic ↔ v∈(T b).basic:=by
 intro hs;obtain ⟨t,C,D⟩:=Dc (p:=ED T R S a b) N (fun v Q=>(h.fick_slack d Q).2) ⟨_,a,LP _,P,.inl rfl⟩;obtain ⟨k,U,k2,E⟩:=h.leaves d (hs t) C;obtain ⟨l,l1,l2,w⟩:=h.enters d (hs t) C;have f:=h.oks k om_;have n:=h.oks l om_;have G:=h.r l om_;have H:=h.s l om_
 -- basic fickle slacks of the first one are not below 0,but t
 have pos:∀ u,ED T R S a b u->u≠t->0<=(T k).sol u:=by
  intro u I V;by_cases m:u∈(T k).basic
  ·obtain ⟨i,J,e⟩:=cY m;have y:(T k).bas i=u:=e;rw [<- y,sol_bas f J];apply Mu;intro L;have:=(q k om_).2 i J (by rw [y];exact (h.fick_slack d I).1) (by grind);rw [E,y] at this;exact V (Nat.le_antisymm (D u I) this)
  ·rw [sol_oth f m];exact Rat.le_refl
 have L:(T k).sol t<0:=by
  rw [<- E,sol_bas f (h.r k om_)];exact (q k om_).1
 have W:=(h.sols (x:=(T k).sol) om_ om_).1 (dQ f) (R l) G;have X:(T l).bas (R l)≠t:=by
  intro e;have:=bas_mem G;rw [e,<- w] at this;exact n.dj this (oth_mem H)
 have M:=pos _ ⟨l,l1,l2,.inl rfl⟩ X;rw [W] at M;have hc:=(q l om_).1;have aa:sumN (fun j=>((T l).line (R l)).g j*(T k).sol ((T l).others.getD j 0)) (T l).others.length<=0:=by
  refine vy fun j z=>?_;show ((T l).line (R l)).g j*(T k).sol ((T l).oth j)<=0;by_cases o:(T l).oth j=t
  ·have Y:0<((T l).line (R l)).g j:=by
    have e:j=S l:=by
     have O:=cH n.no z;have Z:=cH n.no H;have e3:(T l).others.getD j 0=(T l).others.getD (S l) 0:=o.trans w.symm;rw [e3,Z] at O;exact O.symm
    rw [e];exact (B l om_).1
   rw [o];have:=Rat.mul_lt_mul_of_pos_left L Y;grind
  ·by_cases m:(T l).oth j∈(T k).basic
   ·have A:=h.moved d U om_ l1 om_ m (fun hm=>n.dj hm (oth_mem z));have hx:=pos _ A o;have hg:((T l).line (R l)).g j<=0:=by
     apply Mu;intro ab;have:=(B l om_).2 j z (h.fick_slack d A).1 (by grind);rw [w] at this;exact o (Nat.le_antisymm (D _ A) this)
    have:=Rat.mul_nonneg (show 0<=-((T l).line (R l)).g j by grind) hx;grind
   ·rw [sol_oth f m];grind
 unfold lv at M;grind
end
end Go.Jog.Lp
namespace Go.Jog.Lp
section
variable {t:Tab} {N:Nat}
theorem Dj {l:Line}{a:List Nat}{x:Nat->Rat}(h:∀ j,j<a.length->x (a.getD j 0)=0):lv l a x=l.c:=by
 unfold lv;rw [bU fun j b=>by rw [h j b];grind];grind
theorem xu (h:t.Ok N){x:Nat->Rat}(d:t.Sol x)(b:∀ v,v ∉ t.basic->x v=0):∀ v,x v=t.sol v:=by
 intro v;by_cases a:v∈t.basic
 ·obtain ⟨i,c,e⟩:=cY a;have f:t.bas i=v:=e;rw [<- f,sol_bas h c,d i c,Dj fun j g=>b _ (fun k=>h.dj k (oth_mem g))]
 ·rw [b v a,sol_oth h a]
theorem KM (h:t.Ok N){x:Nat->Rat}(a:∀ v,v ∉ t.basic->x v=0):t.W x=t.worth.c:=Dj fun _e b=>a _ (fun d=>h.dj d (oth_mem b))
def cZ (s:Nat)(v:Nat):Rat:=if v=s then 1 else 0
theorem nZ (h:t.Ok N){l:Line}{s:Nat}(a:s<t.others.length):lv l t.others (cZ (t.oth s))=l.c+l.g s:=by
 rw [zI a,bU fun j b=>?_]
 ·show l.c+(l.g s*cZ (t.oth s) (t.oth s)+0)=_;unfold cZ;rw [aI rfl];grind
 ·by_cases e:j=s
  ·rw [aI e]
  ·rw [aC e];unfold cZ;rw [aC,Rat.mul_zero];intro d;have h1:=cH h.no b;rw [show t.others.getD j 0=t.others.getD s 0 from d,cH h.no a] at h1;exact e h1.symm
end
section
variable {F N K:Nat} {T:Nat->Tab} {R S:Nat->Nat}
theorem Way.mini (h:Way F N T R S K)
  (A:∀ k,k<K->(T k).worth.g (S k)<0/\∀ j,j<(T k).others.length->F<=(T k).oth j->(T k).worth.g j<0->(T k).oth (S k)<=(T k).oth j)
  (I:∀ k,k<K->((T k).line (R k)).g (S k)<0/\∀ i,i<(T k).basic.length->F<=(T k).bas i->((T k).line i).g (S k)<0->((T k).line (R k)).c=0->((T k).line i).c=0->(T k).bas (R k)<=(T k).bas i)
  (h3:∀ k,k<K->∀ i,i<(T k).basic.length->F<=(T k).bas i->0<=((T k).line i).c)
  {a b:Nat} (ag:a<b) (n:b<=K):¬ ∀ v,v∈(T a).basic ↔ v∈(T b).basic:=by
 intro hs
 -- the worth of the basic solutions
 have U:∀ k,k<K->(T (k+1)).worth.c=(T k).worth.c+(T k).worth.g (S k)*(-((T k).line (R k)).c / ((T k).line (R k)).g (S k)):=fun k f=>by
  rw [h.st k f];rfl
 have V:∀ k,k<K->0<=-((T k).line (R k)).c / ((T k).line (R k)).g (S k)/\(-((T k).line (R k)).c / ((T k).line (R k)).g (S k)=0->((T k).line (R k)).c=0):=fun k f=>by
  have X:=h3 k f (R k) (h.r k f) (h.rs k f);have hg:=(I k f).1;generalize ((T k).line (R k)).c=c at X;generalize ((T k).line (R k)).g (S k)=g at hg;have e:-c / g=c*(-g)⁻¹:=by grind
  have hp:0<(-g)⁻¹:=Rat.inv_pos.2 (by grind);refine ⟨by rw [e];exact Rat.mul_nonneg X (by grind),fun h0=>?_⟩;grind
 have Y:∀ k,k<K->(T (k+1)).worth.c<=(T k).worth.c:=fun k f=>by
  rw [U k f];have:=Rat.mul_nonneg (show 0<=-(T k).worth.g (S k) by have:=(A k f).1;grind) (V k f).1;grind
 have Z:∀ d k,k+d<=K->(T (k+d)).worth.c<=(T k).worth.c:=by
  intro d;induction d with
  | zero=>intro k _;exact Rat.le_refl
  | succ d J =>
   intro k f;exact Rat.le_trans (Y (k+d) om_) (J k om_)
 have L:=h.oks a om_;have ah:=h.oks b n;have aw:(T a).worth.c=(T b).worth.c:=by
  rw [<- zg L,h.ws om_ n (dQ L)];exact KM ah fun v B=>sol_oth L (fun hm=>B ((hs v).1 hm))
 have aa:∀ k,a<=k->k<b->((T k).line (R k)).c=0:=by
  intro k o y;have q:=Z (k-a) a om_;rw [show a+(k-a)=k by omega] at q;have u:=Z (b-(k+1)) (k+1) om_;rw [show k+1+(b-(k+1))=b by omega] at u;have e3:=U k om_;have e4:=Y k om_;have e5:(T k).worth.g (S k)*(-((T k).line (R k)).c / ((T k).line (R k)).g (S k))=0:=by grind
  refine (V k om_).2 ?_;rcases Rat.mul_eq_zero.1 e5 with M | M
  ·have:=(A k om_).1;rw [M] at this;exact absurd this dc_
  ·exact M
 have ab:∀ k,a<=k->k<=b->∀ v,(T k).sol v=(T a).sol v:=by
  intro k;induction k with
  | zero=>intro o _ v;rw [show a=0 by omega]
  | succ k J =>
   intro o y v;rcases Mw k a with h5 | h5
   ·rw [show a=k+1 by omega]
   ·rw [<- J h5 om_ v];symm;refine xu (h.oks (k+1) om_) ((h.sols om_ om_).1 (dQ (h.oks k om_))) (fun w C=>?_) v;by_cases ac:w∈(T k).basic
    ·have e:w=(T k).bas (R k):=by
      apply Mu;intro O;exact C ((h.step om_).2 (.inr ⟨ac,O⟩))
     rw [e,sol_bas (h.oks k om_) (h.r k om_),aa k h5 om_]
    ·exact sol_oth (h.oks k om_) ac
 have ai:∀ v,ED T R S a b v->∀ k,a<=k->k<=b->(T k).sol v=0:=by
  intro v B k o y;obtain ⟨l,l1,l2,e⟩:=h.enters n (hs v) B;rw [ab k o y v,<- ab l l1 om_ v];exact sol_oth (h.oks l om_) (fun hm=>(h.oks l om_).dj hm (by rw [<- e];exact oth_mem (h.s l om_)))
 obtain ⟨t,ht,ad⟩:=Dc (p:=ED T R S a b) N (fun v B=>(h.fick_slack n B).2) ⟨_,a,LP _,ag,.inl rfl⟩;obtain ⟨k,o,y,f⟩:=h.leaves n (hs t) ht;obtain ⟨l,l1,l2,hl⟩:=h.enters n (hs t) ht;have m:=h.oks k om_;have P:=h.oks l om_;have ae:=h.r k om_;have Q:=h.s k om_;have aj:=h.s l om_;have ak:=lj m (cZ ((T k).oth (S k)));have w1:=h.ws (k:=k) (l:=l) om_ om_ ak;have w0:=h.ws (k:=k) (l:=l) om_ om_ (dQ m);rw [zg m] at w0;have al:(T k).W ((T k).ext (cZ ((T k).oth (S k))))=(T k).worth.c+(T k).worth.g (S k):=by
  unfold Tab.W;rw [ul m,nZ m Q]
 rw [al] at w1;have ax:=(A k om_).1;have am:ED T R S a b ((T k).oth (S k)):=⟨k,o,y,.inr rfl⟩;have an:(T k).oth (S k)≠t:=by
  intro e;have h4:=bas_mem ae;rw [f,<- e] at h4;exact m.dj h4 (oth_mem Q)
 -- a fickle one but t does not lower the worth at the second place
 have af:∀ j,j<(T l).others.length->ED T R S a b ((T l).oth j)->(T l).oth j≠t->0<=(T l).worth.g j:=by
  intro j z x O;apply Mu;intro ao;have:=(A l om_).2 j z (h.fick_slack n x).1 (by grind);rw [hl] at this;exact O (Nat.le_antisymm (ad _ x) this)
 have ap:0<=sumN (fun j=>(T l).worth.g j*((T k).ext (cZ ((T k).oth (S k))) ((T l).oth j)-(T k).sol ((T l).oth j))) (T l).others.length:=by
  refine BD fun j z=>?_;by_cases G:(T l).oth j∈(T k).basic
  ·have x:=h.moved n o om_ l1 om_ G (fun hm=>P.dj hm (oth_mem z));obtain ⟨i,D,e⟩:=cY G;have E:(T k).bas i=(T l).oth j:=e;have aq:((T k).line i).c=0:=by rw [<- sol_bas m D,E];exact ai _ x k o om_
   rw [<- E,sq m D,sol_bas m D,nZ m Q];have ez:((T k).line i).c+((T k).line i).g (S k)-((T k).line i).c=((T k).line i).g (S k):=by grind
   rw [ez];by_cases H:(T l).oth j=t
   ·have ar:j=S l:=by
     have q:=cH P.no z;rw [show (T l).others.getD j 0=(T l).others.getD (S l) 0 from H.trans hl.symm,cH P.no aj] at q;exact q.symm
    have au:i=R k:=by
     have q:=cH m.nb D;rw [show (T k).basic.getD i 0=(T k).basic.getD (R k) 0 from (E.trans H).trans f.symm,cH m.nb ae] at q;exact q.symm
    have g1:=(A l om_).1;have g2:=(I k om_).1;rw [<- ar] at g1;rw [<- au] at g2;have:=Rat.mul_nonneg (show 0<=-(T l).worth.g j by grind) (show 0<=-((T k).line i).g (S k) by grind);grind
   ·have C:=af j z x H;refine Rat.mul_nonneg C ?_;apply Mu;intro ao;have:=(I k om_).2 i D (by rw [E];exact (h.fick_slack n x).1) (by grind) (aa k o y) aq;rw [f,E] at this;exact H (Nat.le_antisymm (ad _ x) this)
  ·rw [so m G,sol_oth m G];unfold cZ;split
   ·rename_i e;have C:=af j z (by rw [e];exact am) (by rw [e];exact an);have u:(1:Rat)-0=1:=by grind
    rw [u,Rat.mul_one];exact C
   ·have u:(0:Rat)-0=0:=by grind
    rw [u,Rat.mul_zero];exact Rat.le_refl
 have av:(T l).W ((T k).ext (cZ ((T k).oth (S k))))-(T l).W (T k).sol=sumN (fun j=>(T l).worth.g j*((T k).ext (cZ ((T k).oth (S k))) ((T l).oth j)-(T k).sol ((T l).oth j))) (T l).others.length:=by
  have e:=cX (fun j=>(T l).worth.g j*((T k).ext (cZ ((T k).oth (S k))) ((T l).oth j)-(T k).sol ((T l).oth j))) (fun j=>(T l).worth.g j*(T k).sol ((T l).oth j)) (T l).others.length;have u:sumN (fun j=>(T l).worth.g j*((T k).ext (cZ ((T k).oth (S k))) ((T l).oth j)-(T k).sol ((T l).oth j))+(T l).worth.g j*(T k).sol ((T l).oth j)) (T l).others.length=sumN (fun j=>(T l).worth.g j*(T k).ext (cZ ((T k).oth (S k))) ((T l).others.getD j 0)) (T l).others.length:=aK fun j _=>by
   show _=(T l).worth.g j*(T k).ext (cZ ((T k).oth (S k))) ((T l).oth j);grind
  rw [u] at e;unfold Tab.W lv;rw [e];show _-((T l).worth.c+sumN (fun j=>(T l).worth.g j*(T k).sol ((T l).oth j)) (T l).others.length)=_;grind
 rw [<- av,<- w1,<- w0] at ap;grind
end
end Go.Jog.Lp
namespace Go.Jog.Lp
variable {F K N:Nat}{P:Tab->Nat->Nat->Prop}{r s:Nat}{t:Tab}
def cdN (p:Nat->Bool):Nat->Nat
 | 0=>0
 | n+1=>cdN p n+(if p n then 2 ^ n else 0)
theorem yE (p:Nat->Bool):∀ n,cdN p n<2 ^ n
 | 0=>Nat.one_pos
 | n+1=>by
  have:=yE p n;have e:2 ^ (n+1)=2 ^ n+2 ^ n:=by rw [M7];omega
  simp only [cdN];split <;> omega
theorem wu {p q:Nat->Bool}:∀ {n:Nat},cdN p n=cdN q n->∀ v,v<n->p v=q v
 | n+1,h,v,d=>by
  have h1:=yE p n;have h2:=yE q n;simp only [cdN] at h;have a:p n=q n:=by
   cases b:p n <;> cases c:q n <;> simp [b,c] at h ⊢ <;> omega
  rw [a] at h;rcases Mw v n with h3 | h3
  ·exact wu om_ v h3
  ·rw [show v=n by omega];exact a
theorem Way.len {T:Nat->Tab}{R S:Nat->Nat}(h:Way F N T R S K)(g:∀ a b,a<b->b<=K->¬ ∀ v,v∈(T a).basic ↔ v∈(T b).basic):K+1<=2 ^ N:=by
 have i:((List.range (K+1)).map fun k=>cdN (fun v=>decide (v∈(T k).basic)) N).Nodup:=by
  unfold List.Nodup;rw [List.pairwise_map];refine List.Pairwise.imp_of_mem ?_ List.pairwise_lt_range;intro a b _ d j e;refine g a b j (by rw [Me] at d;omega) fun v=>?_;have f:∀ k,k<=K->v∈(T k).basic->v<N:=fun k l c=>(h.oks k l).lt v (Na _ c);rw [Me] at d;constructor
  ·intro c;have:=wu e v (f a om_ c);rw [Mc c] at this;exact K5 this.symm
  ·intro c;have:=wu e v (f b om_ c);rw [Mc c] at this;exact K5 this
 have:=List.Nodup.length_le_of_subset (l₂:=List.range (2 ^ N)) i (fun x m=>by
  obtain ⟨k,_,rfl⟩:=L4.1 m;exact Me.2 (yE _ N))
 simpa using this
def Reach (P:Tab->Nat->Nat->Prop)(t:Tab)(K:Nat):Prop:=∃ (T:Nat->Tab)(R S:Nat->Nat),T 0=t/\∀ k,k<K->P (T k) (R k) (S k)/\T (k+1)=(T k).pivot (R k) (S k)
theorem Reach.cons (h:P t r s)(a:Reach P (t.pivot r s) K):Reach P t (K+1):=by
 obtain ⟨T,R,S,h0,h1⟩:=a;refine ⟨fun k=>match k with | 0=>t | k+1=>T k,fun k=>match k with | 0=>r | k+1=>R k,fun k=>match k with | 0=>s | k+1=>S k,Z,fun k a=>?_⟩;cases k with
 | zero=>exact ⟨h,h0⟩
 | succ k=>exact h1 k om_
theorem Reach.one (h:P t r s):Reach P t 1:=Reach.cons h ⟨fun _=>t.pivot r s,fun _=>0,fun _=>0,rfl,fun _b a=>absurd a (Nat.not_lt_zero _)⟩
theorem Reach.fall {m:Nat}(h:P t r s)(a:∀ K,Reach P t K->K<=m):0<m/\∀ K,Reach P (t.pivot r s) K->K<=m-1:=by
 have h1:=a 1 (Reach.one h);exact ⟨by omega,fun K b=>by have:=a _ (Reach.cons h b);omega⟩
structure FeasP (F:Nat)(t:Tab)(r s:Nat):Prop where
 hr:r<t.basic.length
 hs:s<t.others.length
 rs:F<=t.bas r
 ss:F<=t.oth s
 c:(t.line r).c<0
 rl:∀ i,i<t.basic.length->F<=t.bas i->(t.line i).c<0->t.bas r<=t.bas i
 g:0<(t.line r).g s
 sl:∀ j,j<t.others.length->F<=t.oth j->0<(t.line r).g j->t.oth s<=t.oth j
def Tab.Feas (F:Nat)(t:Tab):Prop:=∀ i,i<t.basic.length->F<=t.bas i->0<=(t.line i).c
structure MinP (F:Nat)(t:Tab)(r s:Nat):Prop where
 hr:r<t.basic.length
 hs:s<t.others.length
 rs:F<=t.bas r
 ss:F<=t.oth s
 w:t.worth.g s<0
 sl:∀ j,j<t.others.length->F<=t.oth j->t.worth.g j<0->t.oth s<=t.oth j
 g:(t.line r).g s<0
 rl:∀ i,i<t.basic.length->F<=t.bas i->(t.line i).g s<0->(t.line r).c / -(t.line r).g s<(t.line i).c / -(t.line i).g s∨(t.line r).c / -(t.line r).g s=(t.line i).c / -(t.line i).g s/\t.bas r<=t.bas i
 feas:t.Feas F
theorem feas_len (h:t.Ok N)(f:Reach (FeasP F) t K):K<=2 ^ N:=by
 obtain ⟨T,R,S,h0,h1⟩:=f;have e:Way F N T R S K:=⟨by rw [h0];exact h,fun k d=>(h1 k d).2,fun k d=>(h1 k d).1.hr,fun k d=>(h1 k d).1.hs,fun k d=>by have:=(h1 k d).1.g;grind,fun k d=>(h1 k d).1.rs,fun k d=>(h1 k d).1.ss⟩;have:=e.len fun a b i j=>e.feas (fun k d=>⟨(h1 k d).1.c,(h1 k d).1.rl⟩) (fun k d=>⟨(h1 k d).1.g,(h1 k d).1.sl⟩) i j;omega
theorem min_len (h:t.Ok N)(f:Reach (MinP F) t K):K<=2 ^ N:=by
 obtain ⟨T,R,S,h0,h1⟩:=f;have d:Way F N T R S K:=⟨by rw [h0];exact h,fun k c=>(h1 k c).2,fun k c=>(h1 k c).1.hr,fun k c=>(h1 k c).1.hs,fun k c=>by have:=(h1 k c).1.g;grind,fun k c=>(h1 k c).1.rs,fun k c=>(h1 k c).1.ss⟩;have:=d.len fun a b j l=>d.mini (fun k c=>⟨(h1 k c).1.w,(h1 k c).1.sl⟩) (fun k c=>⟨(h1 k c).1.g,fun i m n o p q=>by
  rcases (h1 k c).1.rl i m n o with h3 | h3
  ·rw [p,q] at h3;have e:∀ x:Rat,0 / x=0:=fun x=>by grind
   rw [e,e] at h3;exact absurd h3 dc_
  ·exact h3.2⟩) (fun k c=>(h1 k c).1.feas) j l
 omega
theorem ub (a:r<t.basic.length)(i:Nat):(t.pivot r s).bas i=if i=r then t.oth s else t.bas i:=nt a
theorem nN (a:s<t.others.length)(j:Nat):(t.pivot r s).oth j=if j=s then t.bas r else t.oth j:=nt a
theorem min_feas (h:t.Ok N)(a:MinP F t r s):(t.pivot r s).Feas F:=by
 intro i b d;have l:(t.pivot r s).basic.length=t.basic.length:=MN;rw [l] at b;rw [ub a.hr] at d;rw [pivot_line (by rw [h.ll];exact b)];have m:=a.feas r a.hr a.rs;have p:=a.g;have f:0<=(t.line r).c / -(t.line r).g s:=by
  have a:0<(-(t.line r).g s)⁻¹:=Rat.inv_pos.2 (by grind);have e:(t.line r).c / -(t.line r).g s=(t.line r).c*(-(t.line r).g s)⁻¹:=by grind
  rw [e];exact Rat.mul_nonneg m (by grind)
 have j:-(t.line r).c / (t.line r).g s=(t.line r).c / -(t.line r).g s:=by grind
 by_cases e:i=r
 ·rw [aI e];show 0<=-(t.line r).c / (t.line r).g s;rw [j];exact f
 ·rw [aC e] at d ⊢;show 0<=(t.line i).c+(t.line i).g s*(-(t.line r).c / (t.line r).g s);rw [j];have q:=a.feas i b d;by_cases n:(t.line i).g s<0
  ·have k:(t.line r).c / -(t.line r).g s<=(t.line i).c / -(t.line i).g s:=by
    rcases a.rl i b d n with h3 | h3
    ·exact Rat.le_of_lt h3
    ·rw [h3.1];exact Rat.le_refl
   generalize (t.line r).c / -(t.line r).g s=th at k f;have o:(t.line i).c=-(t.line i).g s*((t.line i).c / -(t.line i).g s):=by grind
   have:=OU k (show 0<=-(t.line i).g s by grind);rw [<- o] at this;grind
  ·have:=Rat.mul_nonneg (show 0<=(t.line i).g s by grind) f;grind
end Go.Jog.Lp
namespace Go.Jog.Lp
variable {i n:Nat}
abbrev Col:=Nat->Rat
def detN:Nat->Nat->List Col->Rat
 | 0,_,_=>1
 | n+1,r,l=>sumN (fun i=>(-1) ^ i*((l.getD i fun _=>0) r*detN n (r+1) (l.eraseIdx i))) (n+1)
def det (r:Nat)(l:List Col):Rat:=detN l.length r l
theorem gF {r:Nat}{l:List Col}(h:l.length=n+1):det r l=sumN (fun i=>(-1) ^ i*((l.getD i fun _=>0) r*det (r+1) (l.eraseIdx i))) (n+1):=by
 unfold det;rw [h];show sumN _ (n+1)=_;refine aK fun i a=>?_;rw [List.length_eraseIdx,aI om_,h];rfl
theorem im (i:Nat):(-1:Rat) ^ (i+1)=-(-1) ^ i:=by rw [Rat.pow_succ];grind
theorem iW {a:Col}{b c:List Col}{d:Col}:(b++a::c).getD b.length d=a:=by
 rw [ak,Ms (LP _),NZ];rfl
theorem ux {a b:Col}{c e:List Col}{d:Col}:(c++a::b::e).getD (c.length+1) d=b:=by
 rw [ak,Ms om_,Nf];rfl
theorem ym {a b:Col}{c f:List Col}{d:Col}(h:i≠c.length):(c++a::f).getD i d=(c++b::f).getD i d:=by
 rw [ak,ak];rcases Mw i c.length with h1 | h1
 ·rw [MF h1,MF h1]
 ·rw [Ms h1,Ms h1];cases e:i-c.length with
  | zero=>omega
  | succ k=>rfl
theorem fT {a:Col}{b c:List Col}:(b++a::c).eraseIdx b.length=b++c:=by
 rw [List.eraseIdx_append_of_length_le (LP _),NZ];rfl
theorem qE {a b:Col}{c d:List Col}:(c++a::b::d).eraseIdx (c.length+1)=c++a::d:=by
 rw [List.eraseIdx_append_of_length_le om_,Nf];rfl
theorem DJ {l1 l2:List Col}(h:i≠l1.length)(e:i<l1.length+1+l2.length):∃ b c:List Col,b.length+1+c.length+1=l1.length+1+l2.length/\∀ a:Col,(l1++a::l2).eraseIdx i=b++a::c:=by
 rcases Mw i l1.length with h1 | h1
 ·refine ⟨l1.eraseIdx i,l2, ?_,fun a=>List.eraseIdx_append_of_lt_length h1 _⟩;rw [List.length_eraseIdx,aI h1];omega
 ·obtain ⟨k,d⟩:∃ k,i-l1.length=k+1:=⟨i-l1.length-1,by omega⟩;refine ⟨l1,l2.eraseIdx k, ?_,fun a=>?_⟩
  ·rw [List.length_eraseIdx,aI om_];omega
  ·rw [List.eraseIdx_append_of_length_le h1,d];rfl
theorem sx {p q:Rat}{a b:Col}:∀ (n r:Nat)(l1 l2:List Col),l1.length+1+l2.length=n->det r (l1++(fun k=>p*a k+q*b k)::l2)=p*det r (l1++a::l2)+q*det r (l1++b::l2)
 | 0,r,l1,l2,h=>by omega
 | n+1,r,l1,l2,h=>by
  rw [gF (n:=n) (by simp;omega),gF (l:=l1++a::l2) (n:=n) (by simp;omega),gF (l:=l1++b::l2) (n:=n) (by simp;omega),<- cE,<- cE,<- cX];refine aK fun i g=>?_;by_cases e:i=l1.length
  ·subst e;rw [iW,iW,iW,fT,fT,fT];grind
  ·rw [ym (b:=a) e,ym (a:=b) (b:=a) e];obtain ⟨d,f,hm,c⟩:=DJ (l1:=l1) (l2:=l2) e om_;rw [c,c,c,sx n (r+1) d f om_];grind
theorem DF {a b:Col}{c e:List Col}{d:Col}(h:i≠c.length)(g:i≠c.length+1):(c++a::b::e).getD i d=(c++b::a::e).getD i d:=by
 rw [ak,ak];rcases Mw i c.length with h1 | h1
 ·rw [MF h1,MF h1]
 ·rw [Ms h1,Ms h1];obtain ⟨k,f⟩:∃ k,i-c.length=k+2:=⟨i-c.length-2,by omega⟩;rw [f];rfl
theorem Ab {l1 l2:List Col}(h:i≠l1.length)(f:i≠l1.length+1)(g:i<l1.length+2+l2.length):∃ c d:List Col,c.length+2+d.length+1=l1.length+2+l2.length/\∀ a b:Col,(l1++a::b::l2).eraseIdx i=c++a::b::d:=by
 rcases Mw i l1.length with h1 | h1
 ·refine ⟨l1.eraseIdx i,l2, ?_,fun a b=>List.eraseIdx_append_of_lt_length h1 _⟩;rw [List.length_eraseIdx,aI h1];omega
 ·obtain ⟨k,e⟩:∃ k,i-l1.length=k+2:=⟨i-l1.length-2,by omega⟩;refine ⟨l1,l2.eraseIdx k, ?_,fun a b=>?_⟩
  ·rw [List.length_eraseIdx,aI om_];omega
  ·rw [List.eraseIdx_append_of_length_le h1,e];rfl
theorem xo (g:Nat->Rat):∀ n,sumN (fun j=>-g j) n=-sumN g n
 | 0=>by simp only [sumN];grind
 | n+1=>by simp only [sumN];rw [xo g n];grind
theorem xn {g:Nat->Rat}{a:Nat}(h:a+1<n):sumN g n=g a+g (a+1)+sumN (fun j=>if j=a∨j=a+1 then 0 else g j) n:=by
 rw [gd (a:=a) om_,gd (g:=fun j=>if j=a then 0 else g j) (a:=a+1) h,aC om_];have e:sumN (fun j=>if j=a+1 then 0 else if j=a then 0 else g j) n=sumN (fun j=>if j=a∨j=a+1 then 0 else g j) n:=aK fun j _=>by
  by_cases h1:j=a
  ·rw [aI (show j=a∨j=a+1 from .inl h1),aC om_,aI h1]
  ·by_cases h2:j=a+1
   ·rw [aI h2,aI (show j=a∨j=a+1 from .inr h2)]
   ·rw [aC h2,aC h1,aC om_]
 rw [e];grind
theorem sw {a b:Col}:∀ (n r:Nat)(l1 l2:List Col),l1.length+2+l2.length=n->det r (l1++a::b::l2)=-det r (l1++b::a::l2)
 | 0,r,l1,l2,h=>by omega
 | n+1,r,l1,l2,h=>by
  rw [gF (n:=n) (by simp;omega),gF (l:=l1++b::a::l2) (n:=n) (by simp;omega),xn (g:=fun i=>(-1) ^ i*((l1++a::b::l2).getD i (fun _=>0) r*det (r+1) ((l1++a::b::l2).eraseIdx i))) (a:=l1.length) om_,
   xn (g:=fun i=>(-1) ^ i*((l1++b::a::l2).getD i (fun _=>0) r*det (r+1) ((l1++b::a::l2).eraseIdx i))) (a:=l1.length) om_]
  rw [iW,ux,iW,ux,fT,qE,fT,qE,im];have e:sumN (fun j=>if j=l1.length∨j=l1.length+1 then 0 else (-1) ^ j*((l1++a::b::l2).getD j (fun _=>0) r*det (r+1) ((l1++a::b::l2).eraseIdx j))) (n+1) =
    -sumN (fun j=>if j=l1.length∨j=l1.length+1 then 0 else (-1) ^ j*((l1++b::a::l2).getD j (fun _=>0) r*det (r+1) ((l1++b::a::l2).eraseIdx j))) (n+1):=by
   rw [<- xo];refine aK fun j k=>?_;by_cases h1:j=l1.length∨j=l1.length+1
   ·rw [aI h1,aI h1];grind
   ·rw [aC h1,aC h1,DF om_ om_];obtain ⟨d,f,hm,c⟩:=Ab (l1:=l1) (l2:=l2) (i:=j) om_ om_ om_;rw [c,c,sw n (r+1) d f om_];grind
  rw [e];grind
theorem kD {a:Col}:∀ (l2:List Col)(r:Nat)(l1 c:List Col),det r (l1++a::(l2++a::c))=0
 | [],r,l1,c=>by
  have h:=sw (a:=a) (b:=a) _ r l1 c rfl;show det r (l1++a::a::c)=0;grind
 | b::l2,r,l1,c=>by
  have h:=sw (a:=a) (b:=b) _ r l1 (l2++a::c) rfl;have d:=kD (a:=a) l2 r (l1++[b]) c;rw [Mo] at d;show det r (l1++a::b::(l2++a::c))=0;rw [h,show l1++b::a::(l2++a::c)=l1++([b]++a::(l2++a::c)) from rfl,d];grind
theorem Jb {l:List Col}{j:Nat}(g:i<l.length)(k:j<l.length)(n:i≠j)(r:Nat):det r (l.set i (l.getD j fun _=>0))=0:=by
 have t:l[j]?=some (l.getD j fun _=>0):=by rw [ak,aj k];rfl
 have o:∀ {a b:Nat}{m:List Col}{x:Col},a<b->b<m.length->m[a]?=some x->m[b]?=some x->∃ c d f,m=c++x::(d++x::f):=by
  intro a b m x u p q s;refine ⟨m.take a,(m.drop (a+1)).take (b-a-1),m.drop (b+1), ?_⟩;have h1:m=m.take a++x::m.drop (a+1):=by
   have:=M4 a m;rw [MB om_] at this;rw [aj om_] at q;rw [Nc q] at this;exact this.symm
  have h2:m.drop (a+1)=(m.drop (a+1)).take (b-a-1)++x::m.drop (b+1):=by
   have:=M4 (b-a-1) (m.drop (a+1));rw [List.drop_drop,show a+1+(b-a-1)=b by omega,MB p] at this;rw [aj p] at s;rw [Nc s] at this;exact this.symm
  rw [<- h2];exact h1
 have h1:(l.set i (l.getD j fun _=>0))[i]?=some (l.getD j fun _=>0):=by rw [List.getElem?_set_self g]
 have h2:(l.set i (l.getD j fun _=>0))[j]?=some (l.getD j fun _=>0):=by rw [List.getElem?_set_ne n];exact t
 rcases Nat.lt_or_gt_of_ne n with h | h
 ·obtain ⟨c,d,f,e⟩:=o h (by rw [MN];exact k) h1 h2;rw [e];exact kD d r c f
 ·obtain ⟨c,d,f,e⟩:=o h (by rw [MN];exact g) h2 h1;rw [e];exact kD d r c f
theorem jX {l:List Col}{x:Col}(h:i<l.length):l.set i x=l.take i++x::l.drop (i+1):=List.set_eq_take_append_cons_drop.trans (aI h)
def GG (l:List Col)(x:Nat->Rat)(n:Nat):Col:=fun k=>sumN (fun j=>x j*(l.getD j fun _=>0) k) n
theorem yr {l:List Col}{i:Nat}(c:i<l.length)(x:Nat->Rat)(r:Nat):∀ n,n<=l.length->det r (l.set i (GG l x n))=sumN (fun j=>x j*det r (l.set i (l.getD j fun _=>0))) n
 | 0,_=>by
  have h:=sx (p:=0) (q:=0) (a:=fun _=>0) (b:=fun _=>0) _ r (l.take i) (l.drop (i+1)) rfl;rw [jX c];have e:GG l x 0=fun k=>(0:Rat)*(fun _=>0:Col) k+0*(fun _=>0:Col) k:=by
   funext k;show (0:Rat)=_;grind
  rw [e,h];simp only [sumN];grind
 | n+1,h=>by
  have d:=yr c x r n om_;have e:GG l x (n+1)=fun k=>1*GG l x n k+x n*(l.getD n fun _=>0) k:=by
   funext k;show sumN _ n+_=1*sumN _ n+_;grind
  rw [jX c,e,sx _ r _ _ rfl,<- jX c,<- jX c,d];simp only [sumN];grind
theorem KE {l:List Col}(a:i<l.length)(x:Nat->Rat)(r:Nat):det r (l.set i (GG l x l.length))=x i*det r l:=by
 rw [yr a x r _ (LP _),gd a];have e:l.set i (l.getD i fun _=>0)=l:=by
  rw [ak,aj a];exact List.set_getElem_self a
 rw [e,bU fun j b=>?_]
 ·grind
 ·by_cases h:j=i
  ·rw [aI h]
  ·rw [aC h,Jb a b (Ne.symm h)];grind
end Go.Jog.Lp
namespace Go.Jog.Lp
variable {a:Col}{f:Col->Rat}{l l1 l2:List Col}{r:Nat}{ys:List Rat}
def kN:List Rat->List Col->Col
 | y::ys,c::l,k=>y*c k+kN ys l k
 | _,_,_=>0
theorem yf {y1 y2:List Rat}(h:y1.length=l1.length)(k:Nat):kN (y1++y2) (l1++l2) k=kN y1 l1 k+kN y2 l2 k:=by
 induction l1 generalizing y1 with
 | nil =>
  have:y1=[]:=MA h;subst this;show kN y2 l2 k=0+_;grind
 | cons c l1 a =>
  cases y1 with
  | nil=>cases h
  | cons y y1 =>
   have:=a (y1:=y1) (by simpa using h);show y*c k+kN (y1++y2) (l1++l2) k=y*c k+kN y1 l1 k+_;rw [this];grind
theorem F4 (h:ys.length=l.length)(k:Nat):kN ys (l.map fun c=>fun k=>c k-f c*a k) k=kN ys l k-(kN ys (l.map fun c=>fun _=>f c) k)*a k:=by
 induction l generalizing ys with
 | nil =>
  have:ys=[]:=MA h;subst this;show (0:Rat)=0-0*a k;grind
 | cons c l b =>
  cases ys with
  | nil=>cases h
  | cons y ys =>
   have:=b (ys:=ys) (by simpa using h);show y*(c k-f c*a k)+kN ys _ k=y*c k+kN ys l k-(y*f c+kN ys _ k)*a k;rw [this];grind
theorem zJ (k a:Nat):kN ys (l.map fun c=>fun _=>f c) k=kN ys (l.map fun c=>fun _=>f c) a:=by
 induction l generalizing ys with
 | nil=>cases ys <;> rfl
 | cons c l b =>
  cases ys with
  | nil=>rfl
  | cons y ys =>
   show y*f c+kN ys _ k=y*f c+kN ys _ a;rw [b]
theorem oa {k:Nat}(h:∀ c∈l,c k=0):kN ys l k=0:=by
 induction l generalizing ys with
 | nil=>cases ys <;> rfl
 | cons c l a =>
  cases ys with
  | nil=>rfl
  | cons y ys =>
   show y*c k+kN ys l k=0;rw [h c aF,a fun d b=>h d (LW _ b)];grind
def KO (r m:Nat)(l:List Col):Prop:=∃ ys:List Rat,ys.length=l.length/\(∃ y∈ys,y≠0)/\∀ k,r<=k->k<r+m->kN ys l k=0
theorem xI {m:Nat}(s:a r≠0)(h:KO (r+1) m ((l1++l2).map fun c=>fun k=>c k-c r / a r*a k)):KO r (m+1) (l1++a::l2):=by
 obtain ⟨ys,g,⟨y,hy,i⟩,j⟩:=h;rw [ax,LZ] at g;have b:ys=ys.take l1.length++ys.drop l1.length:=(M4 _ _).symm;have e:(ys.take l1.length).length=l1.length:=by rw [Mv];omega
 have u:(ys.drop l1.length).length=l2.length:=by rw [Oi];omega
 have l:ys.length=(l1++l2).length:=by rw [LZ];omega
 obtain ⟨t,n⟩:∃ t:Rat,∀ k,kN ys ((l1++l2).map fun c=>fun _=>c r / a r) k=t:=⟨_,fun k=>zJ (f:=fun c=>c r / a r) k 0⟩;have o:∀ k,kN ys ((l1++l2).map fun c=>fun k=>c k-c r / a r*a k) k=kN ys (l1++l2) k-t*a k:=fun k=>by
  rw [F4 (f:=fun c=>c r / a r) l k,n]
 have p:∀ k,kN (ys.take l1.length++-t::ys.drop l1.length) (l1++a::l2) k=kN ys (l1++l2) k-t*a k:=fun k=>by
  rw [yf e];show _+(-t*a k+kN (ys.drop l1.length) l2 k)=_;have:=yf (y2:=ys.drop l1.length) (l2:=l2) e k;rw [<- b] at this;rw [this];grind
 refine ⟨ys.take l1.length++-t::ys.drop l1.length,by simp;omega,⟨y, ?_,i⟩,fun k h1 h2=>?_⟩
 ·rw [b] at hy;rcases Mh.1 hy with h | h
  ·exact Na _ h
  ·exact Nz _ (LW _ h)
 ·rw [p k,<- o k];rcases Mw r k with h3 | h3
  ·exact j k om_ om_
  ·have:k=r:=by omega
   subst this;refine oa fun c q=>?_;obtain ⟨d,_,rfl⟩:=L4.1 q;show d k-d k / a k*a k=0;grind
theorem xt {p:Col->Prop}(h:∃ c∈l,p c):∃ l1 a l2,l=l1++a::l2/\p a:=by
 obtain ⟨c,b,d⟩:=h;obtain ⟨l1,l2,e⟩:=List.append_of_mem b;exact ⟨l1,c,l2,e,d⟩
theorem rD:∀ (m r:Nat)(l:List Col),m<l.length->KO r m l
 | 0,r,l,h=>⟨List.replicate l.length 1,Nd,⟨1,by rw [List.mem_replicate];exact ⟨by omega,rfl⟩,by decide⟩,fun k h1 h2=>by omega⟩
 | m+1,r,l,h=>by
  by_cases b:∃ c∈l,c r≠0
  ·obtain ⟨l1,a,l2,e,d⟩:=xt b;subst e;exact xI d (rD m (r+1) _ (by simp at h ⊢;omega))
  ·obtain ⟨ys,h1,h2,h3⟩:=rD m (r+1) l om_;refine ⟨ys,h1,h2,fun k h4 h5=>?_⟩;rcases Mw r k with f | f
   ·exact h3 k om_ om_
   ·have:k=r:=by omega
    subst this;exact oa fun c g=>Mu fun i=>b ⟨c,g,i⟩
theorem D2 {t:Rat}{c:Col}{m1 m2:List Col}(h:a∈m1∨a∈m2):det r (m1++(fun k=>c k-t*a k)::m2)=det r (m1++c::m2):=by
 have e:(fun k=>c k-t*a k)=fun k=>1*c k + -t*a k:=by funext k;grind
 have h0:det r (m1++a::m2)=0:=by
  rcases h with h | h
  ·obtain ⟨b,d,e⟩:=List.append_of_mem h;rw [e,Mo];exact kD d r b m2
  ·obtain ⟨b,d,e⟩:=List.append_of_mem h;rw [e];exact kD b r m1 d
 rw [e,sx _ r m1 m2 rfl,h0];grind
theorem qI {r:Nat}{f:Col->Rat}{a:Col}{q:List Col}:∀ (l p:List Col),a∈q->det r (p++(l++q))=det r (p++(l.map (fun c=>fun k=>c k-f c*a k)++q))
 | [],p,h=>rfl
 | c::l,p,h=>by
  have h1:=qI (r:=r) (f:=f) l (p++[c]) h;rw [Mo,Mo] at h1;have h2:=D2 (r:=r) (t:=f c) (c:=c) (a:=a) (m1:=p) (m2:=l.map (fun c=>fun k=>c k-f c*a k)++q) (.inr (Nz _ h));show det r (p++c::(l++q))=det r (p++(fun k=>c k-f c*a k)::(l.map (fun c=>fun k=>c k-f c*a k)++q));rw [h2];exact h1
theorem qH {r:Nat}{f:Col->Rat}{a:Col}:∀ (l p:List Col),a∈p->det r (p++l)=det r (p++l.map (fun c=>fun k=>c k-f c*a k))
 | [],p,h=>rfl
 | c::l,p,h=>by
  have h1:=qH (r:=r) (f:=f) l (p++[c]) (Na _ h);rw [Mo,Mo] at h1;have h2:=D2 (r:=r) (t:=f c) (c:=c) (a:=a) (m1:=p) (m2:=l.map (fun c=>fun k=>c k-f c*a k)) (.inl h);show det r (p++c::l)=det r (p++(fun k=>c k-f c*a k)::l.map (fun c=>fun k=>c k-f c*a k));rw [h2];exact h1
theorem D3 (s:a r≠0):det r (l1++a::l2)=(-1) ^ l1.length*(a r*det (r+1) ((l1++l2).map fun c=>fun k=>c k-c r / a r*a k)):=by
 have h1:=qI (r:=r) (f:=fun c=>c r / a r) (a:=a) (q:=a::l2) l1 [] aF;have h2:=qH (r:=r) (f:=fun c=>c r / a r) (a:=a) l2 (l1.map (fun c=>fun k=>c k-c r / a r*a k)++[a]) (Nz _ aF);rw [Mo,Mo] at h2;rw [Nu,Nu] at h1;rw [h1];show det r (_++([a]++l2))=_;rw [h2];show det r (l1.map (fun c=>fun k=>c k-c r / a r*a k)++a::l2.map (fun c=>fun k=>c k-c r / a r*a k))=_;have h:(l1.map (fun c=>fun k=>c k-c r / a r*a k)).length=l1.length:=ax _;generalize i:l1.map (fun c=>fun k=>c k-c r / a r*a k)=L1 at h;generalize l:l2.map (fun c=>fun k=>c k-c r / a r*a k)=g;have m:∀ c,c∈L1∨c∈g->c r=0:=fun c b=>by
  rcases b with b | b
  ·rw [<- i] at b;obtain ⟨d,_,rfl⟩:=L4.1 b;show d r-d r / a r*a r=0;grind
  ·rw [<- l] at b;obtain ⟨d,_,rfl⟩:=L4.1 b;show d r-d r / a r*a r=0;grind
 rw [gF (n:=L1.length+g.length) (by simp;omega),gd (a:=L1.length) om_,iW,fT,h,My,i,l,bU fun j t=>?_]
 ·grind
 ·by_cases e:j=l1.length
  ·rw [aI e]
  ·rw [aC e];have h0:(L1++a::g).getD j (fun _=>0) r=0:=by
    rw [ak];rcases Mw j L1.length with h3 | h3
    ·rw [MF h3,aj h3];exact m _ (.inl (MP _))
    ·rw [Ms h3];obtain ⟨k,o⟩:∃ k,j-L1.length=k+1:=⟨j-L1.length-1,by omega⟩;rw [o,NC];cases p:g[k]? with
     | none=>rfl
     | some c=>exact m c (.inr (LQ p))
   rw [h0];grind
theorem pL:∀ (n r:Nat)(l:List Col),l.length=n->det r l=0->KO r n l
 | 0,r,l,b,h=>by
  have:l=[]:=MA b;subst this;exact absurd (show (1:Rat)=0 from h) dc_
 | n+1,r,l,b,h=>by
  by_cases f:∃ c∈l,c r≠0
  ·obtain ⟨l1,a,l2,e,d⟩:=xt f;subst e;rw [D3 d] at h;have h1:det (r+1) ((l1++l2).map fun c=>fun k=>c k-c r / a r*a k)=0:=by
    rcases Rat.mul_eq_zero.1 h with h2 | h2
    ·have g:∀ i:Nat,(-1:Rat) ^ i≠0:=fun i=>by
      induction i with
      | zero=>decide
      | succ i p=>rw [im];grind
     exact absurd h2 (g _)
    ·rcases Rat.mul_eq_zero.1 h2 with h3 | h3
     ·exact absurd h3 d
     ·exact h3
   exact xI d (pL n (r+1) _ (by simp at b ⊢;omega) h1)
  ·obtain ⟨ys,h1,h2,h3⟩:=rD n (r+1) l om_;refine ⟨ys,h1,h2,fun k h4 h5=>?_⟩;rcases Mw r k with j | j
   ·exact h3 k om_ om_
   ·have:k=r:=by omega
    subst this;exact oa fun c m=>Mu fun o=>f ⟨c,m,o⟩
def fctM (M:Nat):Nat->Nat
 | 0=>1
 | n+1=>(n+1)*(M*fctM M n)
theorem we {M:Nat}:∀ (n r:Nat)(l:List Col),l.length=n->(∀ c∈l,∀ k,r<=k->k<r+n->∃ z:Int,c k=z/\z.natAbs<=M)->∃ z:Int,det r l=z/\z.natAbs<=fctM M n
 | 0,r,l,b,_=>by
  have:l=[]:=MA b;subst this;exact ⟨1,Z,LP 1⟩
 | n+1,r,l,b,h=>by
  rw [gF b];have t:∀ m,m<=n+1->∃ z:Int,sumN (fun i=>(-1) ^ i*((l.getD i fun _=>0) r*det (r+1) (l.eraseIdx i))) m=z/\z.natAbs<=m*(M*fctM M n):=by
   intro m;induction m with
   | zero=>intro _;exact ⟨0,rfl,by simp⟩
   | succ m a =>
    intro hm;obtain ⟨z,e,d⟩:=a om_;have f:m<l.length:=by omega
    have g:l.getD m (fun _=>0)∈l:=by rw [ak,aj f];exact MP _
    obtain ⟨u,j,o⟩:=h _ g r (LP _) om_;obtain ⟨w,p,q⟩:=we (M:=M) n (r+1) (l.eraseIdx m) (by rw [List.length_eraseIdx,aI f];omega) (fun c v k h1 h2=>h c (List.mem_of_mem_eraseIdx v) k om_ om_);have hs:∃ s:Int,((-1:Rat) ^ m=s)/\s.natAbs=1:=by
     clear a e d hm f g j o p q;induction m with
     | zero=>exact ⟨1,rfl,rfl⟩
     | succ m a =>
      obtain ⟨s,h1,h2⟩:=a;exact ⟨-s,by rw [im,h1,Rat.intCast_neg],by omega⟩
    obtain ⟨s,x,hs⟩:=hs;refine ⟨z+s*(u*w), ?_, ?_⟩
    ·simp only [sumN];rw [e,j,p,x,Rat.intCast_add,N8,N8]
    ·have h1:=Oc z (s*(u*w));have h2:(s*(u*w)).natAbs=u.natAbs*w.natAbs:=by rw [Nr,Nr,hs,Om]
     have h3:u.natAbs*w.natAbs<=M*fctM M n:=NA o q;rw [Nat.succ_mul];omega
  obtain ⟨z,e,d⟩:=t (n+1) (LP _);exact ⟨z,e,d⟩
end Go.Jog.Lp
namespace Go.Jog.Lp
theorem nh (h:Nat->Rat):∀ n,sumN h (n+1)=h 0+sumN (fun p=>h (p+1)) n
 | 0=>by simp only [sumN];grind
 | n+1=>by
  have a:=nh h n;have e:sumN h (n+1+1)=sumN h (n+1)+h (n+1):=rfl;rw [e,a];simp only [sumN];grind
theorem vz {g:Nat->Rat}{n:Nat}:∀ {l:List Nat},l.Nodup->(∀ v∈l,v<n)->sumN (fun j=>if j∈l then g j else 0) n=sumN (fun p=>g (l.getD p 0)) l.length
 | [],_,_=>bU fun j _=>aC M3
 | v::l,c,a=>by
  have b:=OS.1 c;rw [Ml,nh,gd (a v aF),aI aF];have d:=vz (g:=g) (n:=n) b.2 fun u e=>a u (LW _ e);show g v+_=g v+sumN (fun p=>g (l.getD p 0)) l.length;rw [<- d];congr 1;refine aK fun j _=>?_;by_cases h1:j=v
  ·subst h1;rw [aI rfl,aC b.1]
  ·rw [aC h1];by_cases h2:j∈l
   ·rw [aI (LW _ h2),aI h2]
   ·rw [aC h2,aC (fun h=>(Ma.1 h).elim h1 h2)]
theorem ye:∀ {ys:List Rat}{l:List Col}(k:Nat),ys.length=l.length->kN ys l k=sumN (fun j=>ys.getD j 0*(l.getD j fun _=>0) k) l.length
 | [],[],k,_=>rfl
 | y::ys,c::l,k,h=>by
  have a:=ye (ys:=ys) (l:=l) k (by simpa using h);rw [Ml,nh];show y*c k+kN ys l k=y*c k+sumN (fun p=>ys.getD p 0*(l.getD p fun _=>0) k) l.length;rw [a]
 | [],_::_,_,h=>by cases h
 | _::_,[],_,h=>by cases h
structure Sys where
 n:Nat
 m:Nat
 a:Nat->Nat->Rat
 b:Nat->Rat
def Sys.Sol (p:Sys)(x:Nat->Rat):Prop:=∀ r,r<p.m->x (p.n+r)=p.b r-sumN (fun j=>p.a r j*x j) p.n
structure Sys.Wh (p:Sys)(D:Nat->Int)(M:Nat):Prop where
 d:∀ r,r<p.m->D r≠0/\(D r).natAbs<=M
 a:∀ r j,r<p.m->j<p.n->∃ z:Int,D r*p.a r j=z/\z.natAbs<=M
 b:∀ r,r<p.m->∃ z:Int,D r*p.b r=z/\z.natAbs<=M
structure TabOf (p:Sys)(t:Tab):Prop where
 ok:t.Ok (p.n+p.m)
 lb:t.basic.length=p.m
 lo:t.others.length=p.n
 sol:∀ x,t.Sol x ↔ p.Sol x
def Quo (K:Nat)(q:Rat):Prop:=∃ z w:Int,w≠0/\q*w=z/\z.natAbs<=K/\w.natAbs<=K
section
variable {p:Sys} {t:Tab}
theorem TabOf.all (h:TabOf p t){v:Nat}(c:v<p.n+p.m):v∈t.basic∨v∈t.others:=by
 apply Mu;intro b;have d:(v::(t.basic++t.others)).Nodup:=OS.2 ⟨fun hm=>by rcases Mh.1 hm with h1 | h1;exact b (.inl h1);exact b (.inr h1),h.ok.nd⟩;have:=List.Nodup.length_le_of_subset (l₂:=List.range (p.n+p.m)) d (fun u a=>by
  rcases Ma.1 a with rfl | a
  ·exact Me.2 c
  ·exact Me.2 (h.ok.lt u a))
 simp only [Ml,LZ,MJ,h.lb,h.lo] at this;omega
def FB (p:Sys)(t:Tab):List Nat:=t.basic.filter fun v=>decide (v<p.n)
def SO (p:Sys)(t:Tab):List Nat:=t.others.filter fun v=>decide (p.n<=v)
theorem qB {q:Nat->Bool}:∀ l:List Nat,(l.filter q).length+(l.filter fun v=>!q v).length=l.length
 | []=>rfl
 | x::l=>by
  have:=qB (q:=q) l;cases h:q x <;> simp [h] <;> omega
theorem TabOf.len (h:TabOf p t):(FB p t).length=(SO p t).length:=by
 have b:(t.basic++t.others).Perm (List.range (p.n+p.m)):=by
  refine (List.perm_ext_iff_of_nodup h.ok.nd List.nodup_range).2 fun v=>?_;rw [Me,Mh];exact ⟨fun a=>h.ok.lt v (Mh.2 a),h.all⟩
 have h1:=(b.filter fun v=>decide (v<p.n)).length_eq;rw [Nw,LZ] at h1;have h2:((List.range (p.n+p.m)).filter fun v=>decide (v<p.n)).length=p.n:=by
  have e:∀ k,((List.range (p.n+k)).filter fun v=>decide (v<p.n))=List.range p.n:=fun k=>by
   induction k with
   | zero=>exact List.filter_eq_self.2 fun v a=>by rw [Me] at a;exact Mc a
   | succ k c=>rw [<- OC,MU,Nw,c,List.filter_cons,aC (by simp)];simp
  rw [e,MJ]
 have h3:=qB (q:=fun v=>decide (v<p.n)) t.others;have h4:(t.others.filter fun v=>!decide (v<p.n))=SO p t:=by
  unfold SO;congr 1;funext v;by_cases a:v<p.n
  ·rw [Mc a,Mk om_];rfl
  ·rw [Mk a,Mc om_];rfl
 rw [h4,h.lo] at h3;unfold FB;omega
theorem kz {v:Nat}:v∈FB p t ↔ v∈t.basic/\v<p.n:=by unfold FB;rw [NP,LY]
theorem Hb {v:Nat}:v∈SO p t ↔ v∈t.others/\p.n<=v:=by unfold SO;rw [NP,LY]
theorem Gs (h:TabOf p t):(FB p t).Nodup:=h.ok.nb.filter _
def gJ (p:Sys)(t:Tab)(D:Nat->Int):List Col:=(FB p t).map fun v=>fun k=>(D ((SO p t).getD k 0-p.n):Rat)*p.a ((SO p t).getD k 0-p.n) v
theorem sD {D:Nat->Int}{i:Nat}(b:i<(FB p t).length)(k:Nat):((gJ p t D).getD i fun _=>0) k=(D ((SO p t).getD k 0-p.n):Rat)*p.a ((SO p t).getD k 0-p.n) ((FB p t).getD i 0):=by
 unfold gJ;have e:(FB p t)[i]?=some ((FB p t).getD i 0):=by rw [ak,aj b];rfl
 rw [ak,LU,e];rfl
theorem JU (h:TabOf p t){k:Nat}(a:k<(FB p t).length):(SO p t).getD k 0∈t.others/\p.n<=(SO p t).getD k 0/\(SO p t).getD k 0-p.n<p.m:=by
 have h1:=gz (l:=SO p t) (i:=k) (by rw [<- h.len];exact a);obtain ⟨h2,h3⟩:=Hb.1 h1;have h4:=h.ok.lt _ (Nz _ h2);exact ⟨h2,h3,by omega⟩
theorem HE (h:TabOf p t)(g:Nat->Rat):sumN (fun j=>if j∈FB p t then g j else 0) p.n=sumN (fun i=>g ((FB p t).getD i 0)) (FB p t).length:=vz (Gs h) fun _ a=>(kz.1 a).2
theorem Jc (h:TabOf p t){D:Nat->Int}{M:Nat}(x:p.Wh D M):det 0 (gJ p t D)≠0:=by
 intro h0;have f:(gJ p t D).length=(FB p t).length:=ax _;obtain ⟨ys,s,⟨y,hy,z⟩,A⟩:=pL _ 0 _ rfl h0
 -- a second assignment over the same values of the others
 let w:Nat->Rat:=fun v=>if v∈FB p t then ys.getD ((FB p t).idxOf v) 0 else 0
 let u:Nat->Rat:=fun v=>if v<p.n then w v else if v<p.n+p.m then -sumN (fun j=>p.a (v-p.n) j*w j) p.n else 0
 have g:∀ j,j<p.n->u j=w j:=fun j b=>aI b;have B:p.Sol fun v=>t.sol v+u v:=by
  intro r hr;have h1:=(h.sol _).1 (dQ h.ok) r hr;have h2:u (p.n+r)=-sumN (fun j=>p.a r j*w j) p.n:=by
   show (if p.n+r<p.n then w (p.n+r) else if p.n+r<p.n+p.m then -sumN (fun j=>p.a (p.n+r-p.n) j*w j) p.n else 0)=_;rw [aC om_,aI om_,Nf]
  show t.sol (p.n+r)+u (p.n+r)=_;have h3:sumN (fun j=>p.a r j*(t.sol j+u j)) p.n=sumN (fun j=>p.a r j*t.sol j) p.n+sumN (fun j=>p.a r j*w j) p.n:=by
   rw [<- cX];exact aK fun j b=>by rw [g j b];grind
  rw [h1,h2,h3];grind
 have C:∀ v,v ∉ t.basic->t.sol v+u v=0:=by
  intro v l;rw [sol_oth h.ok l];have E:u v=0:=by
   by_cases h1:v<p.n
   ·rw [g v h1];exact aC fun hm=>l (kz.1 hm).1
   ·by_cases h2:v<p.n+p.m
    ·have F:v∈t.others:=(h.all h2).resolve_left l;obtain ⟨k,G,e⟩:=cY ((Hb (p:=p) (t:=t)).2 ⟨F,by omega⟩);rw [<- h.len] at G;have o:=A k (LV _) (by rw [f];omega);rw [ye k s,f] at o;have H:sumN (fun j=>ys.getD j 0*((gJ p t D).getD j fun _=>0) k) (FB p t).length=(D (v-p.n):Rat)*sumN (fun i=>p.a (v-p.n) ((FB p t).getD i 0)*w ((FB p t).getD i 0)) (FB p t).length:=by
      rw [<- cE];refine aK fun i c=>?_;rw [sD c,e];have I:w ((FB p t).getD i 0)=ys.getD i 0:=by
       show (if (FB p t).getD i 0∈FB p t then ys.getD ((FB p t).idxOf ((FB p t).getD i 0)) 0 else 0)=_;rw [aI (gz c),cH (Gs h) c]
      rw [I];grind
     rw [H] at o;have J:(D (v-p.n):Rat)≠0:=by
      have:=(x.d (v-p.n) om_).1;simpa using this
     have hs:sumN (fun i=>p.a (v-p.n) ((FB p t).getD i 0)*w ((FB p t).getD i 0)) (FB p t).length=0:=by
      rcases Rat.mul_eq_zero.1 o with h3 | h3
      ·exact absurd h3 J
      ·exact h3
     have h4:sumN (fun j=>p.a (v-p.n) j*w j) p.n=0:=by
      rw [<- hs,<- HE h fun j=>p.a (v-p.n) j*w j];refine aK fun j _=>?_;by_cases b:j∈FB p t
      ·rw [aI b]
      ·rw [aC b,show w j=0 from aC b];grind
     show (if v<p.n then w v else if v<p.n+p.m then -sumN (fun j=>p.a (v-p.n) j*w j) p.n else 0)=0;rw [aC h1,aI h2,h4];grind
    ·show (if v<p.n then w v else if v<p.n+p.m then -sumN (fun j=>p.a (v-p.n) j*w j) p.n else 0)=0;rw [aC h1,aC h2]
  rw [E];grind
 have K:=xu h.ok ((h.sol _).2 B) C;obtain ⟨i,c,e⟩:=List.getElem_of_mem hy;have q:i<(FB p t).length:=by rw [<- f,<- s];exact c
 have h5:=K ((FB p t).getD i 0);have L:u ((FB p t).getD i 0)=y:=by
  rw [g _ (kz.1 (gz q)).2];show (if (FB p t).getD i 0∈FB p t then ys.getD ((FB p t).idxOf ((FB p t).getD i 0)) 0 else 0)=_;rw [aI (gz q),cH (Gs h) q,ak,aj c,e];rfl
 exact z (by rw [<- L];grind)
end
end Go.Jog.Lp
namespace Go.Jog.Lp
theorem HD {M:Nat}(a:0<M):∀ {k n:Nat},k<=n->fctM M k<=fctM M n:=by
 intro k n h;induction h with
 | refl=>exact LP _
 | @step m _ b =>
  refine Md b ?_;show fctM M m<=(m+1)*(M*fctM M m);have:1*(1*fctM M m)<=(m+1)*(M*fctM M m):=NA (Nat.le_add_left 1 _) (NA a (LP _));rw [Om,Om] at this;exact this
theorem xp {g:Nat->Rat}{B:Nat}:∀ {n:Nat},(∀ j,j<n->∃ z:Int,g j=z/\z.natAbs<=B)->∃ z:Int,sumN g n=z/\z.natAbs<=n*B
 | 0,_=>⟨0,rfl,by simp⟩
 | n+1,h=>by
  obtain ⟨z,e,b⟩:=xp (g:=g) (n:=n) fun j c=>h j om_;obtain ⟨w,a,d⟩:=h n om_;refine ⟨z+w,by rw [sumN,e,a,Rat.intCast_add], ?_⟩;have:=Oc z w;rw [Nat.succ_mul];omega
section
variable {p:Sys} {t:Tab} {D:Nat->Int} {M:Nat}
def bdT (p:Sys)(M:Nat):Nat:=fctM (2*M) p.n
theorem KC (h:TabOf p t):(FB p t).length<=p.n:=by
 have:=List.Nodup.length_le_of_subset (l₂:=List.range p.n) (Gs h) fun v a=>Me.2 (kz.1 a).2
 rwa [MJ] at this
theorem yB (h:TabOf p t)(c:p.Wh D M){i k:Nat}(b:i<(FB p t).length)(d:k<(FB p t).length):∃ z:Int,((gJ p t D).getD i fun _=>0) k=z/\z.natAbs<=2*M:=by
 rw [sD b];obtain ⟨z,e,f⟩:=c.a _ _ (JU h d).2.2 (kz.1 (gz b)).2;exact ⟨z,e,by omega⟩
theorem yt (h:TabOf p t)(f:p.Wh D M)(l:0<M):∃ d:Int,det 0 (gJ p t D)=d/\d≠0/\d.natAbs<=bdT p M:=by
 have a:(gJ p t D).length=(FB p t).length:=ax _;obtain ⟨d,e,g⟩:=we (M:=2*M) (FB p t).length 0 (gJ p t D) a fun c j k _ m=>by
  obtain ⟨i,b,e⟩:=List.getElem_of_mem j;rw [a] at b;have:=yB h f b (show k<(FB p t).length by omega);rw [ak,aj (by rw [a];exact b),e] at this;exact this
 refine ⟨d,e, ?_,Md g (HD om_ (KC h))⟩;rintro rfl;exact Jc h f (by rw [e];rfl)
theorem Hg (h:TabOf p t)(s:p.Wh D M)(N:0<M){x g:Nat->Rat}(B:∀ r,r<p.m->x (p.n+r)=g r-sumN (fun j=>p.a r j*if j∈FB p t then x j else 0) p.n)
  (C:∀ r,r<p.m->∃ z:Int,D r*g r=z/\z.natAbs<=M) (E:∀ v,v∈t.others->p.n<=v->∃ z:Int,x v=z/\z.natAbs<=1) {i:Nat} (F:i<(FB p t).length) :
  ∃ z:Int,x ((FB p t).getD i 0)*det 0 (gJ p t D)=z/\z.natAbs<=bdT p M:=by
 have b:(gJ p t D).length=(FB p t).length:=ax _;have q:=KE (l:=gJ p t D) (i:=i) (by rw [b];exact F) (fun j=>x ((FB p t).getD j 0)) 0;rw [<- q];have G:∀ k,k<(FB p t).length->∃ z:Int,GG (gJ p t D) (fun j=>x ((FB p t).getD j 0)) (gJ p t D).length k=z/\z.natAbs<=2*M:=by
  intro k u;obtain ⟨H,I,o⟩:=JU h u;obtain ⟨r,hr⟩:∃ r,(SO p t).getD k 0-p.n=r:=⟨_,rfl⟩;rw [hr] at o;have J:(SO p t).getD k 0=p.n+r:=by omega
  have e:GG (gJ p t D) (fun j=>x ((FB p t).getD j 0)) (gJ p t D).length k=(D r:Rat)*(g r-x (p.n+r)):=by
   have h4:=B r o;have h5:sumN (fun j=>p.a r j*if j∈FB p t then x j else 0) p.n=sumN (fun j=>if j∈FB p t then p.a r j*x j else 0) p.n:=aK fun j _=>by
    split
    ·rfl
    ·grind
   rw [h5,HE h] at h4;have K:g r-x (p.n+r)=sumN (fun i=>p.a r ((FB p t).getD i 0)*x ((FB p t).getD i 0)) (FB p t).length:=by rw [h4];grind
   rw [K,<- cE];unfold GG;rw [b];refine aK fun j f=>?_;rw [sD f,hr];grind
  obtain ⟨z,ez,y⟩:=C r o;obtain ⟨w,A,L⟩:=E _ H I;rw [J] at A;refine ⟨z-D r*w, ?_, ?_⟩
  ·rw [e,A,Rat.intCast_sub,N8,<- ez];grind
  ·have h5:=(s.d r o).2;have O:(D r*w).natAbs<=M*1:=by rw [Nr];exact NA h5 L
   omega
 obtain ⟨z,ez,y⟩:=we (M:=2*M) (FB p t).length 0 ((gJ p t D).set i (GG (gJ p t D) (fun j=>x ((FB p t).getD j 0)) (gJ p t D).length)) (by rw [MN,b]) fun c q k _ u=>by
  rcases List.mem_or_eq_of_mem_set q with hm | rfl
  ·obtain ⟨j,f,e⟩:=List.getElem_of_mem hm;rw [b] at f;have:=yB h s f (show k<(FB p t).length by omega);rw [ak,aj (by rw [b];exact f),e] at this;exact this
  ·exact G k om_
 exact ⟨z,ez,Md y (HD om_ (KC h))⟩
theorem vH (h:TabOf p t)(c:p.Wh D M)(f:0<M){x g:Nat->Rat}(q:∀ r,r<p.m->x (p.n+r)=g r-sumN (fun j=>p.a r j*if j∈FB p t then x j else 0) p.n)
  (s:∀ r,r<p.m->∃ z:Int,D r*g r=z/\z.natAbs<=M) (u:∀ v,v∈t.others->p.n<=v->∃ z:Int,x v=z/\z.natAbs<=1)
  {a0:Nat->Rat} {b0:Rat} {b:Int} (k:b≠0/\b.natAbs<=M) (w:∀ j,j<p.n->∃ z:Int,b*a0 j=z/\z.natAbs<=M) (y:∃ z:Int,b*b0=z/\z.natAbs<=M) :
  Quo ((p.n+1)*(M*bdT p M)) (b0-sumN (fun j=>a0 j*if j∈FB p t then x j else 0) p.n):=by
 obtain ⟨d,A,B,l⟩:=yt h c f;obtain ⟨o,C,E⟩:=y;have hs:∃ z:Int,sumN (fun j=>(b*a0 j)*((if j∈FB p t then x j else 0)*d)) p.n=z/\z.natAbs<=p.n*(M*bdT p M):=xp fun j F=>by
  obtain ⟨G,H,I⟩:=w j F;by_cases hm:j∈FB p t
  ·obtain ⟨i,J,e⟩:=cY hm;obtain ⟨z,ez,K⟩:=Hg h c f q s u J;rw [e,A] at ez;refine ⟨G*z, ?_, ?_⟩
   ·rw [aI hm,H,ez,N8]
   ·rw [Nr];exact NA I K
  ·refine ⟨0, ?_,LV _⟩;rw [aC hm];show _=(0:Rat);grind
 obtain ⟨L,N,O⟩:=hs;refine ⟨o*d-L,b*d,Int.mul_ne_zero k.1 B, ?_, ?_, ?_⟩
 ·rw [Rat.intCast_sub,N8,N8,<- N,<- C];have e:sumN (fun j=>(b*a0 j)*((if j∈FB p t then x j else 0)*d)) p.n=(b*d:Rat)*sumN (fun j=>a0 j*if j∈FB p t then x j else 0) p.n:=by
   rw [<- cE];exact aK fun j _=>by grind
  rw [e];grind
 ·have h4:(o*d).natAbs<=M*bdT p M:=by rw [Nr];exact NA E l
  rw [Nat.succ_mul];omega
 ·have h4:(b*d).natAbs<=M*bdT p M:=by rw [Nr];exact NA k.2 l
  rw [Nat.succ_mul];omega
end
end Go.Jog.Lp
namespace Go.Jog.Lp
section
variable {p:Sys} {t:Tab} {D:Nat->Int} {M:Nat}
theorem TabOf.pivot (h:TabOf p t){r s:Nat}(a:r<t.basic.length)(b:s<t.others.length)(c:(t.line r).g s≠0):TabOf p (t.pivot r s) :=
 ⟨xP h.ok a b,List.length_set.trans h.lb,List.length_set.trans h.lo,fun x=>(ua h.ok a b c).trans (h.sol x)⟩
def ObjOf (p:Sys)(t:Tab)(w0:Rat)(cc:Nat->Rat):Prop:=∀ x,p.Sol x->t.W x=w0+sumN (fun j=>cc j*x j) p.n
theorem ObjOf.pivot {a:Rat}{b:Nat->Rat}(d:ObjOf p t a b)(h:TabOf p t){r s:Nat}(e:r<t.basic.length)(f:s<t.others.length)(i:(t.line r).g s≠0):ObjOf p (t.pivot r s) a b :=
 fun x c=>(Cv h.ok e f i ((h.sol x).2 c)).trans (d x c)
def bdQ (p:Sys)(M:Nat):Nat:=(p.n+1)*(M*bdT p M)
theorem HL (a:0<M):bdT p M<=bdQ p M:=by
 have:1*(1*bdT p M)<=(p.n+1)*(M*bdT p M):=NA (Nat.le_add_left 1 _) (NA a (LP _))
 rwa [Om,Om] at this
theorem Ce (h:TabOf p t)(b:p.Wh D M)(c:0<M){x o:Nat->Rat}(g:∀ r,r<p.m->x (p.n+r)=o r-sumN (fun j=>p.a r j*if j∈FB p t then x j else 0) p.n)
  (l:∀ r,r<p.m->∃ z:Int,D r*o r=z/\z.natAbs<=M) (q:∀ v,v∈t.others->p.n<=v->∃ z:Int,x v=z/\z.natAbs<=1) {i:Nat} (s:i<t.basic.length):Quo (bdQ p M) (x (t.bas i)):=by
 by_cases u:t.bas i<p.n
 ·obtain ⟨k,w,e⟩:=cY (kz.2 ⟨bas_mem s,u⟩:t.bas i∈FB p t);obtain ⟨z,ez,y⟩:=Hg h b c g l q w;obtain ⟨d,A,B,C⟩:=yt h b c;rw [e,A] at ez;exact ⟨z,d,B,ez,Md y (HL c),Md C (HL c)⟩
 ·have G:=h.ok.lt _ (Mh.2 (.inl (bas_mem s)));obtain ⟨r,hr⟩:∃ r,t.bas i-p.n=r:=⟨_,rfl⟩;have E:t.bas i=p.n+r:=by omega
  have f:r<p.m:=by omega
  rw [E,g r f];exact vH h b c g l q (b.d r f) (fun j F=>b.a r j f F) (l r f)
theorem Ha (h:TabOf p t){j:Nat}(a:j<p.n):t.sol j=if j∈FB p t then t.sol j else 0:=by
 split
 ·rfl
 ·next b=>exact sol_oth h.ok fun c=>b (kz.2 ⟨c,a⟩)
theorem BJ (h:TabOf p t)(r:Nat)(c:r<p.m):t.sol (p.n+r)=p.b r-sumN (fun j=>p.a r j*if j∈FB p t then t.sol j else 0) p.n:=by
 rw [(h.sol _).1 (dQ h.ok) r c];congr 1;exact aK fun j d=>by rw [<- Ha h d]
theorem G9 (h:TabOf p t)(v:Nat)(a:v∈t.others):∃ z:Int,t.sol v=z/\z.natAbs<=1:=⟨0,by rw [sol_oth h.ok fun b=>h.ok.dj b a];rfl,by decide⟩
theorem Ji (h:TabOf p t)(a:p.Wh D M)(e:0<M){i:Nat}(d:i<t.basic.length):Quo (bdQ p M) (t.line i).c:=by
 rw [<- sol_bas h.ok d];exact Ce h a e (BJ h) a.b (fun v f _=>G9 h v f) d
def Tab.dir (t:Tab)(s v:Nat):Rat:=t.ext (cZ (t.oth s)) v-t.sol v
theorem dir_bas (h:TabOf p t){s i:Nat}(b:s<t.others.length)(a:i<t.basic.length):t.dir s (t.bas i)=(t.line i).g s:=by
 unfold Tab.dir;rw [sq h.ok a,nZ h.ok b,sol_bas h.ok a];grind
theorem dir_oth (h:TabOf p t){s v:Nat}(a:v ∉ t.basic):t.dir s v=if v=t.oth s then 1 else 0:=by
 unfold Tab.dir;rw [so h.ok a,sol_oth h.ok a];unfold cZ;split <;> grind
theorem DX (h:TabOf p t){s:Nat}(d:s<t.others.length)(g:Nat->Rat) :
  sumN (fun j=>g j*t.dir s j) p.n=(if t.oth s<p.n then g (t.oth s) else 0)+sumN (fun j=>g j*if j∈FB p t then t.dir s j else 0) p.n:=by
 have f:t.oth s ∉ t.basic:=fun a=>h.ok.dj a (oth_mem d);have e:∀ j,j<p.n->g j*t.dir s j=(if j=t.oth s then g j else 0)+g j*(if j∈FB p t then t.dir s j else 0):=by
  intro j b;by_cases a:j∈FB p t
  ·rw [aI a,aC (fun e:j=t.oth s=>f (e ▸ (kz.1 a).1))];grind
  ·rw [aC a,dir_oth h fun i=>a (kz.2 ⟨i,b⟩)];split <;> grind
 rw [aK e,cX];congr 1;split
 ·next c =>
  rw [gd c,aI rfl,bU fun j _=>?_]
  ·grind
  ·split <;> rfl
 ·next c=>exact bU fun j b=>aC fun e:j=t.oth s=>c (e ▸ b)
def hhD (p:Sys)(t:Tab)(s r:Nat):Rat:=if t.oth s<p.n then -p.a r (t.oth s) else 0
theorem DZ (h:TabOf p t){s:Nat}(d:s<t.others.length)(r:Nat)(c:r<p.m):t.dir s (p.n+r)=hhD p t s r-sumN (fun j=>p.a r j*if j∈FB p t then t.dir s j else 0) p.n:=by
 have h1:=(h.sol _).1 (lj h.ok (cZ (t.oth s))) r c;have h2:=(h.sol _).1 (dQ h.ok) r c;have h3:=DX h d (p.a r);have h4:sumN (fun j=>p.a r j*t.dir s j) p.n=sumN (fun j=>p.a r j*t.ext (cZ (t.oth s)) j) p.n-sumN (fun j=>p.a r j*t.sol j) p.n:=by
  have h5:=cX (fun j=>p.a r j*t.dir s j) (fun j=>p.a r j*t.sol j) p.n;rw [show sumN (fun j=>p.a r j*t.dir s j+p.a r j*t.sol j) p.n=sumN (fun j=>p.a r j*t.ext (cZ (t.oth s)) j) p.n from aK fun j _=>by unfold Tab.dir;grind] at h5;grind
 have e:t.dir s (p.n+r)=t.ext (cZ (t.oth s)) (p.n+r)-t.sol (p.n+r):=rfl;unfold hhD;rw [e,h1,h2];split at h3
 ·next b=>rw [aI b];grind
 ·next b=>rw [aC b];grind
theorem DD (b:p.Wh D M)(s:Nat)(r:Nat)(c:r<p.m):∃ z:Int,D r*hhD p t s r=z/\z.natAbs<=M:=by
 unfold hhD;split
 ·next d =>
  obtain ⟨z,e,f⟩:=b.a r _ c d;exact ⟨-z,by rw [Rat.intCast_neg,<- e];grind,by omega⟩
 ·exact ⟨0,by show _=(0:Rat);grind,LV _⟩
theorem HG (h:TabOf p t){s:Nat}(v:Nat)(a:v∈t.others):∃ z:Int,t.dir s v=z/\z.natAbs<=1:=by
 rw [dir_oth h fun b=>h.ok.dj b a];split
 ·exact ⟨1,Z,by decide⟩
 ·exact ⟨0,Z,by decide⟩
theorem I3 (h:TabOf p t)(a:p.Wh D M)(d:0<M){i s:Nat}(b:i<t.basic.length)(c:s<t.others.length):Quo (bdQ p M) ((t.line i).g s):=by
 rw [<- dir_bas h c b];exact Ce h a d (DZ h c) (DD a s) (fun v e _=>HG h v e) b
variable {w0:Rat} {cc:Nat->Rat}
theorem EP (h:TabOf p t)(f:p.Wh D M)(g:0<M)(i:ObjOf p t w0 cc){a:Int}(k:a≠0/\a.natAbs<=M)(l:∀ j,j<p.n->∃ z:Int,a*cc j=z/\z.natAbs<=M)(m:∃ z:Int,a*w0=z/\z.natAbs<=M):Quo (bdQ p M) t.worth.c:=by
 rw [<- zg h.ok,i _ ((h.sol _).1 (dQ h.ok))];have:=vH h f g (BJ h) f.b (fun v o _=>G9 h v o) (a0:=fun j=>-cc j) (b0:=w0) k (fun j d=>by obtain ⟨z,e,q⟩:=l j d;exact ⟨-z,by rw [Rat.intCast_neg,<- e];grind,by omega⟩) m;rw [show w0+sumN (fun j=>cc j*t.sol j) p.n=w0-sumN (fun j=>-cc j*if j∈FB p t then t.sol j else 0) p.n from ?_]
 ·exact this
 ·have e:sumN (fun j=>-cc j*if j∈FB p t then t.sol j else 0) p.n=-1*sumN (fun j=>cc j*t.sol j) p.n:=by
   rw [<- cE];exact aK fun j d=>by rw [<- Ha h d];grind
  rw [e];grind
theorem EO (h:TabOf p t)(d:p.Wh D M)(l:0<M)(f:ObjOf p t w0 cc){a:Int}(m:a≠0/\a.natAbs<=M)(i:∀ j,j<p.n->∃ z:Int,a*cc j=z/\z.natAbs<=M){s:Nat}(b:s<t.others.length):Quo (bdQ p M) (t.worth.g s):=by
 have h1:=f _ ((h.sol _).1 (lj h.ok (cZ (t.oth s))));have h2:=f _ ((h.sol _).1 (dQ h.ok));rw [zg h.ok] at h2;have h3:t.W (t.ext (cZ (t.oth s)))=t.worth.c+t.worth.g s:=by
  unfold Tab.W;rw [ul h.ok,nZ h.ok b]
 have h4:sumN (fun j=>cc j*t.dir s j) p.n=sumN (fun j=>cc j*t.ext (cZ (t.oth s)) j) p.n-sumN (fun j=>cc j*t.sol j) p.n:=by
  have h5:=cX (fun j=>cc j*t.dir s j) (fun j=>cc j*t.sol j) p.n;rw [show sumN (fun j=>cc j*t.dir s j+cc j*t.sol j) p.n=sumN (fun j=>cc j*t.ext (cZ (t.oth s)) j) p.n from aK fun j _=>by unfold Tab.dir;grind] at h5;grind
 have h5:t.worth.g s=(if t.oth s<p.n then cc (t.oth s) else 0)-sumN (fun j=>-cc j*if j∈FB p t then t.dir s j else 0) p.n:=by
  have e:sumN (fun j=>-cc j*if j∈FB p t then t.dir s j else 0) p.n=-1*sumN (fun j=>cc j*if j∈FB p t then t.dir s j else 0) p.n:=by
   rw [<- cE];exact aK fun j k=>by grind
  have r:=DX h b cc;rw [e];grind
 rw [h5];exact vH h d l (DZ h b) (DD d s) (fun v o _=>HG h v o) m (fun j k=>by obtain ⟨z,e,u⟩:=i j k;exact ⟨-z,by rw [Rat.intCast_neg,<- e];grind,by omega⟩) (by
  split
  ·next q=>exact i _ q
  ·exact ⟨0,by show _=(0:Rat);grind,LV _⟩)
end
end Go.Jog.Lp
