/- Laws that the proofs of this seat share, part 17. -/
import Derived.Test.YtfjcldheldflbaaGreatDoorG16
import Derived.Test.YtfjcldheldflbaaGreatDoorShelf
set_option maxHeartbeats 4000000
namespace Go.Proofs.YtfjcldheldflbaaGreatDoor
open Go.Proofs.Tryz
open Go Go.Jog
set_option maxRecDepth 100000
variable {b0 b1 b2:Pt}{j k:Nat}{l:List Pt}{p p0 p1 p2:Pt}{pts:List Pt}{q:Pt}{tris:List Tri}{x:Pt}
def difF (es:List (Nat × Nat))(f:List Rat)(i:Nat):Rat:=f.getD (es.getD i (0,0)).1 0-f.getD (es.getD i (0,0)).2 0
def rfP (es:List (Nat × Nat))(f:List Rat):Nat->Rat
 | 0=>0
 | i+1=>rfP es f i+abR (difF es f i)
def rfA (es:List (Nat × Nat))(fl:List (List Rat)):Nat->Rat
 | 0=>0
 | j+1=>rfA es fl j+rfP es (fl.getD j []) es.length
structure RufQ (es:List (Nat × Nat))(fl:List (List Rat)):Prop where
 e:∀ f∈fl,∀ x∈f,QB 22 x
 d:∀ j i,j<fl.length->i<es.length->QB 22 (difF es (fl.getD j []) i)
 s:∀ j i,j<fl.length->i<=es.length->QB 22 (rfA es fl j+rfP es (fl.getD j []) i)
theorem GJ (C:Mem)(v:Value)(l:List Obs)(b:Sl C 10 v (l.map lP))(t:l.length<=1000000):Jog.Fn cx.P 53 [v] C [] fun u _w e=>∃ A n c,u=.slice A n c/\e=[.arr (.slice A n c) 126 10 l.length (l.map lP).flatten]:=by
 obtain ⟨f,c0,rfl,m,x,y,o⟩:=id b;have z:maxLen<=9223372036854775807:=by simp [maxLen]
 simp only [am] at b m ⊢;refine Tk func53 8 U3 fun w0=>Tb 1 [0] Z<|Tc 1 Z fun R d=>Ux U9<|Th [0,4] d Z<|G.cd (fun h4=>?_) fun h4=>?_
 ·have p:f=none:=by
   cases f with
   | none=>rfl
   | some a=>cases h4
  have s:l=[]:=by
   cases l with
   | nil=>rfl
   | cons q r =>
    obtain ⟨a,g,_⟩:=o 0 (lP q) rfl;rw [p] at g;cases g
  refine Tb 1 [2] Z<|G.nilArr 126 10<|Tn (TQ Z Z ?_);exact ⟨none,0,0,Z,by rw [s];rfl⟩
 refine Tf fun R d=>Un [] U12 fl_ fun B=>Te U6<|TH (j:=0) U11 b.m_ (by simp [lP,me,ah]) (by simp only [am,P6,maxLen];omega) (by simp only [am,P6];omega) fl_ fun h i k=>C6 1 [2] d Z<|Tu (L':=[.arr (.slice h i k) 126 10 l.length (l.map lP).flatten]) ap<|Tn (TQ Z Z ?_);exact ⟨h,i,k,Z,Z⟩
theorem jY {e:Int}(a:e≠0)(h:(!decide (e=0))=false):False:=by simp [a] at h
theorem ze (C:Mem)(b:Value)(B:Bk)(z e:Int)(c:BookZ C b B z)(g:ofE z (bs B) (bp B)=e)(d:e≠0) :Gives cx.P 54 [b] C (.tuple #[.slice none 0 0,.int .i64 e]):=by
 obtain ⟨k,l,m,n,o,rfl,p,q,r,s,t⟩:=id c.i.ex;refine Tk func54 33 U3 fun w0=>Tf fun R a=>Tv U6 fun b1=>C6 2 [1] a Z<|G.freeze 0 Z fun _ _ h=>Tf fun R a=>Td (bkT h 5) U8<|To (N5 _ _ B z e c.m_ g d) U7<|Tg 3 Z<|Tq U5 fun u=>Tj (j:=0) U12<|C6 1 [1,4,5] a Z<|Tb 2 [1,4,5,14] Z<|G.cd (fun f=>?_) fun f=>?_
 ·refine Tb 3 [2,3] Z<|Tn (G.dropAll (TD U3 ?_));exact ⟨Z,Z⟩
 exact (jY d f).elim
theorem eK (C:Mem)(b:Value)(B:Bk)(z e:Int)(c:BookZ C b B z)(g:ofE z (bs B) (bp B)=e)(d:e≠0):Pur cx.P 37 [b] C fun u _=>u=.tuple #[.agg ⟨[.int .i64 0,.slice none 0 0,.slice none 0 0]⟩,.int .i64 e]:=by
 obtain ⟨k,l,m,n,o,rfl,p,q,r,s,t⟩:=id c.i.ex;refine Tk func37 47 U3 fun w0=>Tf fun R a=>Tv U6 fun b1=>Tq U5 fun b2=>C6 1 [1,2] a Z<|G.freeze 1 Z fun _ _ h=>Tf fun R a=>Td (bkT h 5) U8<|To (ze _ _ B z e c.m_ g d) U7<|C6 5 [1,2,4,5] a Z<|Tb 2 [1,2,4,5,16] Z<|G.cd (fun f=>?_) fun f=>?_
 ·refine Tf fun R a=>Tw ([.int .i64 0,.slice none 0 0,.slice none 0 0]) U8<|Te U6<|Tj (j:=0) U12<|C6 1 [2,3] a Z<|Tn (Uy ag U5 ?_);exact ⟨Z,Z⟩
 exact (jY d f).elim
theorem GZ (C:Mem)(b:Value)(B:Bk)(z e:Int)(c:BookZ C b B z)(g:ofE z (bs B) (bp B)=e)(d:e≠0):Pur cx.P 26 [b] C fun u _=>u=.tuple #[.slice none 0 0,.agg ⟨[.slice none 0 0]⟩,.bool false,.int .i64 e]:=by
 obtain ⟨l,m,n,o,p,rfl,q,r,s,t,v⟩:=id c.i.ex;refine Tk func26 43 U3 fun w0=>Tf fun R a=>Tv U6 fun b1=>Te U6<|Tq U5 fun w=>C6 2 [1,3] a Z<|G.freeze 1 Z fun _ _ h=>Tf fun R a=>Td (bkT h 5) U8<|TM (eK _ _ B z e c.m_ g d) U7 (fun x _ _ k=>?_);subst k;refine Tg 3 Z<|Tq U5 fun y=>Tj (j:=0) U12<|C6 1 [1,3,5,6] a Z<|Tb 2 [1,3,5,6,14] Z<|G.cd (fun f=>?_) fun f=>?_
 ·refine Tf fun R a=>Tw ([.slice none 0 0]) U8<|Tg 2 Z<|Tj (j:=1) U12<|C6 2 [2,3,4,5] a Z<|Tn (UC ag U7 ?_);exact ⟨Z,Z⟩
 exact (jY d f).elim
theorem oR (C:Mem)(b:Value)(B:Bk)(z e:Int)(c:BookZ C b B z)(g:ofE z (bs B) (bp B)=e)(d:e≠0):Pur cx.P 22 [b] C fun u _=>u=.tuple #[.agg ⟨[.int .i64 0,.slice none 0 0,.slice none 0 0]⟩,.int .i64 e]:=by
 obtain ⟨l,m,n,o,p,rfl,q,r,s,t,v⟩:=id c.i.ex;refine Tk func22 153 U3 fun w0=>Tf fun R a=>Tv U6 fun b1=>Tq U5 fun b2=>C6 1 [1,2] a Z<|G.freeze 1 Z fun _ _ h=>Tf fun R a=>Td (bkT h 5) U8<|TM (eK _ _ B z e c.m_ g d) U7 (fun w _ _ k=>?_);subst k;refine Tg 3 Z<|Tq U5 fun x=>Tj (j:=0) U12<|C6 1 [1,2,4,5] a Z<|Tb 2 [1,2,4,5,24] Z<|G.cd (fun f=>?_) fun f=>?_
 ·refine Tf fun R a=>Tw ([.int .i64 0,.slice none 0 0,.slice none 0 0]) U8<|Te U6<|Tj (j:=1) U12<|C6 1 [2,3] a Z<|Tn (Uy ag U5 ?_);exact ⟨Z,Z⟩
 exact (jY d f).elim
theorem Ja (C:Mem)(b:Value)(B:Bk)(z e:Int)(c:BookZ C b B z)(g:ofE z (bs B) (bp B)=e)(d:e≠0):Pur cx.P 42 [b] C fun u _=>u=.tuple #[.agg ⟨[.slice none 0 0,ah [],.slice none 0 0]⟩,.int .i64 e]:=by
 obtain ⟨l,m,n,o,p,rfl,q,r,s,t,v⟩:=id c.i.ex;refine Tk func42 59 U3 fun w0=>Tf fun R a=>Tv U6 fun b1=>Tq U5 fun b2=>C6 1 [1,2] a Z<|G.freeze 1 Z fun _ _ h=>Tf fun R a=>Td (bkT h 5) U8<|TM (oR _ _ B z e c.m_ g d) U7 (fun w _ _ k=>?_);subst k;refine Tg 3 Z<|Tq U5 fun x=>Tj (j:=0) U12<|C6 1 [1,2,4,5] a Z<|Tb 2 [1,2,4,5,15] Z<|G.cd (fun f=>?_) fun f=>?_
 ·refine Tf fun R a=>Tw ([.slice none 0 0,ah [],.slice none 0 0]) U8<|Te U6<|Tj (j:=1) U12<|C6 1 [2,3] a Z<|Tn (Uy ag U5 ?_);exact ⟨Z,Z⟩
 exact (jY d f).elim
theorem EE (C:Mem)(b:Value)(B:Bk)(z e:Int)(c:BookZ C b B z)(g:ofE z (bs B) (bp B)=e)(d:e≠0)(s:Int)(h k:Str):Gives cx.P 14 [b,.int .i64 s,.agg ⟨[ah h,ah k]⟩] C (.tuple #[ah [],ah [],.int .i64 e]):=by
 obtain ⟨n,o,p,q,r,rfl,t,u,v,w,x⟩:=id c.i.ex;refine Tk func14 110 U3 fun w0=>Tf fun R a=>Tv U6 fun y=>Tv U6 fun A=>C6 3 [1,3,5] a Z<|G.freeze 1 Z fun _ _ l=>Tf fun R a=>Td (bkT l 5) U8<|TM (eK _ _ B z e c.m_ g d) U7 (fun D _ _ m=>?_);subst m;refine Tg 3 Z<|Tq U5 fun E=>Tj (j:=0) U12<|C6 1 [1,3,5,8,9] a Z<|Tb 2 [1,3,5,8,9,26] Z<|G.cd (fun f=>?_) fun f=>?_
 ·refine Tb 4 [6,7,8] Z<|Tn (G.dropAll (Ug U4 ?_));exact ⟨Z,Z⟩
 exact (jY d f).elim
theorem yv (C:Mem)(b:Value)(B:Bk)(z e:Int)(c:BookZ C b B z)(g:ofE z (bs B) (bp B)=e)(d:e≠0)(w:Value)(h j:Str):Gives cx.P 27 [b,w,.agg ⟨[ah h,ah j]⟩] C (.tuple #[.slice none 0 0,.int .i64 e]):=by
 obtain ⟨l,m,n,o,p,rfl,q,r,s,t,u⟩:=id c.i.ex;refine Tk func27 71 U3 fun w0=>Tf fun R a=>Tv U6 fun v=>Tv U6 fun x=>C6 2 [1,3,5] a Z<|G.freeze 1 Z fun _ _ k=>Tf fun R a=>Td (bkT k 5) U8<|To (ze _ _ B z e c.m_ g d) U7<|C6 5 [1,3,5,9] a Z<|Tb 2 [1,3,5,9,25] Z<|G.cd (fun f=>?_) fun f=>?_
 ·refine Tb 3 [6,7] Z<|Tn (G.dropAll (TD U3 ?_));exact ⟨Z,Z⟩
 exact (jY d f).elim
theorem FW (C:Mem)(b:Value)(B:Bk)(z e:Int)(c:BookZ C b B z)(g:ofE z (bs B) (bp B)=e)(d:e≠0)(w:Value):Gives cx.P 32 [b,w] C (.int .i64 e):=by
 obtain ⟨l,m,n,o,p,rfl,q,r,s,t,u⟩:=id c.i.ex;refine Tk func32 19 U3 fun w0=>Tf fun R a=>Tv U6 fun b2=>C6 1 [1,2] a Z<|G.freeze 0 Z fun _ _ h=>Tf fun R a=>Td (bkT h 5) U8<|TM (eK _ _ B z e c.m_ g d) U7 (fun v _ _ k=>?_);subst k;refine Tg 3 Z<|Tq U5 fun x=>Tj (j:=0) U12<|C6 1 [1,2,5,6] a Z<|Tb 2 [1,2,5,6,13] Z<|G.cd (fun f=>?_) fun f=>?_
 ·exact Tb 2 [4] Z<|Tl U2<|⟨Z,Z⟩
 exact (jY d f).elim
theorem ye (C:Mem)(b:Value)(B:Bk)(z e:Int)(c:BookZ C b B z)(g:ofE z (bs B) (bp B)=e)(d:e≠0)(w:Value):Gives cx.P 40 [b,.agg ⟨[w]⟩] C (.int .i64 e):=by
 obtain ⟨l,m,n,o,p,rfl,q,r,s,t,u⟩:=id c.i.ex;refine Tk func40 18 U3 fun w0=>Tf fun R a=>Tv U6 fun b2=>Tv U6 fun v=>C6 1 [2,3] a Z<|G.freeze 1 Z fun _ _ h=>Tf fun R a=>Td (bkT h 5) U8<|TM (eK _ _ B z e c.m_ g d) U7 (fun x _ _ k=>?_);subst k;refine Tg 3 Z<|Tq U5 fun y=>Tj (j:=0) U12<|C6 1 [3,5,6] a Z<|Tb 2 [3,5,6,13] Z<|G.cd (fun f=>?_) fun f=>?_
 ·exact Tb 2 [4] Z<|Tl U2<|⟨Z,Z⟩
 exact (jY d f).elim
theorem BO (C:Mem)(b:Value)(B:Bk)(z e:Int)(c:BookZ C b B z)(g:ofE z (bs B) (bp B)=e)(d:e≠0)(w h k:Value):Gives cx.P 46 [b,.agg ⟨[w,h,k]⟩] C (.int .i64 e):=by
 obtain ⟨n,o,p,q,r,rfl,s,t,u,v,x⟩:=id c.i.ex;refine Tk func46 77 U3 fun w0=>Tf fun R a=>Tv U6 fun b2=>Tv U6 fun y=>C6 1 [2,3] a Z<|G.freeze 1 Z fun _ _ l=>Tf fun R a=>Td (bkT l 5) U8<|TM (oR _ _ B z e c.m_ g d) U7 (fun A _ _ m=>?_);subst m;refine Tg 3 Z<|Tq U5 fun D=>Tj (j:=0) U12<|C6 1 [2,3,5,6] a Z<|Tb 2 [2,3,5,6,19] Z<|G.cd (fun f=>?_) fun f=>?_
 ·exact Tb 2 [4] Z<|Tl U2<|⟨Z,Z⟩
 exact (jY d f).elim
def K6 (a b:Pt)(s:Rat):Pt:=(a.1+s*(b.1-a.1),a.2+s*(b.2-a.2))
def Ko (u v:Rat):Bool:=decide (dE u.num*dE v.num<0)
def JD (p q x y:Pt):List Pt:=(if 0<=cW p q x then [x] else [])++(if Ko (cW p q x) (cW p q y) then [K6 x y (cW p q x / (cW p q x-cW p q y))] else [])
def GQ (p q:Pt)(l:List Pt)(j:Nat):List Pt:=JD p q (l.getD j (0,0)) (l.getD ((j+1) % l.length) (0,0))
def fQ (p q:Pt)(l:List Pt)(n:Nat):List Pt:=(List.range n).flatMap (GQ p q l)
def Ov (p q:Pt)(l:List Pt):List Pt:=fQ p q l l.length
def kT (a b c:Pt)(j:Nat):Pt:=if j=0 then a else if j=1 then b else c
def il (l:List Pt)(b0 b1 b2:Pt):Nat->List Pt
 | 0=>l
 | n+1=>Ov (kT b0 b1 b2 n) (kT b0 b1 b2 ((n+1) % 3)) (il l b0 b1 b2 n)
theorem mS (p q:Pt)(l:List Pt)(n:Nat):fQ p q l (n+1)=fQ p q l n++GQ p q l n:=by
 unfold fQ;rw [QF,List.flatMap_append];simp
theorem GR (p q x y:Pt):(JD p q x y).length<=2:=by
 unfold JD;split <;> split <;> simp
theorem eW (p q:Pt)(l:List Pt):∀ n,(fQ p q l n).length<=2*n
 | 0=>by simp [fQ]
 | n+1=>by
  rw [mS,PH];have:=eW p q l n;have:=GR p q (l.getD n (0,0)) (l.getD ((n+1) % l.length) (0,0));unfold GQ;omega
theorem wS (h:l.length=3)(a b c:Pt):∀ n,n<=3->(il l a b c n).length<=24
 | 0,_=>by show l.length<=24;omega
 | 1,_=>by have h1:=eW (kT a b c 0) (kT a b c 1) l l.length;show (fQ _ _ l l.length).length<=24;rw [h] at h1 ⊢;exact PP h1 dc_
 | 2,_=>by
  have h1:=eW (kT a b c 0) (kT a b c 1) l l.length;have h2:=eW (kT a b c 1) (kT a b c 2) (il l a b c 1) (il l a b c 1).length;have d:(il l a b c 1).length<=6:=by show (fQ _ _ l l.length).length<=6;rw [h] at h1 ⊢;exact h1
  exact PP h2 om_
 | 3,_=>by
  have h1:=eW (kT a b c 0) (kT a b c 1) l l.length;have h2:=eW (kT a b c 1) (kT a b c 2) (il l a b c 1) (il l a b c 1).length;have h3:=eW (kT a b c 2) (kT a b c 0) (il l a b c 2) (il l a b c 2).length;have d:(il l a b c 1).length<=6:=by show (fQ _ _ l l.length).length<=6;rw [h] at h1 ⊢;exact h1
  have e:(il l a b c 2).length<=12:=PP h2 om_;exact PP h3 om_
 | n+4,h=>by omega
theorem od (a:QP 1 p)(b:QP 1 q)(c:QP k x):QB (2*k+11) (cW p q x):=by
 have h1:=eP (dp b.1 a.1) (dp c.2 a.2);have h2:=eP (dp b.2 a.2) (dp c.1 a.1);exact (dp h1 h2).le om_
theorem M1 {a b:Rat}{m:Nat}(c:QB k a)(d:QB m b)(e:b≠0):QB (k+m) (a / b):=by
 have h1:=xm d e;rw [S9];exact eP c h1
theorem Kn {u v:Rat}(h:Ko u v=true):u-v≠0:=by
 intro e;have a:u=v:=by grind
 subst a;unfold Ko at h;have h1:=OQ h;unfold dE at h1;split at h1
 ·omega
 split at h1 <;> omega
theorem J3 {y:Pt}(c:QP 1 p)(d:QP 1 q)(a:QP k x)(b:QP k y)(h:Ko (cW p q x) (cW p q y)=true) :
  QB (6*k+34) (cW p q x / (cW p q x-cW p q y))/\QP (9*k+36) (K6 x y (cW p q x / (cW p q x-cW p q y))):=by
 have e:=od c d a;have f:=od c d b;have hs:=(M1 e (dp e f) (Kn h)).le (show 2*k+11+(2*k+11+(2*k+11)+1)<=6*k+34 by omega);exact ⟨hs,(mW a.1 (eP hs (dp b.1 a.1))).le om_,(mW a.2 (eP hs (dp b.2 a.2))).le om_⟩
theorem lL (h:∀ x∈l,QP k x)(a:j<l.length):QP k (l.getD j (0,0)):=by
 rw [ay,al a];exact h _ (Qq a)
theorem Br {p q:Pt}{l:List Pt}{k:Nat}(c:QP 1 p)(d:QP 1 q)(h:∀ x∈l,QP k x):∀ n,n<=l.length->∀ x∈fQ p q l n,QP (9*k+36) x
 | 0,_,x,a=>by simp [fQ] at a
 | n+1,g,x,a=>by
  rw [mS] at a;rcases PQ.1 a with a | a
  ·exact Br c d h n om_ x a
  have b:=lL h (show n<l.length by omega);have e:=lL h (P2 (n+1) (show 0<l.length by omega));unfold GQ JD at a;rcases PQ.1 a with a | a
  ·split at a
   ·simp at a;subst a;exact ⟨b.1.le om_,b.2.le om_⟩
   cases a
  split at a
  ·rename_i f;simp only [PU] at a;subst a;exact (J3 c d b e f).2
  cases a
theorem DY (C:Mem)(c:Tabs C)(a b:Pt)(s:Rat)(k m:Nat)(i:0<k)(n:k+k+1<=m)(o:m+(k+k+1)+k<=9000)(d:QP k a)(e:QP k b)(f:QB m s):Gives cx.P 260 [ptV a,ptV b,ah (qtx s)] C (ptV (K6 a b s)):=by
 have h1:=iy e.1 d.1;have h2:=iy e.2 d.2;have p1:QB (m+(k+k+1)) (s*(b.1-a.1)):=eP f h1;have p2:QB (m+(k+k+1)) (s*(b.2-a.2)):=eP f h2;refine Tk func260 28 U3 fun w0=>Tf fun R h=>Tv U6 fun p=>Tv U6 fun q=>Tq U5 fun r=>Th [2,3,4,6] h Z<|G.freeze 2 Z fun _ _ g=>G.freeze 1 Z fun _ _ l=>Tx [0,1,2,3,4,5,6,7,8,9,10,11,12,13,14,15,16,17,18,19,20,21] [(7,1),(8,1),(9,1),(17,1),(18,1),(19,1)] Z kr_ fun R t h=>Te U6<|Td (bkT g 1) U8<|Tg 2 Z<|Td (bkT l 1) U8<|Te U6<|Td (bkT g 1) U8<|TA (fun _=>(dz _ c.m_ b.1 a.1 k i om_ e.1 d.1)) U9<|TA (fun _=>(cU _ c.m_ s (b.1-a.1) m om_ om_ f (h1.le om_))) U9<|TA (fun _=>(iL _ c.m_ a.1 (s*(b.1-a.1)) (m+(k+k+1)) om_ om_ (d.1.le om_) p1)) U9<|Te U6<|Td (bkT g 1) U8<|Tg 2 Z<|Td (bkT l 1) U8<|Te U6<|Td (bkT g 1) U8<|TA (fun _=>(dz _ c.m_ b.2 a.2 k i om_ e.2 d.2)) U9<|TA (fun _=>(cU _ c.m_ s (b.2-a.2) m om_ om_ f (h2.le om_))) U9<|TA (fun _=>(iL _ c.m_ a.2 (s*(b.2-a.2)) (m+(k+k+1)) om_ om_ (d.2.le om_) p2)) U9<|Tw (cY (K6 a b s)) U8<|Tj (j:=0) U12<|Th [6] h Z<|Tn (TY ag U4 ?_);exact ⟨Z,Z⟩
theorem N0 (p q:Pt):((qtx p.1 == qtx q.1) && ((qtx p.2 == qtx q.2) && true))=decide (p=q):=by
 rw [Bool.and_true,Sv,PL,Q0,Q0,PI];exact ⟨fun h=>Prod.ext (iM h.1) (iM h.2),fun h=>by rw [h];exact ⟨Z,Z⟩⟩
theorem FR (C:Mem)(v:Value)(l:List Pt)(p:Pt)(c:Sl C 2 v (l.map cY)):Gives cx.P 261 [v,ptV p] C (.int .i64 (jS (fun y=>decide (p=y)) l 0)):=by
 obtain ⟨h,c0,rfl,j,w,_⟩:=id c;have z:maxLen<=9223372036854775807:=by simp [maxLen]
 simp only [am] at c j ⊢;refine Tk func261 19 U3 fun w0=>Tf fun R a=>Tv U6 fun k=>C6 1 [0,3] a Z<|G.freeze 0 Z fun _ _ n=>Tb 3 [0,3,7,8] Z<|G.loop (fun fr A o q=>∃ (i:Nat),(i<=l.length/\∀ y∈l.take i,(fun y=>decide (p=y)) y=false)/\fr=[(0,[],.slice h l.length c0),(3,[],.pointer (some ⟨k,0,none⟩)),(7,[],.int .i64 l.length),(8,[],.int .i64 i)]/\o=[]/\q=l.length-i) (hn_ [0,3,7,8] Z) ⟨0,⟨PG _,by simp⟩,Z,Z,Z⟩ (fun fr B D m _ r=>?_);obtain ⟨i,⟨E,b⟩,rfl,rfl,rfl⟩:=r;refine Tb 1 [0,3,7,8,9] Z<|G.cd (fun d=>?_) fun d=>?_
 ·have e:i<l.length:=by simpa using d
  obtain ⟨x,f⟩:∃ x,l[i]?=some x:=⟨l[i],al e⟩;refine Tb 2 [0,3,5,7,8] Z<|Tx [0,1,2,3,4,5] [] Z kr_ fun R F a=>Td (bkT n 2) U8<|Tg 2 Z<|Tt c.m_ U10 om_ (bW f) fl_ fun H s=>Td s U8<|VE (decide (p=x)) kr_ Z Z Z Z Z Z Z Z (fun _=>by rw [<- N0]) Z Z<|Th [0,3,5,7,8,16] a Z<|G.cd (fun g=>?_) fun g=>?_
  ·have t:decide (p=x)=true:=by simpa using g
   exact Tb 2 [4] Z<|Tl U2<|⟨by rw [nT f t b,QV],Z⟩
  have u:decide (p=x)=false:=by simpa using g
  refine Tf fun R a=>Tm _ U7<|C6 1 [0,3,7,8] a Z<|Tp (m':=l.length-(i+1)) om_ mup (hn_ [0,3,7,8] Z) ⟨i+1,⟨by omega,fun y hy=>by
   rw [P0,f] at hy;rcases PQ.1 hy with hy | hy
   ·exact b y hy
   simp only [QM,PU] at hy;subst hy;exact u⟩,Z,Z,Z⟩
 have e:i=l.length:=by
  have:¬ i<l.length:=by simpa using d
  omega
 exact Tb 1 [4] Z<|Tl U2<|⟨by rw [e,PO] at b;rw [lJ b],Z⟩
theorem nB (C:Mem)(v:Value)(l:List Pt)(p:Pt)(b:Sl C 2 v (l.map cY)):Gives cx.P 199 [v,ptV p] C (.bool (decide (p∈l))):=by
 refine Tk func199 9 U3 fun w0=>?_;refine Tf fun R a=>?_;refine Tv U6 (fun d=>?_);refine C6 1 [0,3] a Z ?_;refine G.freeze 0 Z (fun _ _ c=>?_);refine Tc 1 Z fun R a=>?_;refine Td (bkT c 2) U8 ?_;refine To (FR _ v l p b.m_) U7 ?_;refine C6 2 [4] a Z ?_;refine Tl U2 ?_;refine ⟨?_,Z⟩;congr 1;rw [Qo];rcases mJ (fun y=>decide (p=y)) l with ⟨h1,h2⟩ | ⟨i,x,h1,h2,h3,_⟩
 ·rw [h1];constructor
  ·intro h;omega
  intro h;have:=h2 p h;simp at this
 rw [h1];constructor
 ·intro _;have:p=x:=OQ h3;rw [this];exact Px h2
 intro _;omega
theorem DV {C:Mem}{b:Nat}{t:TypeId}(h:C b=some (.cells ⟨cY b0++cY b1++cY b2⟩ t (0,0)))(a:k<3):PtrTo C (.pointer (some ⟨b,k*2,none⟩)) (cY (kT b0 b1 b2 k)):=by
 rcases (by omega:k=0∨k=1∨k=2) with rfl | rfl | rfl
 ·exact PtrTo.blockT h 0 2
 ·exact PtrTo.blockT h 2 2
 exact PtrTo.blockT h 4 2
theorem DW (a:QP 1 b0)(b:QP 1 b1)(c:QP 1 b2)(k:Nat):QP 1 (kT b0 b1 b2 k):=by unfold kT;split;exact a;split;exact b;exact c
def szK:Nat->Nat
 | 0=>1
 | n+1=>9*szK n+36
theorem Nv (h:k<3):szK k<=441:=by
 rcases (by omega:k=0∨k=1∨k=2) with rfl | rfl | rfl <;> decide
theorem Lb (k:Nat):0<szK k:=by cases k <;> simp [szK]
theorem J8 (q:Rat):decide (dE q.num ≥ 0)=decide (0<=q):=by
 rw [Qo,<- Rat.num_nonneg];unfold dE;split
 ·omega
 split <;> omega
theorem Lh (z:Int):-1<=dE z/\dE z<=1:=by unfold dE;split;omega;split <;> omega
theorem Lg (a b:Int):-1<=dE a*dE b/\dE a*dE b<=1:=by
 have h1:dE a=-1∨dE a=0∨dE a=1:=by unfold dE;split;omega;split <;> omega
 have h2:=Lh b;rcases h1 with h | h | h <;> rw [h] <;> omega
theorem AX (h:j<l.length):(l.map cY)[j]?=some (cY (l.getD j (0,0))):=by
 rw [PD,ay,al h];rfl
def lG (u:Rat)(x:Pt):List Pt:=if 0<=u then [x] else []
def Pf (u v:Rat)(x y:Pt):List Pt:=if Ko u v then [K6 x y (u / (u-v))] else []
theorem MP (C:Mem)(J:Tabs C)(f g i o p q:Pt)(a8:QP 1 f)(a9:QP 1 g)(bb:QP 1 i)(an:QP 1 o)(ao:QP 1 p)(ap:QP 1 q) :
  Pur cx.P 198 [Dd f g i,Dd o p q] C fun u D=>Sl D 2 u ((il [f,g,i] o p q 3).map cY):=by
 have bc:maxLen<=9223372036854775807:=by simp [maxLen]
 refine Tk func198 84 U3 fun w0=>?_;refine Tf fun R a=>?_;refine Tv U6 (fun b2=>?_);refine Tv U6 (fun Y=>?_);refine C6 1 [2,3] a Z ?_;clear a R;refine G.freeze 1 Z (fun _ _ aR=>?_);refine G.freeze 0 Z (fun C3 _ aq=>?_);have aS:Sl C3 2 (.slice (some ⟨b2,0,none⟩) 3 3) ([f,g,i].map cY):=Sl.ofBlock (rows:=[f,g,i].map cY) (c:=3) (Mem.get aR mup) (by intro r hr;obtain ⟨y,_,rfl⟩:=PF.1 hr;rfl) (fun j v hj=>by simpa using hj) (Py _) dc_;refine Tf fun R a=>?_;refine Uu 0 3 3 U12 (fun _=>⟨.inl ⟨Z,Z⟩,.inl ⟨Z,Z⟩,.inl ⟨Z,Z⟩,by omega,by omega,Py _⟩) U2 ?_;refine C6 1 [3,5] a Z ?_;clear a R;refine Tb 1 [3,5,18] Z ?_;refine G.loop (fun fr C' z K=>∃ (k:Nat)(A:Option Addr)(n c:Nat),(k<=3/\Sl C' 2 (.slice A n c) ((il [f,g,i] o p q k).map cY)/\∀ x∈il [f,g,i] o p q k,QP (szK k) x)/\fr=[(3,[],.pointer (some ⟨Y,0,none⟩)),(5,[],.slice A n c),(18,[],.int .i64 k)]/\z=[]/\K=3-k) (hn_ [3,5,18] rfl) ⟨0,_,_,_,⟨by omega,aS.mono mup,fun x H=>by simp [il] at H;rcases H with rfl | rfl | rfl <;> assumption⟩,rfl,rfl,rfl⟩ (fun fr ar bd m _ L=>?_);obtain ⟨k,A,n,c,⟨hk,I,aa⟩,rfl,rfl,rfl⟩:=L;refine Tb 1 [3,5,18,19] Z ?_;refine G.cd (fun ac=>?_) fun ac=>?_
 ·have au:k<3:=by have:=OQ ac;omega
  have aT:=wS (l:=[f,g,i]) rfl o p q k om_;have E:=DW an ao ap k;have F:=DW an ao ap ((k+1) % 3);have aU:(k+1) % 3<3:=P2 _ dc_;have av:=DV (Mem.get (D:=ar) aq mup) au;have aw:=DV (Mem.get (D:=ar) aq mup) aU;obtain ⟨P,hP⟩:∃ P,kT o p q k=P:=⟨_,rfl⟩;obtain ⟨Q,hQ⟩:∃ Q,kT o p q ((k+1) % 3)=Q:=⟨_,rfl⟩;obtain ⟨b,ay⟩:∃ b,il [f,g,i] o p q k=b:=⟨_,rfl⟩;have az:il [f,g,i] o p q (k+1)=fQ P Q b b.length:=by show Ov _ _ _=_;rw [hP,hQ,ay];rfl
  rw [hP] at E av;rw [hQ] at F aw;rw [ay] at I aa aT;have be:=Nv au;have e:=Lb k;obtain ⟨_,_,aV,_⟩:=id I;cases aV
  simp only [am] at I ⊢;refine Tb 2 [3,5,6,18] Z ?_;refine TX (.cut [0,1,2,3,4,5,6,7] (.alt 8 (.fin [9,10,11]) (.alt 9 (.fin [8,10,11]) .stop))) [(2,0),(7,0)] U2 kr_ (fun R M a hH=>?_);refine Vl a (fun s t=>[(3,[],.pointer (some ⟨Y,0,none⟩)),(5,[],.slice A b.length c),(7,[],.pointer (some ⟨s,0,none⟩)),(8,[],.pointer (some ⟨t,0,none⟩)),(18,[],.int .i64 k)]) (fun s t=>[.obj s (.cells ⟨cY P⟩ 34 (0,0)),.obj t (.cells ⟨cY Q⟩ 34 (0,0))]) (fun hc=>?_) (fun s t=>?_)
  ·refine Te U6 ?_;refine Ty ((k*2)) U9 (fun _=>⟨by omega,by omega,by show k*2=0+(k:Int).toNat*2;omega⟩) U2 ?_;refine Uk (fun _=>(av.mono M)) U9 ?_;refine Te U6 ?_;refine TL (((k+1:Nat):Int)) U4 om_ om_ om_ U2 ?_;refine TS (k+1) 3 U6 dc_ U2 ?_;refine Ty (((k+1) % 3*2)) U9 (fun _=>⟨by omega,by omega,by show (k+1) % 3*2=0+(((k+1) % 3:Nat):Int).toNat*2;omega⟩) U2 ?_;refine Uk (fun _=>(aw.mono M)) U9 ?_;refine TP hH Z ⟨?_, ?_,trivial⟩
   ·refine Tq U5 (fun s=>?_);refine Tq U5 (fun t=>?_);refine Tj (j:=1) U12 ?_;refine Tj (j:=1) U12 ?_;exact Ui [(3,[],_),(5,[],_),(7,[],_),(8,[],_),(18,[],_)] ⟨Z,Z,Z,Z,Z,trivial⟩ (a _ _ _ Z (G.perm _ ((ak (j:=1) Z).trans (List.Perm.cons _ (PC _))) (hc s t)))
   refine Tq U5 (fun t=>?_);refine Tq U5 (fun s=>?_);refine Tj (j:=0) U12 ?_;refine Tj (j:=1) U12 ?_;exact Ui [(3,[],_),(5,[],_),(7,[],_),(8,[],_),(18,[],_)] ⟨Z,Z,Z,Z,Z,trivial⟩ (a _ _ _ Z (G.perm _ ((ak (j:=1) Z).trans (List.Perm.cons _ (PC _))) (hc s t)))
  clear a hH M R;refine G.freeze 0 Z (fun _ _ aA=>?_);refine G.freeze 0 Z (fun _ _ aB=>?_);refine Tb 1 [3,5,7,8,9,18] Z ?_;refine Tb 3 [3,5,7,8,9,18,29,30,31] Z ?_;refine G.nilArr 34 2 ?_;refine G.loop (fun fr C' z K=>∃ (j:Nat)(B:Option Addr)(m d:Nat),(j<=b.length)/\fr=[(3,[],.pointer (some ⟨Y,0,none⟩)),(5,[],.slice A b.length c),(7,[],.pointer (some ⟨s,0,none⟩)),(8,[],.pointer (some ⟨t,0,none⟩)),(9,[],.slice B m d),(18,[],.int .i64 k),(29,[],.slice A b.length c),(30,[],.int .i64 b.length),(31,[],.int .i64 j)]/\z=[.arr (.slice B m d) 34 2 (fQ P Q b j).length ((fQ P Q b j).map cY).flatten]/\K=b.length-j) (hn_ [3,5,7,8,9,18,29,30,31] Z) ⟨0,none,0,0,PG _,Z,Z,Z⟩ (fun fr bf bg m _ L=>?_);obtain ⟨j,B,m,d,hj,rfl,rfl,rfl⟩:=L;refine Tb 1 [3,5,7,8,9,18,29,30,31,32] Z ?_;refine G.cd (fun ad=>?_) fun ad=>?_
  ·have aC:j<b.length:=by have:=OQ ad;omega
   have aD:(j+1) % b.length<b.length:=P2 _ om_;have N:=lL aa aC;have O:=lL aa aD;have aE:=AX aC;have aG:=AX aD;have ab:=mS P Q b j;have aW:=eW P Q b j;unfold GQ at ab;obtain ⟨x,H⟩:∃ x,b.getD j (0,0)=x:=⟨_,rfl⟩;obtain ⟨y,hy⟩:∃ y,b.getD ((j+1) % b.length) (0,0)=y:=⟨_,rfl⟩;rw [H] at N aE ab;rw [hy] at O aG ab;have S:=od E F N;have qv:=od E F O;have aH:=fun D (hD:Tabs D)=>ip D hD P Q x (szK k) e om_ ⟨E.1.le e,E.2.le e⟩ ⟨F.1.le e,F.2.le e⟩ N;have aI:=fun D (hD:Tabs D)=>ip D hD P Q y (szK k) e om_ ⟨E.1.le e,E.2.le e⟩ ⟨F.1.le e,F.2.le e⟩ O;have ae:=fun h=>J3 E F N O h;have T:fQ P Q b (j+1)=fQ P Q b j++(lG (cW P Q x) x++Pf (cW P Q x) (cW P Q y) x y):=ab;obtain ⟨u,hu⟩:∃ u,cW P Q x=u:=⟨_,rfl⟩;obtain ⟨v,hv⟩:∃ v,cW P Q y=v:=⟨_,rfl⟩;rw [hu] at S aH ae T;rw [hv] at qv aI ae T;obtain ⟨w,aX⟩:∃ w,fQ P Q b j=w:=⟨_,rfl⟩;rw [aX] at T aW ⊢;have bh:(qtx u).length<=1000000:=PP (bl S om_) om_;have bi:(qtx v).length<=1000000:=PP (bl qv om_) om_;have bj:=Lg u.num v.num;refine Tc 1 Z fun R a=>?_;refine Tt I.m_ U10 om_ aE fl_ (fun bk aY=>?_);refine Td aY U8 ?_;refine Tq U5 (fun aZ=>?_);refine Te U6 ?_;refine Tj (j:=0) U12 ?_;refine Th [3,5,7,8,9,10,11,18,29,30,31] a Z ?_;clear a R;refine G.freeze 0 Z (fun _ _ af=>?_);refine Tc 2 Z fun R a=>?_;refine TL (((j+1:Nat):Int)) U4 om_ om_ om_ U2 ?_;refine Tg 2 Z ?_;refine TS (j+1) b.length U6 om_ U2 ?_;refine Tt I.m_ U10 om_ aG fl_ (fun bm a0=>?_);refine Td a0 U8 ?_;refine Tq U5 (fun a1=>?_);refine Tj (j:=0) U12 ?_;refine Th [3,5,7,8,9,11,12,18,29,30,31] a Z ?_;clear a R;refine G.freeze 0 Z (fun _ _ aJ=>?_);refine Tx [0,1,2,3,4,5,6,7,8,9] [(3,1),(7,1)] Z kr_ (fun R M a=>?_);refine Td (bkT aA 2) U8 ?_;refine Td (bkT aB 2) U8 ?_;refine Td (bkT af 2) U8 ?_;refine TO (fun _=>(aH _ J.m_)) U9 ?_;refine Td (bkT aA 2) U8 ?_;refine Td (bkT aB 2) U8 ?_;refine Td (bkT aJ 2) U8 ?_;refine TO (fun _=>(aI _ J.m_)) U9 ?_;refine Tg 2 Z ?_;refine Th [3,5,7,8,9,11,12,13,14,18,29,30,31] a Z ?_;clear a M R;refine Tc 1 Z fun R a=>?_;refine Ts (er _ u om_) U7 fl_ ?_;refine C6 1 [3,5,7,8,9,11,12,13,14,18,29,30,31,54] a Z ?_;clear a R;refine G.cut (fun fr C' z K=>∃ (U:Option Addr)(V W:Nat),(True)/\fr=[(3,[],.pointer (some ⟨Y,0,none⟩)),(5,[],.slice A b.length c),(7,[],.pointer (some ⟨s,0,none⟩)),(8,[],.pointer (some ⟨t,0,none⟩)),(9,[],.slice U V W),(11,[],.pointer (some ⟨aZ,0,none⟩)),(12,[],.pointer (some ⟨a1,0,none⟩)),(13,[],ah (qtx u)),(14,[],ah (qtx v)),(18,[],.int .i64 k),(29,[],.slice A b.length c),(30,[],.int .i64 b.length),(31,[],.int .i64 j)]/\z=[.arr (.slice U V W) 34 2 (w++lG u x).length ((w++lG u x).map cY).flatten]) ?_ (fun fr _ bn K _ L=>?_)
   ·refine G.cd (fun X=>?_) fun X=>?_
    ·have a2:0<=u:=by rw [J8] at X;exact OQ X
     have ag:lG u x=[x]:=aL a2;refine Tc 1 Z fun R a=>?_;refine Td (bkT af 2) U8 ?_;refine Tz [cY x] U12 (fun bo _ _ a3=>?_);refine TH (j:=0) U11 a3.m_ Z ax (by show (w.length+1)*32<=_;omega) fl_ (fun aK aM aN=>?_);refine C6 1 [3,5,7,8,9,11,12,13,14,18,29,30,31] a Z ?_;clear a R;refine Tu (L':=[.arr (.slice aK aM aN) 34 2 (w++lG u x).length ((w++lG u x).map cY).flatten]) (by rw [ag];simp) ?_;refine Tr 0 mup (hn_ [3,5,7,8,9,11,12,13,14,18,29,30,31] Z) ⟨aK,aM,aN,trivial,Z,Z⟩
    have a4:¬ 0<=u:=by rw [J8] at X;exact PE X
    have ag:lG u x=[]:=aF a4;refine Tu (L':=[.arr (.slice B m d) 34 2 (w++lG u x).length ((w++lG u x).map cY).flatten]) (by rw [ag];simp) ?_;refine Tr 0 mup (hn_ [3,5,7,8,9,11,12,13,14,18,29,30,31] Z) ⟨B,m,d,trivial,Z,Z⟩
   obtain ⟨U ,V ,W,_,rfl,rfl⟩:=L;refine Tc 1 Z fun R a=>?_;refine Ts (er _ u om_) U7 fl_ ?_;refine Te U6 ?_;refine Ts (er _ v om_) U7 fl_ ?_;refine Tm _ U7 ?_;refine C6 1 [3,5,7,8,9,11,12,13,14,18,29,30,31,64] a Z ?_;clear a R;refine G.cd (fun ai=>?_) fun ai=>?_
   ·have aj:Ko u v=true:=ai;have a5:=ae aj;have al:Pf u v x y=[K6 x y (u / (u-v))]:=aL aj;refine Tc 3 Z fun R a=>?_;refine Ts (dz _ J.m_ u v (2*szK k+11) om_ om_ S qv) U7 fl_ ?_;refine Ts (gb _ J.m_ u (u-v) (2*szK k+11+(2*szK k+11)+1) om_ om_ (S.le om_) (iy S qv) (Kn aj)) U7 fl_ ?_;refine C6 5 [3,5,7,8,9,11,12,15,18,29,30,31] a Z ?_;clear a R;refine Tc 1 Z fun R a=>?_;refine Td (bkT af 2) U8 ?_;refine Td (bkT aJ 2) U8 ?_;refine Te U6 ?_;refine Ts (DY _ J.m_ x y (u / (u-v)) (szK k) (6*szK k+34) e om_ om_ N O a5.1) U7 fl_ ?_;refine Tz [cY (K6 x y (u / (u-v)))] U12 (fun bp _ _ a6=>?_);refine TH (j:=0) U11 a6.m_ Z (by have:(lG u x).length<=1:=(by unfold lG;split <;> simp);simp only [ba,PH,maxLen];omega) (by have:(lG u x).length<=1:=(by unfold lG;split <;> simp);show ((w++lG u x).length+1)*32<=_;rw [PH];omega) fl_ (fun aO aP aQ=>?_);refine C6 1 [3,5,7,8,9,18,29,30,31] a Z ?_;clear a R;refine Tf fun R a=>?_;refine Tm _ U7 ?_;refine C6 1 [3,5,7,8,9,18,29,30,31] a Z ?_;clear a R;refine Tu (L':=[.arr (.slice aO aP aQ) 34 2 (fQ P Q b (j+1)).length ((fQ P Q b (j+1)).map cY).flatten]) (by rw [T,al];simp [R9]) ?_;refine Tp (m':=b.length-(j+1)) om_ mup (hn_ [3,5,7,8,9,18,29,30,31] Z) ⟨j+1,aO,aP,aQ,by omega,Z,Z,Z⟩
   have al:Pf u v x y=[]:=aF (by show ¬ (Ko u v=true);intro h;have h2:Ko u v=false:=ai;rw [h] at h2;cases h2);refine Tf fun R a=>?_;refine Tm _ U7 ?_;refine C6 1 [3,5,7,8,9,18,29,30,31] a Z ?_;clear a R;refine Tu (L':=[.arr (.slice U V W) 34 2 (fQ P Q b (j+1)).length ((fQ P Q b (j+1)).map cY).flatten]) (by rw [T,al];simp []) ?_;refine Tp (m':=b.length-(j+1)) om_ mup (hn_ [3,5,7,8,9,18,29,30,31] Z) ⟨j+1,U,V,W,by omega,Z,Z,Z⟩
  obtain rfl:j=b.length:=by have:=PE ad;omega
  refine G.freezeArr 0 ((fQ P Q b b.length).map cY) rfl rfl (by intro r hr;obtain ⟨y,_,rfl⟩:=PF.1 hr;rfl) (by rw [am]) (fun Cf hf a7=>?_);refine Tb 2 [3,5,18] Z ?_;refine Tf fun R a=>?_;refine Tm _ U7 ?_;refine C6 1 [3,5,18] a Z ?_;clear a R;refine Tp (m':=3-(k+1)) om_ mup (hn_ [3,5,18] Z) ⟨k+1,B,m,d,⟨by omega,by rw [az];exact a7.mono mup,fun x H=>by rw [az] at H;exact Br E F aa _ (Py _) x H⟩,Z,Z,Z⟩
 obtain rfl:k=3:=by have:=PE ac;omega
 refine Tb 2 [4] Z ?_;refine Tl U2 ?_;exact ⟨Z,I.mono mup⟩
def CC (p:Pt)(l:List Pt):Bool:=decide (p∈l)
def shF (p0 p1 p2 q0 q1 q2:Pt)(k:Nat):List Pt:=([p0,p1,p2].take k).filter fun p=>CC p [q0,q1,q2]
def Bm (p0 p1 p2 q0 q1 q2:Pt):Bool:=if (shF p0 p1 p2 q0 q1 q2 3).length=3 then true else (il [p0,p1,p2] q0 q1 q2 3).any fun p=>!CC p (shF p0 p1 p2 q0 q1 q2 3)
theorem H0 {q0 q1 q2:Pt}(a:k<3):shF p0 p1 p2 q0 q1 q2 (k+1)=shF p0 p1 p2 q0 q1 q2 k++(if CC (kT p0 p1 p2 k) [q0,q1,q2] then [kT p0 p1 p2 k] else []):=by
 unfold shF;have h:[p0,p1,p2].take (k+1)=[p0,p1,p2].take k++[kT p0 p1 p2 k]:=by
  rcases (by omega:k=0∨k=1∨k=2) with rfl | rfl | rfl <;> rfl
 rw [h,QZ];congr 1;rw [List.filter_cons];rfl
theorem Em (a b c d e f:Pt)(k:Nat):(shF a b c d e f k).length<=3:=by
 unfold shF;refine PP (Q5 _ _) ?_;rw [PM];exact Nat.min_le_right _ _
theorem DX (a:j<3):((cY p0++cY p1++cY p2).drop (((j:Nat):Int).toNat*2)).take 2=cY (kT p0 p1 p2 j):=by
 rcases (by omega:j=0∨j=1∨j=2) with rfl | rfl | rfl <;> rfl
theorem yL (C:Mem)(hT:Tabs C)(K L:Value)(u:List Pt)(F:List Tri)(i k:Nat)(H I:Tri)(b e f g n o:Pt)(h1:Sl C 2 K (u.map cY))(A:Sl C 3 L (F.map gz))(ar:F[i]?=some H)(au:F[k]?=some I)
  (e0:u[H.1]?=some b) (e1:u[H.2.1]?=some e) (e2:u[H.2.2]?=some f) (g0:u[I.1]?=some g) (g1:u[I.2.1]?=some n) (g2:u[I.2.2]?=some o) (E:∀ p∈u,QP 1 p) :
  Gives cx.P 131 [.agg ⟨[K,L]⟩,.int .i64 i,.int .i64 k] C (.bool (Bm b e f g n o)):=by
 have av:=E _ (Px e0);have aw:=E _ (Px e1);have ay:=E _ (Px e2);have az:=E _ (Px g0);have aA:=E _ (Px g1);have aB:=E _ (Px g2);have aM:maxLen<=9223372036854775807:=by simp [maxLen]
 refine Tk func131 50 U3 fun w0=>?_;refine Tf fun R a=>?_;refine Tv U6 (fun b3=>?_);refine C6 1 [1,2,3] a Z ?_;clear a R;refine G.freeze 0 Z (fun _ _ ae=>?_);refine TX (.cut [0,1,2,3,4,5] (.alt 6 (.fin [7,8,9]) (.alt 7 (.fin [6,8,9]) .stop))) [(2,1),(5,1),(0,0),(3,0)] U2 kr_ (fun R J a hH=>?_);refine Vl a (fun D w=>[(7,[],.pointer (some ⟨D,0,none⟩)),(8,[],.pointer (some ⟨w,0,none⟩))]) (fun D w=>[.obj D (.cells ⟨cY b++cY e++cY f⟩ 152 (0,0)),.obj w (.cells ⟨cY g++cY n++cY o⟩ 152 (0,0))]) (fun hc=>?_) (fun D w=>?_)
 ·refine Uk (fun _=>((bkT ae 2).mono J)) U9 ?_;refine Te U6 ?_;refine TO (fun _=>(mR _ K L u F i H b e f h1.m_ A.m_ ar e0 e1 e2)) U9 ?_;refine Uk (fun _=>((bkT ae 2).mono J)) U9 ?_;refine Te U6 ?_;refine TO (fun _=>(mR _ K L u F k I g n o h1.m_ A.m_ au g0 g1 g2)) U9 ?_;refine TP hH Z ⟨?_, ?_,trivial⟩
  ·refine Tq U5 (fun D=>?_);refine Tq U5 (fun w=>?_);refine Tj (j:=1) U12 ?_;refine Tj (j:=1) U12 ?_;exact Ui [(7,[],_),(8,[],_)] ⟨Z,Z,trivial⟩ (a _ _ _ Z (G.perm _ ((ak (j:=1) Z).trans (List.Perm.cons _ (PC _))) (hc D w)))
  refine Tq U5 (fun w=>?_);refine Tq U5 (fun D=>?_);refine Tj (j:=0) U12 ?_;refine Tj (j:=1) U12 ?_;exact Ui [(7,[],_),(8,[],_)] ⟨Z,Z,trivial⟩ (a _ _ _ Z (G.perm _ ((ak (j:=1) Z).trans (List.Perm.cons _ (PC _))) (hc D w)))
 clear a hH J R;refine G.freeze 0 Z (fun _ _ af=>?_);refine G.freeze 0 Z (fun C8 _ ag=>?_);have aC:Sl C8 2 (.slice (some ⟨w,0,none⟩) 3 3) ([g,n,o].map cY):=Sl.ofBlock (rows:=[g,n,o].map cY) (c:=3) (Mem.get ag mup) (by intro r hr;obtain ⟨y,_,rfl⟩:=PF.1 hr;rfl) (fun j v hj=>by simpa using hj) (Py _) dc_;refine Tf fun R a=>?_;refine Td (bkT af 6) U8 ?_;refine Td (bkT ag 6) U8 ?_;refine TM (MP _ hT.m_ b e f g n o av aw ay az aA aB) U7 (fun aN _ _ M=>?_);obtain ⟨s,ah⟩:∃ s,il [b,e,f] g n o 3=s:=⟨_,rfl⟩;have aD:=wS (l:=[b,e,f]) rfl g n o 3 (Py _);rw [ah] at M aD;obtain ⟨Ac,cc,rfl,_⟩:=id M;simp only [am] at M ⊢;refine C6 1 [7,8,9] a Z ?_;clear a R;refine Tb 1 [7,8,9,10] Z ?_;refine Tf fun R a=>?_;refine Td (bkT af 6) U8 ?_;refine C6 1 [8,9,10,24,25] a Z ?_;clear a R;refine G.nilArr 34 2 ?_;refine G.loop (fun fr C' N Q=>∃ (j:Nat)(B:Option Addr)(m d:Nat),(j<=3)/\fr=[(8,[],.pointer (some ⟨w,0,none⟩)),(9,[],.slice Ac s.length cc),(10,[],.slice B m d),(24,[],Dd b e f),(25,[],.int .i64 j)]/\N=[.arr (.slice B m d) 34 2 (shF b e f g n o j).length ((shF b e f g n o j).map cY).flatten]/\Q=3-j) (hn_ [8,9,10,24,25] Z) ⟨0,none,0,0,by omega,Z,Z,Z⟩ (fun fr aO aP m _ S=>?_);obtain ⟨j,B,m,d,hj,rfl,rfl,rfl⟩:=S;refine Tb 1 [8,9,10,24,25,26] Z ?_;refine G.cd (fun T=>?_) fun T=>?_
 ·have ai:j<3:=by have:=OQ T;omega
  have aQ:=Em b e f g n o j;have O:=H0 (p0:=b) (p1:=e) (p2:=f) (q0:=g) (q1:=n) (q2:=o) ai;refine Tf fun R a=>?_;refine VL (cY (kT b e f j)) Z Z Z Z Z Z Z Z Z Z (fun _=>⟨by omega,by omega,DX ai⟩) Z Z ?_;refine Tq U5 (fun aR=>?_);refine Tj (j:=0) U12 ?_;refine Th [8,9,10,12,24,25] a Z ?_;clear a R;refine G.freeze 0 Z (fun _ _ aj=>?_);refine Tx [0,1,2] [(2,1)] Z kr_ (fun R J a=>?_);refine Uu 0 3 3 U12 (fun _=>⟨.inl ⟨Z,Z⟩,.inl ⟨Z,Z⟩,.inl ⟨Z,Z⟩,by omega,by omega,Py _⟩) U2 ?_;refine Td (bkT aj 2) U8 ?_;refine TO (fun _=>(nB _ _ [g,n,o] (kT b e f j) aC.m_)) U9 ?_;refine Th [8,9,10,12,24,25,30] a Z ?_;clear a J R;refine G.cd (fun U=>?_) fun U=>?_
  ·have V:CC (kT b e f j) [g,n,o]=true:=U;rw [aL V] at O;refine Tc 1 Z fun R a=>?_;refine Td (bkT aj 2) U8 ?_;refine Tz [cY (kT b e f j)] U12 (fun aS _ _ aE=>?_);refine TH (j:=0) U11 aE.m_ Z ax (by show ((shF b e f g n o j).length+1)*32<=_;omega) fl_ (fun an ao ap=>?_);refine C6 1 [8,9,10,24,25] a Z ?_;clear a R;refine Tf fun R a=>?_;refine Tm _ U7 ?_;refine C6 1 [8,9,10,24,25] a Z ?_;clear a R;refine Tu (L':=[.arr (.slice an ao ap) 34 2 (shF b e f g n o (j+1)).length ((shF b e f g n o (j+1)).map cY).flatten]) (by rw [O];simp) ?_;refine Tp (m':=3-(j+1)) om_ mup (hn_ [8,9,10,24,25] Z) ⟨j+1,an,ao,ap,by omega,Z,Z,Z⟩
  have W:¬ CC (kT b e f j) [g,n,o]=true:=by intro h;have A:CC (kT b e f j) [g,n,o]=false:=U;rw [h] at A;cases A
  rw [aF W,PY] at O;refine Tf fun R a=>?_;refine Tm _ U7 ?_;refine C6 1 [8,9,10,24,25] a Z ?_;clear a R;rw [<- O];refine Tp (m':=3-(j+1)) om_ mup (hn_ [8,9,10,24,25] Z) ⟨j+1,B,m,d,by omega,Z,Z,Z⟩
 obtain rfl:j=3:=by have:=PE T;omega
 obtain ⟨q,aq⟩:∃ q,shF b e f g n o 3=q:=⟨_,rfl⟩;have aG:=Em b e f g n o 3;rw [aq] at aG ⊢;have X:Bm b e f g n o=if q.length=3 then true else s.any fun p=>!CC p q:=by unfold Bm;rw [aq,ah]
 refine G.freezeArr 0 (q.map cY) rfl rfl (by intro r hr;obtain ⟨y,_,rfl⟩:=PF.1 hr;rfl) (by rw [am]) (fun Cs aT Y=>?_);obtain ⟨_,_,aH,_⟩:=id Y;cases aH
 simp only [am] at Y ⊢;refine Tb 3 [9,10,38] Z ?_;refine G.cd (fun aa=>?_) fun aa=>?_
 ·have h3:q.length=3:=by have h:=aa;simp at h;omega
  refine Tb 1 [6] Z ?_;refine Tl U2 ?_;exact ⟨by rw [X,aL h3],Z⟩
 have h3:¬ q.length=3:=by intro h;have A:((q.length:Int) == 3)=false:=aa;rw [h] at A;cases A
 refine Tb 3 [10,39,40,41] Z ?_;refine G.loop (fun fr C' N Q=>∃ (t:Nat),(t<=s.length/\∀ p∈s.take t,CC p q=true)/\fr=[(10,[],.slice B q.length d),(39,[],.slice Ac s.length cc),(40,[],.int .i64 s.length),(41,[],.int .i64 t)]/\N=[]/\Q=s.length-t) (hn_ [10,39,40,41] Z) ⟨0,⟨PG _,by simp⟩,Z,Z,Z⟩ (fun fr aU aV m _ S=>?_);obtain ⟨t,⟨ht,ab⟩,rfl,rfl,rfl⟩:=S;refine Tb 1 [10,39,40,41,42] Z ?_;refine G.cd (fun ac=>?_) fun ac=>?_
 ·have aI:t<s.length:=by have:=OQ ac;omega
  obtain ⟨p,hp⟩:∃ p,s[t]?=some p:=⟨_,al aI⟩;refine Tf fun R a=>?_;refine Tt M.m_ U10 om_ (by rw [Rk];exact bW hp) fl_ (fun aW aJ=>?_);refine Td aJ U8 ?_;refine Tq U5 (fun aX=>?_);refine Tj (j:=0) U12 ?_;refine Th [10,14,39,40,41] a Z ?_;clear a R;refine G.freeze 0 Z (fun _ _ aK=>?_);refine Tc 1 Z fun R a=>?_;refine Td (bkT aK 2) U8 ?_;refine To (nB _ _ q p Y.m_) U7 ?_;refine C6 1 [10,39,40,41,48] a Z ?_;clear a R;refine G.cd (fun ad=>?_) fun ad=>?_
  ·have W:CC p q=false:=by have h:(!CC p q)=true:=ad;simpa using h
   refine Tb 1 [6] Z ?_;refine Tl U2 ?_;exact ⟨by rw [X,aF h3,R4.2 ⟨p,Px hp,by rw [W];rfl⟩],Z⟩
  have V:CC p q=true:=by have h:(!CC p q)=false:=ad;simpa using h
  refine Tf fun R a=>?_;refine Tm _ U7 ?_;refine C6 1 [10,39,40,41] a Z ?_;clear a R;refine Tp (m':=s.length-(t+1)) om_ mup (hn_ [10,39,40,41] Z) ⟨t+1,⟨by omega,fun x z=>by
   rw [P0,hp] at z;rcases PQ.1 z with z | z
   ·exact ab x z
   simp only [QM,PU] at z;subst z;exact V⟩,Z,Z,Z⟩
 obtain rfl:t=s.length:=by have:=PE ac;omega
 rw [PO] at ab;refine Tb 1 [6] Z ?_;refine Tl U2 ?_;exact ⟨by rw [X,aF h3,show (s.any fun p=>!CC p q)=false from List.any_eq_false.2 fun x z=>by rw [ab x z];decide],Z⟩
def qm (pts:List Pt)(tris:List Tri):Bool:=decide (tris=[]) || !kP pts tris
theorem Pq:∀ i<15,∀ j<15,∀ h:Bool,qm (vS 0 ((i:Nat)-7) ((j:Nat)-7) h) ((shT 0).drop 1)=true:=by decide +kernel
theorem Pp:∀ i<15,∀ j<15,∀ h:Bool,qm (vS 1 ((i:Nat)-7) ((j:Nat)-7) h) ((shT 1).drop 1)=true:=by decide +kernel
theorem Po:∀ i<15,∀ j<15,∀ h:Bool,qm (vS 2 ((i:Nat)-7) ((j:Nat)-7) h) ((shT 2).drop 1)=true:=by decide +kernel
theorem Pn:∀ i<15,∀ j<15,∀ h:Bool,qm (vS 3 ((i:Nat)-7) ((j:Nat)-7) h) ((shT 3).drop 1)=true:=by decide +kernel
theorem Pm:∀ i<15,∀ j<15,∀ h:Bool,qm (vS 4 ((i:Nat)-7) ((j:Nat)-7) h) ((shT 4).drop 1)=true:=by decide +kernel
theorem Pk:∀ i<15,∀ j<15,∀ h:Bool,qm (vS 5 ((i:Nat)-7) ((j:Nat)-7) h) ((shT 5).drop 1)=true:=by decide +kernel
theorem Pj:∀ i<15,∀ j<15,∀ h:Bool,qm (vS 6 ((i:Nat)-7) ((j:Nat)-7) h) ((shT 6).drop 1)=true:=by decide +kernel
theorem Pi:∀ i<15,∀ j<15,∀ h:Bool,qm (vS 7 ((i:Nat)-7) ((j:Nat)-7) h) ((shT 7).drop 1)=true:=by decide +kernel
theorem B6 (m:Nat)(g:m<8)(a b:Int)(h:Bool):qm (df m a b h) ((shT m).drop 1)=true:=by
 obtain ⟨i,c,e⟩:=kU a;obtain ⟨j,d,f⟩:=kU b;rw [Ki,e,f];rcases (by omega:m=0∨m=1∨m=2∨m=3∨m=4∨m=5∨m=6∨m=7) with rfl | rfl | rfl | rfl | rfl | rfl | rfl | rfl
 ·exact Pq i c j d h
 ·exact Pp i c j d h
 ·exact Po i c j d h
 ·exact Pn i c j d h
 ·exact Pm i c j d h
 ·exact Pk i c j d h
 ·exact Pj i c j d h
 exact Pi i c j d h
theorem yl (h:MeshOk pts tris):MeshOk pts (tris.drop 1):=by
 cases tris with
 | nil=>exact h
 | cons t b =>
  have h1:=h.sides;have h2:=h.lt;unfold bO at h1;rw [List.flatMap_cons] at h1;rw [PR] at h2;exact ⟨h.q,h.nd,fun x a=>h.ins x (.tail _ a),fun x a=>h.pos x (.tail _ a),(QX.1 h1).2.1,by show b.length<=800;omega,h.lp⟩
theorem J2 {i:Nat}(h:i<tris.length):tris[i]?=some (tris.getD i (0,0,0)):=by
 rw [ay,al h];rfl
def KL (pts:List Pt)(tris:List Tri)(i k:Nat):Bool :=
 Bm (pts.getD (tris.getD i (0,0,0)).1 (0,0)) (pts.getD (tris.getD i (0,0,0)).2.1 (0,0)) (pts.getD (tris.getD i (0,0,0)).2.2 (0,0)) (pts.getD (tris.getD k (0,0,0)).1 (0,0)) (pts.getD (tris.getD k (0,0,0)).2.1 (0,0)) (pts.getD (tris.getD k (0,0,0)).2.2 (0,0))
theorem Gz (C:Mem)(j:Tabs C)(e f:Value)(d:List Pt)(c:List Tri)(l:Sl C 2 e (d.map cY))(m:Sl C 3 f (c.map gz))(g:MeshOk d c) :
  Gives cx.P 65 [.agg ⟨[e,f]⟩] C (.int .i64 (qR d c (KL d c))):=by
 refine wh C j e f d c _ l m g (fun _ _ D h i k p r=>?_);have n:=J2 p;have o:=J2 (show k<c.length by omega);have a:=g.ins _ (Px n);have b:=g.ins _ (Px o);exact yL D (j.mono h) e f d c i k _ _ _ _ _ _ _ _ (l.mono h) (m.mono h) n o (iO a.1) (iO a.2.1) (iO a.2.2) (iO b.1) (iO b.2.1) (iO b.2.2) g.q
theorem MS {X:Nat->Nat->Bool}(h:qm pts tris=true):qR pts tris X≠0:=by
 unfold qR;split
 ·decide
 rename_i a;unfold qm at h;rw [P7 a,Bool.false_or,RL] at h;rw [aF (by rw [h];decide)];split <;> decide
theorem qg (C:Mem)(v:Value)(l:List Lay)(b:Sl C 3 v (l.map lQ))(t:l.length<=1000000):Jog.Fn cx.P 52 [v] C [] fun u _w e=>∃ A n c,u=.slice A n c/\e=[.arr (.slice A n c) 121 3 l.length (l.map lQ).flatten]:=by
 obtain ⟨f,c0,rfl,m,x,y,o⟩:=id b;have z:maxLen<=9223372036854775807:=by simp [maxLen]
 simp only [am] at b m ⊢;refine Tk func52 8 U3 fun w0=>Tb 1 [0] Z<|Tc 1 Z fun R d=>Ux U9<|Th [0,4] d Z<|G.cd (fun h4=>?_) fun h4=>?_
 ·have p:f=none:=by
   cases f with
   | none=>rfl
   | some a=>cases h4
  have s:l=[]:=by
   cases l with
   | nil=>rfl
   | cons q r =>
    obtain ⟨a,g,_⟩:=o 0 (lQ q) rfl;rw [p] at g;cases g
  refine Tb 1 [2] Z<|G.nilArr 121 3<|Tn (TQ Z Z ?_);exact ⟨none,0,0,Z,by rw [s];rfl⟩
 refine Tf fun R d=>Un [] U12 fl_ fun B=>Te U6<|TH (j:=0) U11 b.m_ (by simp [lQ,me,ah]) (by simp only [am,P6,maxLen];omega) (by simp only [am,P6];omega) fl_ fun h i k=>C6 1 [2] d Z<|Tu (L':=[.arr (.slice h i k) 121 3 l.length (l.map lQ).flatten]) ap<|Tn (TQ Z Z ?_);exact ⟨h,i,k,Z,Z⟩
def iA (a:Nat):Obs:=⟨(a % 5:Nat),[120],[],[],[],[],[],[],[],[]⟩
def Eg (x:Lay):Lay:=⟨x.unit, -1,x.max⟩
def CA:Lay:=⟨[],0,none⟩
def rh (B:Bk)(k a:Nat):Bk :=
 if k=0 then ⟨B.pts,B.tris,B.terr.set (a % B.terr.length) [49,47,49],B.col,B.obs⟩ else if k=1 then ⟨B.pts,B.tris,B.terr,B.col.set (a % B.col.length) (Eg (B.col.getD (a % B.col.length) CA)),B.obs⟩ else if k=2 then ⟨B.pts,B.tris.drop 1,B.terr,B.col,B.obs⟩ else ⟨B.pts,B.tris,B.terr,B.col,B.obs++[iA a]⟩
theorem HR:∀ i<3,nY (colK.set i (Eg (colK.getD i CA)))≠0:=by decide +kernel
theorem KU:∀ i<5,dD (iA i)≠0:=by decide +kernel
theorem MU (C:Mem)(p:Tabs C)(e:Value)(S:Sht)(H:Hts)(l:List Sgt)(t:∀ s∈l,SgtR s)(k a:Nat)(c:BookIn C e (rh (bx S H l) k a)):∃ z,z≠0/\BookZ C e (rh (bx S H l) k a) z/\bs (rh (bx S H l) k a)*bp (rh (bx S H l) k a)<=60:=by
 have m:=(uH S H l).2;have W:=(uH S H l).1;have i:=(mA (S.kd % 8) (P2 _ dc_) S.a S.b S.h).1;have d:=MT S H l t;have u:(bx S H l).terr.length=bp (bx S H l):=by
  show ((fsK _ H).map qtx).length=_;rw [am,pL];rfl
 have h60:bs (bx S H l)*bp (bx S H l)<=60:=by rw [JH];omega
 have n:∀ B:Bk,BookIn C e B->Good B.pts B.tris->BookR B->B.col≠[]->B.col.length<=3->B.pts.length<=6->fK B≠0->∃ z,z≠0/\BookZ C e B z/\bs B*bp B<=60:=fun B c g r K c2 Y j =>
  ⟨_,j,⟨c,fun D f=>kH D (p.mono f) e _ (c.mono f) g r,fun _=>K,by omega,by omega⟩,by
   have:bs B*bp B<=3*6:=Q1 (by unfold bs;omega) (by unfold bp;omega);omega⟩
 have v:uf (bx S H l).pts.length (bx S H l).terr=0:=by
  unfold uf;rw [aL (show _=(bx S H l).pts.length from u)];show nC (((fsK _ H).map qtx).all aV)=0;rw [qE (fun q L=>ok1 (F9 _ H q L))];rfl
 have M:nY colK=0:=by decide +kernel
 revert c;unfold rh;split
 ·intro c;refine n _ c i ⟨fun s h=>?_,d.col,d.lcol,d.obs⟩ (by show colK≠[];decide) (by show colK.length<=3;decide) m ?_
  ·rcases Qx h with h | rfl
   ·exact d.terr s h
   decide
  have N:a % (bx S H l).terr.length<(bx S H l).terr.length:=P2 _ om_;have w:uf (bx S H l).pts.length ((bx S H l).terr.set (a % (bx S H l).terr.length) [49,47,49])=2:=by
   unfold uf;rw [aL (by rw [Qf];exact u)];have:((bx S H l).terr.set (a % (bx S H l).terr.length) [49,47,49]).all aV=false:=RM.2 ⟨_,List.mem_set N _,by decide +kernel⟩;show nC (((bx S H l).terr.set (a % (bx S H l).terr.length) [49,47,49]).all aV)=2;rw [this];rfl
  unfold fK;rw [aL (by rw [w];decide),w];decide
 split
 ·intro c;have y:a % (bx S H l).col.length<3:=P2 _ (by show 0<3;decide);refine n _ c i ⟨d.terr,fun x h=>?_,by show ((bx S H l).col.set _ _).length<=1000000;rw [Qf];exact d.lcol,d.obs⟩ (fun h=>?_) (by show ((bx S H l).col.set _ _).length<=3;rw [Qf];exact Py _) m ?_
  ·rcases Qx h with h | rfl
   ·exact d.col x h
   have hm:(bx S H l).col.getD (a % (bx S H l).col.length) CA∈(bx S H l).col:=by
    rw [ay,al (by exact y)];exact Qq _
   obtain ⟨Z,O,P⟩:=d.col _ hm;exact ⟨by show QB 22 (-1:Rat);decide +kernel,O,P⟩
  ·have:=congrArg List.length h;rw [Qf] at this;exact absurd this (by show ¬ 3=0;decide)
  have A:nY ((bx S H l).col.set (a % (bx S H l).col.length) (Eg ((bx S H l).col.getD (a % (bx S H l).col.length) CA)))≠0:=HR _ y;unfold fK;dsimp only;rw [aF (fun h=>h v),aL A];exact A
 split
 ·intro c;obtain ⟨F,G,Q,R,T,U,h1,h2,h3,h4,h5⟩:=id c.ex;have j:=MS (X:=KL (df (S.kd % 8) S.a S.b S.h) ((shT (S.kd % 8)).drop 1)) (B6 (S.kd % 8) (P2 _ dc_) S.a S.b S.h);exact ⟨_,j,⟨c,fun D f=>wZ D e F G Q R T _ U j fun E o=>Gz E (p.mono (Mem.le.trans f o)) F G _ _ (h1.mono (Mem.le.trans f o)) (h2.mono (Mem.le.trans f o)) (yl i.ok),fun _=>by show colK≠[];decide,by show colK.length<=1000;decide,by show bp (bx S H l)<=400;omega⟩,h60⟩
 intro c;have V:a % 5<5:=P2 _ dc_;have I:dD (iA a)≠0:=by
  have:=KU (a % 5) V;unfold iA at this ⊢;rw [Nat.mod_mod] at this;exact this
 refine n _ c i ⟨d.terr,d.col,d.lcol,fun x h=>?_⟩ (by show colK≠[];decide) (by show colK.length<=3;decide) m ?_
 ·rcases PQ.1 h with h | h
  ·exact d.obs x h
  rw [PU.1 h];exact ⟨by simp [iA],by simp [iA],by simp [iA],by simp [iA],by simp [iA],by simp [iA],by simp [iA],by simp [iA],by simp [iA]⟩
 have aa:(bx S H l).obs.length<=6:=by
  show (rI S l).length<=6;rw [jB];omega
 have ab:=Dk S H l t;unfold fK;rw [aF (fun h=>h v),aF (fun h=>h M),aF (by rw [PH,ba];omega),PH,ba];simp only [tN];split
 ·assumption
 rw [ay,PX (Py _),RW];show obZ _ _ (iA a)≠0;have J:gd (bx S H l).pts (bx S H l).tris (bx S H l).col (iA a)≠0:=by
  unfold gd;rw [aL I];exact I
 unfold obZ;rw [aL J];exact J
theorem HQ:∀ i,i<3->aD (colK.map lQ).flatten [ah [45,49]] (i*3+1)=((colK.set i (Eg (colK.getD i CA))).map lQ).flatten:=fun i a=>by
 have e:ah (qtx (-1))=ah [45,49]:=by rw [cG]
 rcases (by omega:i=0∨i=1∨i=2) with rfl | rfl | rfl <;> (rw [<- e];rfl)
theorem CK (C:Mem)(Y:Tabs C)(pv:Value)(S:Sht)(H:Hts)(l:List Sgt)(g f:Nat)(_aU:g<256)(ha:f<256)(hP:Hd C pv S H l)(O:PlanR S H l):Gives cx.P 10 [pv,.int .u8 g,.int .u8 f] C (.bool true):=by
 obtain ⟨A,c,rfl,aw⟩:=hP;have hG:=(mA (S.kd % 8) (P2 _ dc_) S.a S.b S.h).1;have aV:(bx S H l).obs.length<=6:=by
  show (rI S l).length<=6;rw [jB];omega
 have aW:maxLen<=9223372036854775807:=by simp [maxLen]
 have aX:1000<=maxLen:=by simp [maxLen]
 have aY:(bx S H l).terr.length=bp (bx S H l):=by
  show ((fsK _ H).map qtx).length=_;rw [am,pL];rfl
 have aZ:=uH S H l;have an:(bx S H l).col.length=3:=rfl;obtain ⟨F,hF⟩:∃ F,fsK (df (S.kd % 8) S.a S.b S.h).length H=F:=⟨_,rfl⟩;have I:(bx S H l).terr=F.map qtx:=by rw [<- hF];rfl
 have ax:0<F.length/\F.length<=6:=by
  have:F.length=(bx S H l).terr.length:=by rw [I,am]
  omega
 refine Tk func10 219 U3 fun w0=>Tf fun R d=>Tv U6 fun b3=>C6 1 [1,2,3] d Z<|Tf fun R d=>To (FN _ Y.m_) U7<|C6 1 [1,2,3,26] d Z<|G.cd (fun ao=>?_) fun ao=>?_
 ·exact absurd ao dc_
 refine G.freeze 0 Z fun _ _ ay=>Tf fun R d=>Td (bkT ay 12) U8<|TM (Ft _ Y.m_ S H _ l O.kd O.h aw.m_ O.s hG) U7 (fun a0 az _ aA=>?_);obtain ⟨v1,v2,tv,cv,ov,rfl,J,K,g3,Q,L⟩:=id aA.ex;obtain ⟨B1,d1,rfl,_⟩:=id J;obtain ⟨B2,d2,rfl,aB,a1,_⟩:=id K;obtain ⟨B3,d3,rfl,an,a2,_⟩:=id g3;obtain ⟨B4,d4,rfl,aC,a3,_⟩:=id Q;obtain ⟨B5,d5,rfl,_⟩:=id L;simp only [am] at J K g3 Q L aB an aC ⊢;have aq:Sl az 1 (.slice B3 (bx S H l).terr.length d3) (F.map eh):=by rw [fH,<- I];exact g3
 refine Tq U5 fun T=>Tj (j:=0) U12<|Th [1,2,7] d Z<|G.cut (fun fr C' L' μ=>∃ (n:Option Addr)(o p:Nat)(v:Option Addr)(w x:Nat),(True)/\fr=[(1,[],.int .u8 g),(2,[],.int .u8 f),(7,[],.pointer (some ⟨T,0,none⟩))]/\L'=[.obj T (.cells ⟨[.slice B1 (bx S H l).pts.length d1,.slice B2 (bx S H l).tris.length d2,.slice n o p,.slice v w x,.slice B5 (bx S H l).obs.length d5]⟩ 45 (0,0)),.arr (.slice v w x) 121 3 (bx S H l).col.length ((bx S H l).col.map lQ).flatten,.arr (.slice n o p) 32 1 F.length (F.map eh).flatten]) ?_ (fun fr a4 a5 μ a6 hI=>?_)
 ·refine TX (.cut [0,1,3] (.alt 2 (.fin [4,6,5,7,8,9]) (.alt 4 (.fin [2,6,5,7,8,9]) .stop))) [(2,3),(5,3)] U2 kr_ fun R hB d hH=>Te U6<|Ti ag U9<|Te U6<|TP hH Z ⟨?_, ?_,trivial⟩
  ·refine D.call (qi _ _ F aq.m_ om_) Z (.inr dc_) U6 (PC _) fl_ (fun aD aE aG _ M=>?_)
   try obtain ⟨n,o,p,rfl,rfl⟩:=M
   first | refine Ua ag U9 ?_ | refine Ua af U9 ?_
   refine Te U6 ?_
   try obtain ⟨n,o,p,rfl,rfl⟩:=M
   refine D.call (qg _ _ (bx S H l).col Q.m_ (by show 3<=1000000;decide)) Z (.inr dc_) U6 (PC _) fl_ (fun aH aI aJ _ ab=>?_);obtain ⟨v,w,x,rfl,rfl⟩:=ab;exact Tj (j:=2) U12<|Te U6<|Tj (j:=0) U12<|Th [1,2,7] d Z<|Tr 0 mup (hn_ [1,2,7] Z) ⟨n,o,p,v,w,x,trivial,Z,Z⟩
  try obtain ⟨n,o,p,rfl,rfl⟩:=M
  first | refine Ua ag U9 ?_ | refine Ua af U9 ?_
  refine D.call (qi _ _ F aq.m_ om_) Z (.inr dc_) U6 (PC _) fl_ fun aD aE aG _ M=>Te U6 ?_
  try obtain ⟨n,o,p,rfl,rfl⟩:=M
  refine D.call (qg _ _ (bx S H l).col Q.m_ (by show 3<=1000000;decide)) Z (.inr dc_) U6 (PC _) fl_ (fun aH aI aJ _ ab=>?_);obtain ⟨v,w,x,rfl,rfl⟩:=ab;exact Tj (j:=2) U12<|Te U6<|Tj (j:=0) U12<|Th [1,2,7] d Z<|Tr 0 mup (hn_ [1,2,7] Z) ⟨n,o,p,v,w,x,trivial,Z,Z⟩
 obtain ⟨n,o,p,v,w,x,_,rfl,rfl⟩:=hI;refine G.form ae fun aK _=>G.form af (fun aM _=>?_);obtain ⟨G3,k3,e3,q3,m3⟩:=aK.resolve_left (by rintro ⟨_,h⟩;omega);obtain ⟨rfl,rfl,rfl⟩:n=some ⟨G3,0,none⟩/\o=F.length/\p=k3:=by cases e3;exact ⟨rfl,rfl,rfl⟩
 obtain ⟨G4,k4,e4,q4,m4⟩:=aM.resolve_left (by rintro ⟨_,h⟩;exact absurd h (by show ¬ 3=0;decide));obtain ⟨rfl,rfl,rfl⟩:v=some ⟨G4,0,none⟩/\w=(bx S H l).col.length/\x=k4:=by cases e4;exact ⟨rfl,rfl,rfl⟩
 refine Tc 1 Z fun R d=>TS (g) (4) U6 om_ U2<|Th [2,7,38] d Z<|Tb 2 [2,7,38,39] Z<|G.cut (fun fr C' L' μ=>∃ (w1 w2 w3 w4 w5:Value),(BookIn C' (.agg ⟨[w1,w2,w3,w4,w5]⟩) (rh (bx S H l) (g % 4) f))/\fr=[(7,[],.pointer (some ⟨T,0,none⟩))]/\L'=[.obj T (.cells ⟨[w1,w2,w3,w4,w5]⟩ 45 (0,0))]) ?_ (fun fr _ a7 μ _ hI=>?_)
 ·refine G.cd (fun U=>?_) fun U=>?_
  ·have N:g % 4=0:=by have:=di U;omega
   have hm:=P2 f ax.1;have ar:=bK (enc:=gi) (s:=1) fl_ (l:=F.map qtx) (i:=f % F.length) [49,47,49] (by rw [am];exact hm);rw [QG,<- fH] at ar;refine Tx [0,1,2,3,4,5,6,7,8,9] [(3,0)] Z kr_ fun R hB d=>Te U6<|Ti ag U9<|Te U6<|Ul (c:=((f:Nat):Int)) U8 (wrap_i64 om_ om_) U2<|Te U6<|Ti ag U9<|Te U6<|TS (f) (F.length) U6 om_ U2<|TE ((f % F.length)) U10 (fun _=>⟨by omega,by omega,(QG _).symm⟩) U2<|TJ (j:=2) U11 (by rw [bP (enc:=eh) (s:=1) fl_];show f % F.length+1<=_;omega)<|Th [7] d Z<|G.freezeArr 0 (((F.map qtx).set (f % F.length) [49,47,49]).map gi) rfl ar (by intro r hr;obtain ⟨y,_,rfl⟩:=PF.1 hr;rfl) ap fun Cs ad B=>G.freezeArr 1 ((bx S H l).col.map lQ) rfl rfl (by intro r hr;obtain ⟨y,_,rfl⟩:=PF.1 hr;rfl) ap fun Ct ai E=>Tr 0 mup (hn_ [7] Z) ⟨_,_,_,_,_,by unfold rh;rw [aL N,I,am];exact ⟨_,_,_,_,_,Z,J.mono mup,K.mono mup,B.mono mup,E.mono mup,L.mono mup⟩,Z,Z⟩
  have N:¬ g % 4=0:=by
   intro e;rw [e] at U;exact absurd U dc_
  refine Tb 2 [2,7,38,50] Z<|G.cd (fun V=>?_) fun V=>?_
  ·have W:g % 4=1:=by have:=di V;omega
   refine Tx [0,1,2,3,4,5,6,7,8,9,10] [(3,0)] Z kr_ fun R hB d=>Te U6<|Ti ag U9<|Te U6<|Ul (c:=((f:Nat):Int)) U8 (wrap_i64 om_ om_) U2<|Te U6<|Ti ag U9<|Te U6<|TS (f) (3) U6 om_ U2<|TE ((f % 3*3)) U10 aj U2<|Te U6<|TJ (j:=1) U11 (by show f % 3*3+1+1<=9;omega)<|Th [7] d Z<|G.freezeArr 0 (((bx S H l).col.set (f % 3) (Eg ((bx S H l).col.getD (f % 3) CA))).map lQ) rfl (HQ _ (P2 f dc_)) (by intro r hr;obtain ⟨y,_,rfl⟩:=PF.1 hr;rfl) ap fun Cs ad E=>G.freezeArr 1 ((F.map qtx).map gi) (by rw [<- fH];rfl) rfl (by intro r hr;obtain ⟨y,_,rfl⟩:=PF.1 hr;rfl) ap fun Ct ai B=>Tr 0 mup (hn_ [7] Z) ⟨_,_,_,_,_,by unfold rh;rw [aF N,aL W,I];exact ⟨_,_,_,_,_,Z,J.mono mup,K.mono mup,B.mono mup,E.mono mup,L.mono mup⟩,Z,Z⟩
  have W:¬ g % 4=1:=by
   intro e;rw [e] at V;exact absurd V dc_
  refine Tb 2 [2,7,38,62] Z<|G.cd (fun X=>?_) fun X=>?_
  ·have ak:g % 4=2:=by have:=di X;omega
   have a8:1<=(bx S H l).tris.length:=Qi.2 (Ek (S.kd % 8) (P2 _ dc_)).1;refine Tc 2 Z fun R d=>Ti ag U9<|Ud 1 (bx S H l).tris.length d2 U12 (fun _=>⟨.inr ⟨_,Z⟩,.inl ⟨Z,Z⟩,.inl ⟨Z,Z⟩,by omega,by omega,by omega⟩) U2<|Tg 2 Z<|Tj (j:=0) U12<|Th [7] d Z ?_;have au:=Sl.sub K (l:=1) (h:=(bx S H l).tris.length) (m:=d2) om_ (by rw [am];exact Py _) om_ om_;rw [Qg (by rw [am];exact Py _),<- List.map_drop] at au;refine G.freezeArr 1 ((bx S H l).col.map lQ) rfl rfl (by intro r hr;obtain ⟨y,_,rfl⟩:=PF.1 hr;rfl) ap fun Cs ad E=>G.freezeArr 1 ((F.map qtx).map gi) (by rw [<- fH];rfl) rfl (by intro r hr;obtain ⟨y,_,rfl⟩:=PF.1 hr;rfl) ap fun Ct ai B=>Tr 0 mup (hn_ [7] Z) ⟨_,_,_,_,_,by unfold rh;rw [aF N,aF W,aL ak,I];exact ⟨_,_,_,_,_,Z,J.mono mup,au.mono mup,B.mono mup,E.mono mup,L.mono mup⟩,Z,Z⟩
  have ak:¬ g % 4=2:=by
   intro e;rw [e] at X;exact absurd X dc_
  refine Tb 2 [2,7,70] Z<|G.cd (fun al=>?_) fun al=>?_
  ·refine TC [(2,3)] Z fun R d=>Te U6<|Ti ag U9<|D.call (GJ _ _ (bx S H l).obs L.m_ om_) Z (.inr dc_) U6 (PC _) fl_ (fun a9 _ bb _ aN=>?_);obtain ⟨A5,n5,c5,rfl,rfl⟩:=aN;refine Te U6<|TS (f) (5) U6 om_ U2<|TR (c:=((f % 5:Nat):Int)) U8 (wrap_i64 om_ om_) fl_<|Tw (lP (iA f)) U8<|Tz [lP (iA f)] U12 fun bc _ _ aO=>TH (j:=0) U11 aO.m_ Z (by simp only [ba];omega) (by simp only [ba];show ((bx S H l).obs.length+1)*152<=_;omega) fl_ fun bd be bf=>Te U6<|Tj (j:=1) U12<|Th [7] d Z<|G.freezeArr 1 (((bx S H l).obs++[iA f]).map lP) rfl ap (by intro r hr;obtain ⟨y,_,rfl⟩:=PF.1 hr;rfl) ap fun Cr bg aP=>G.freezeArr 1 ((bx S H l).col.map lQ) rfl rfl (by intro r hr;obtain ⟨y,_,rfl⟩:=PF.1 hr;rfl) ap fun Cs ad E=>G.freezeArr 1 ((F.map qtx).map gi) (by rw [<- fH];rfl) rfl (by intro r hr;obtain ⟨y,_,rfl⟩:=PF.1 hr;rfl) ap fun Ct ai B=>Tr 0 mup (hn_ [7] Z) ⟨_,_,_,_,_,by unfold rh;rw [aF N,aF W,aF ak,I];exact ⟨_,_,_,_,_,Z,J.mono mup,K.mono mup,B.mono mup,E.mono mup,aP.mono mup⟩,Z,Z⟩
  exact absurd (by omega:g % 4=3) (by intro e;rw [e] at al;exact absurd al dc_)
 obtain ⟨w1 ,w2 ,w3 ,w4 ,w5,hX,rfl,rfl⟩:=hI;obtain ⟨z,k,q,h60⟩:=MU _ Y.m_ _ S H l O.s (g % 4) f hX;have t:=N6 (z:=z) h60;refine G.freeze 0 Z fun _ _ u=>Tf fun R d=>Td (bkT u 5) U8<|To (ze _ _ _ z z q.m_ t k) U7<|C6 5 [7,9] d Z<|Tb 2 [7,9,88] Z<|G.cd (fun av=>?_) fun av=>?_
 ·exact absurd av (by simpa using k)
 refine Tf fun R d=>Td (bkT u 5) U8<|TM (eK _ _ _ z z q.m_ t k) U7 (fun bh _ _ aQ=>?_);subst aQ;refine Tg 3 Z<|Tq U5 fun bi=>Tj (j:=0) U12<|C6 1 [7,9,10,11] d Z<|Tf fun R d=>Td (bkT u 5) U8<|TM (GZ _ _ _ z z q.m_ t k) U7 (fun bj _ _ aR=>?_);subst aR;refine Tg 5 Z<|Tq U5 fun bk=>Te U6<|Tj (j:=0) U12<|C6 2 [7,9,10,11,12,13,14,15] d Z<|Tf fun R d=>Td (bkT u 5) U8<|Tw ([ah [48],ah [48]]) U8<|To (EE _ _ _ z z q.m_ t k 0 [48] [48]) U7<|C6 7 [7,9,10,11,12,13,14,15,16,17,18] d Z<|Tf fun R d=>Td (bkT u 5) U8<|Tw ([ah [48],ah [48]]) U8<|To (yv _ _ _ z z q.m_ t k _ [48] [48]) U7<|C6 5 [7,9,10,11,12,13,14,15,16,17,18,19,20] d Z<|Tf fun R d=>Td (bkT u 5) U8<|TM (oR _ _ _ z z q.m_ t k) U7 (fun bl _ _ aS=>?_);subst aS;refine Tg 3 Z<|Tq U5 fun bm=>Tj (j:=0) U12<|C6 1 [7,9,10,11,12,13,14,15,16,17,18,19,20,21,22] d Z<|Tf fun R d=>Td (bkT u 5) U8<|TM (Ja _ _ _ z z q.m_ t k) U7 (fun bn _ _ aT=>?_);subst aT;exact Tg 3 Z<|Tq U5 fun bo=>Tj (j:=0) U12<|C6 1 [7,9,10,11,12,13,14,15,16,17,18,19,20,21,22,23,24] d Z<|Tc 7 Z fun R d=>TB U8<|Tg 4 Z<|TB U8<|Tg 4 Z<|TB U8<|Tg 4 Z<|TB U8<|Tg 4 Z<|TB U8<|Te U6<|TF U6 (fun _=>PtrTo.blockT (Mem.get u mup) _ 5) U3<|TO (fun _=>(FW _ _ _ z z q.m_ t k _)) U9<|Tg 2 Z<|TB U8<|Te U6<|TF U6 (fun _=>PtrTo.blockT (Mem.get u mup) _ 5) U3<|Tw ([.slice none 0 0]) U8<|TO (fun _=>(ye _ _ _ z z q.m_ t k _)) U9<|Tg 2 Z<|TB U8<|Te U6<|TF U6 (fun _=>PtrTo.blockT (Mem.get u mup) _ 5) U3<|Tw ([.slice none 0 0,ah [],.slice none 0 0]) U8<|TO (fun _=>(BO _ _ _ z z q.m_ t k _ _ _)) U9<|Tg 2 Z<|TB U8<|Tg 3 Z<|TB U8<|Tg 3 Z<|TB U8<|Tg 3 Z<|TB U8<|Tg 2 Z<|Ti ag U9<|Te U6<|TB U8<|Tg 2 Z<|Ti ac U9<|Te U6<|Ti af U9<|Tm _ U7<|Te U6<|Ti ac U9<|Te U6<|Tm _ U7<|Te U6<|Ti af U9<|Te U6<|Tm _ U7<|Tg 2 Z<|Tm _ U7<|Te U6<|Ti ae U9<|Te U6<|Tm _ U7<|Tg 2 Z<|Tm _ U7<|Te U6<|Ti ag U9<|Te U6<|Tm _ U7<|Te U6<|TB U8<|C6 1 [6] d Z<|Tl U2<|⟨by simp,Z⟩
end Go.Proofs.YtfjcldheldflbaaGreatDoor
