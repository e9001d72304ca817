/- Laws that the proofs of this seat share, part 9. -/
import Derived.Test.YthnpijdjlddpmaaGreatDoorG8
import Derived.Test.YthnpijdjlddpmaaGreatDoorShelf
set_option maxHeartbeats 4000000
namespace Go.Proofs.YthnpijdjlddpmaaGreatDoor
open Tryz
open Go Go.Jog
set_option maxRecDepth 100000
variable {B:Bk}{C:Mem}{o:Obs}{p:Pt}{t:Tri}{v:Value}{z:Rat}
theorem oK (C:Mem)(v:Value)(l:List Rat)(b:Sl C 1 v (l.map fH))(t:l.length<=1000000):Jog.Fn cx.P 173 [v] C [] fun u _w e=>∃ A n c,u=.slice A n c/\e=[.arr (.slice A n c) 56 1 l.length (l.map fH).flatten]:=by
 obtain ⟨f,c0,rfl,m,x,y,o⟩:=id b;have z:maxLen<=9223372036854775807:=by simp [maxLen]
 simp only [ax] at b m ⊢;refine Ph func173 8 U3 fun w0=>C6 1 [0] Z<|O7 1 Z fun R d=>Qy U9<|Pd [0,4] d Z<|O9 (fun h4=>?_) fun h4=>?_
 ·have p:f=none:=by
   cases f with
   | none=>rfl
   | some a=>cases h4
  have s:l=[]:=by
   cases l with
   | nil=>rfl
   | cons q r =>
    obtain ⟨a,g,_⟩:=o 0 (fH q) rfl;rw [p] at g;cases g
  refine C6 1 [2] Z<|G.nilArr 56 1<|Pl (PM Z Z ?_);exact ⟨none,0,0,Z,by rw [s];rfl⟩
 ·refine Pb fun R d=>Qo [] U12 fl_ fun B=>Pa U6<|Pu (j:=0) U11 b.m_ (by simp [fH,nT,al]) (by simp only [ax,MM,maxLen];omega) (by simp only [ax,MM];omega) fl_ fun h i k=>C4 1 [2] d Z<|Po (L':=[.arr (.slice h i k) 56 1 l.length (l.map fH).flatten]) (by simp)<|Pl (PM Z Z ?_);exact ⟨h,i,k,Z,Z⟩
def JE (r:RowQ):Prop:=(∀ q∈r.f,QB 22 q)/\QB 22 r.b
theorem jB {a:List Value}{c:List RowQ}{i:Nat}{w:Value}{r:RowQ}(d:a[i]?=some w)(e:c[i]?=some r):(aN a c)[i]?=some [w,al (qtx r.b)]:=by
 unfold aN;rw [List.getElem?_zipWith,d,e]
theorem AE (C:Mem)(hT:Tabs C)(v:Value)(a:List RowQ)(hv:RowsIn C v a)(e:∀ r∈a,JE r)(ac:∀ r∈a,r.f.length<=1000)(am:a.length<=100000) :
  Gives cx.P 200 [v] C (.tuple #[v,.int .i64 0]):=by
 obtain ⟨vs,z,A⟩:=hv;obtain ⟨l,c0,rfl,ad,an,_⟩:=id A;have ao:maxLen<=9223372036854775807:=by simp [maxLen]
 simp only [dF z.1] at A ad ⊢;refine Ph func200 32 U3 fun w0=>C6 2 [0] Z<|C6 3 [0,8,9,10] Z<|G.loop (fun fr C' n o=>∃ (i:Nat),(i<=a.length)/\fr=[(0,[],.slice l a.length c0),(8,[],.slice l a.length c0),(9,[],.int .i64 a.length),(10,[],.int .i64 i)]/\n=[]/\o=a.length-i) (hn_ [0,8,9,10] Z) ⟨0,LV _,Z,Z,Z⟩ (fun fr ap aq m _ p=>?_);obtain ⟨i,hi,rfl,rfl,rfl⟩:=p;refine C6 1 [0,8,9,10,11] Z<|O9 (fun H=>?_) fun H=>?_
 ·have I:i<a.length:=by simpa using H
  obtain ⟨r,B⟩:∃ r,a[i]?=some r:=⟨a[i],aj I⟩;obtain ⟨w,J⟩:∃ w,vs[i]?=some w:=⟨vs[i]'(by rw [z.1];exact I),aj _⟩;have K:=LQ B;obtain ⟨ae,af⟩:=e r K;have ar:=ac r K;have au:(r.f++[r.b]).length<=1001:=by simp;omega
  have x:=z.2 i w r J B;obtain ⟨Aw,cw,rfl,_⟩:=id x;refine Pb fun R c=>Pm A.m_ U10 om_ (jB J B) fl_ fun av ag=>O8 ag U8<|Pq U5 fun b5=>Pg (j:=0) U12<|Pd [0,5,8,9,10] c Z<|G.freeze 0 Z fun _ _ E=>G.cut (fun fr C' n o=>∃ (g:Option Addr)(k:Nat),(Sl C' 1 (.slice g (r.f++[r.b]).length k) ((r.f++[r.b]).map fH))/\fr=[(0,[],.slice l a.length c0),(8,[],.slice l a.length c0),(9,[],.int .i64 a.length),(10,[],.int .i64 i),(20,[],.slice g (r.f++[r.b]).length k),(21,[],.int .i64 (r.f++[r.b]).length),(22,[],.int .i64 0)]/\n=[]) ?_ (fun fr aw ay o az p=>?_)
  ·refine PV (.cut [0,1,3,8] (.alt 2 (.fin [4,5,6,7]) (.alt 4 (.cut [] (.alt 2 (.fin [5,6,7]) (.alt 5 (.fin [2,6,7]) .stop))) .stop))) [(2,3)] Z Z kr_ fun R hB c L=>Pa U6<|O8 (bkT E 1) U8<|Pc 2 Z<|PF L Z ⟨?_, ?_,trivial⟩
   ·refine D.call (oK _ _ r.f x.m_ om_) Z (.inr dc_) U6 (LR _) fl_ fun M N O _ s=>O8 (bkT E 1) U8<|Ps [fH r.b] U12 (fun Q S _ t=>?_);obtain ⟨T,U,cc,rfl,rfl⟩:=s;refine Pu (j:=0) U11 t.m_ (by simp [fH,nT,al]) (by simp only [aE,maxLen];omega) (by simp only [aE];omega) fl_ fun g V k=>C4 1 [0,8,9,10,20,21,22] c Z<|G.freezeArr 0 ((r.f++[r.b]).map fH) rfl (by simp) (by intro r e;obtain ⟨y,_,rfl⟩:=L4.1 e;rfl) (by simp) (fun W X d=>?_);obtain ⟨Y,cz,u,_⟩:=id d;cases u
    simp only [ax] at d ⊢;exact G.dropAll<|Pj 0 mup (hn_ [0,8,9,10,20,21,22] Z) ⟨_,_,d,Z,Z⟩
   ·refine O8 (bkT E 1) U8<|PF L Z ⟨?_, ?_,trivial⟩
    ·refine D.call (oK _ _ r.f x.m_ om_) Z (.inr dc_) U6 (LR _) fl_ fun M N O _ s=>Ps [fH r.b] U12 (fun Q S _ t=>?_);obtain ⟨T,U,cc,rfl,rfl⟩:=s;refine Pu (j:=0) U11 t.m_ (by simp [fH,nT,al]) (by simp only [aE,maxLen];omega) (by simp only [aE];omega) fl_ fun g V k=>C4 1 [0,8,9,10,20,21,22] c Z<|G.freezeArr 0 ((r.f++[r.b]).map fH) rfl (by simp) (by intro r e;obtain ⟨y,_,rfl⟩:=L4.1 e;rfl) (by simp) (fun W X d=>?_);obtain ⟨Y,cz,u,_⟩:=id d;cases u
     simp only [ax] at d ⊢;exact G.dropAll<|Pj 0 mup (hn_ [0,8,9,10,20,21,22] Z) ⟨_,_,d,Z,Z⟩
    ·refine Ps [fH r.b] U12 fun Q S _ t=>D.call (oK _ _ r.f x.m_ om_) Z (.inr dc_) U6 (LR _) fl_ (fun M N O _ s=>?_);obtain ⟨T,U,cc,rfl,rfl⟩:=s;refine Pu (j:=0) U11 t.m_ (by simp [fH,nT,al]) (by simp only [aE,maxLen];omega) (by simp only [aE];omega) fl_ fun g V k=>C4 1 [0,8,9,10,20,21,22] c Z<|G.freezeArr 0 ((r.f++[r.b]).map fH) rfl (by simp) (by intro r e;obtain ⟨y,_,rfl⟩:=L4.1 e;rfl) (by simp) (fun W X d=>?_);obtain ⟨Y,cz,u,_⟩:=id d;cases u
     simp only [ax] at d ⊢;exact G.dropAll<|Pj 0 mup (hn_ [0,8,9,10,20,21,22] Z) ⟨_,_,d,Z,Z⟩
  obtain ⟨g,k,ah,rfl,rfl⟩:=p;refine G.loop (fun fr C' n o=>∃ (j:Nat),(j<=(r.f++[r.b]).length)/\fr=[(0,[],.slice l a.length c0),(8,[],.slice l a.length c0),(9,[],.int .i64 a.length),(10,[],.int .i64 i),(20,[],.slice g (r.f++[r.b]).length k),(21,[],.int .i64 (r.f++[r.b]).length),(22,[],.int .i64 j)]/\n=[]/\o=(r.f++[r.b]).length-j) (hn_ [0,8,9,10,20,21,22] Z) ⟨0,LV _,Z,Z,Z⟩ (fun fr aA aB m _ p=>?_);obtain ⟨j,hj,rfl,rfl,rfl⟩:=p;refine C6 1 [0,8,9,10,20,21,22,23] Z<|O9 (fun aa=>?_) fun aa=>?_
  ·have ai:j<(r.f++[r.b]).length:=by
    have:=K5 aa;omega
   obtain ⟨q,hq⟩:∃ q,(r.f++[r.b])[j]?=some q:=⟨(r.f++[r.b])[j],aj ai⟩;have ab:QB 22 q:=by
    rcases Mh.1 (LQ hq) with h | h
    ·exact ae q h
    ·rw [Mn.1 h];exact af
   refine Pb fun R c=>Pm ah.m_ U10 om_ (ce hq) fl_ fun aC ak=>O8 ak U8<|C4 1 [0,7,8,9,10,20,21,22] c Z<|O7 1 Z fun R c=>Pn (dq _ hT.m_ _ (rF ab)) U7<|C4 1 [0,8,9,10,20,21,22,28] c Z<|O9 (fun F=>?_) fun F=>?_
   ·exfalso;rw [uM ab] at F;exact absurd F dc_
   ·refine Pb fun R c=>Pi _ U7<|C4 1 [0,8,9,10,20,21,22] c Z<|Pk (m':=(r.f++[r.b]).length-(j+1)) om_ mup (hn_ [0,8,9,10,20,21,22] Z) ⟨j+1,om_,Z,Z,Z⟩
  ·refine Pb fun R c=>Pi _ U7<|C4 1 [0,8,9,10] c Z<|Pk (m':=a.length-(i+1)) om_ mup (hn_ [0,8,9,10] Z) ⟨i+1,om_,Z,Z,Z⟩
 ·refine C6 3 [2,3] Z<|Pl (G.dropAll (PE U3 ?_));exact ⟨Z,Z⟩
def iM (s p k:Nat)(fm:List (Nat × Rat))(b sg:Rat):RowQ:=⟨Fu s p k fm sg,sg*b⟩
theorem iC (C:Mem)(O:Tabs C)(s p d b h y:Nat)(c:List (Nat × Rat))(e:Rat)(a:List Rat)(I w:Value)(o:List Value)(f:List RowQ)(ah:s*p<=60)(Q:d<s)(S:C y=some (.cells ⟨[.int .i64 (s:Nat),.int .i64 (p:Nat)]⟩ 142 (0,0)))(T:C b=some (aM keyZ.enc (dN c)))(U:(c.map (·.1)).Nodup)(V:∀ x∈c,x.1<p)(W:∀ x∈c,QB 23 x.2)(X:QB 23 e)
  (z:Sl C 1 I (a.map fH)) (Y:∀ q∈a,QB 1 q) (ai:a.length<=2) (aa:RowsOk C o f) (ak:f.length<=10000) :
  Jog.Fn cx.P 195 [.int .i64 d,.map (some b),al (qtx e),I,.pointer (some ⟨h,0,none⟩),.pointer (some ⟨y,0,none⟩)] C [.obj h (.cells ⟨[w]⟩ 78 (0,0)),.arr w 123 2 f.length (aN o f).flatten]
   fun u C' l=>∃ J w',u=.tuple #[]/\l=[.obj h (.cells ⟨[w']⟩ 78 (0,0)),.arr w' 123 2 (f++a.map (iM s p d c e)).length (aN J (f++a.map (iM s p d c e))).flatten]/\RowsOk C' J (f++a.map (iM s p d c e)):=by
 obtain ⟨A0,c0,rfl,ab,am,_⟩:=id z;have an:maxLen<=9223372036854775807:=by simp [maxLen]
 simp only [ax] at z ab ⊢;refine Ph func195 28 U3 fun w0=>C6 3 [0,1,2,4,5,12,13,14] Z<|Po (L':=[.obj h (.cells ⟨[w]⟩ 78 (0,0)),.arr w 123 2 (f++(a.take 0).map (iM s p d c e)).length (aN o (f++(a.take 0).map (iM s p d c e))).flatten]) (by simp)<|G.loop (fun fr C' l μ=>∃ (i:Nat)(k:List Value)(t:Value),(i<=a.length/\RowsOk C' k (f++(a.take i).map (iM s p d c e)))/\fr=[(0,[],.int .i64 d),(1,[],.map (some b)),(2,[],al (qtx e)),(4,[],.pointer (some ⟨h,0,none⟩)),(5,[],.pointer (some ⟨y,0,none⟩)),(12,[],.slice A0 a.length c0),(13,[],.int .i64 a.length),(14,[],.int .i64 i)]/\l=[.obj h (.cells ⟨[t]⟩ 78 (0,0)),.arr t 123 2 (f++(a.take i).map (iM s p d c e)).length (aN k (f++(a.take i).map (iM s p d c e))).flatten]/\μ=a.length-i) (hn_ [0,1,2,4,5,12,13,14] Z) ⟨0,o,w,⟨LV _,by simpa using aa⟩,Z,Z,Z⟩ (fun fr ao ap m _ hI=>?_);obtain ⟨i,k,t,⟨hi,v⟩,rfl,rfl,rfl⟩:=hI;refine C6 1 [0,1,2,4,5,12,13,14,15] Z<|O9 (fun A=>?_) fun A=>?_
 ·have B:i<a.length:=by simpa using A
  obtain ⟨g,D⟩:∃ g,a[i]?=some g:=⟨a[i],aj B⟩;have ac:=Y g (LQ D);have aq:(f++(a.take i).map (iM s p d c e)).length<=10002:=by
   rw [LZ,ax,Mv];omega
  have K:f++(a.take (i+1)).map (iM s p d c e)=f++(a.take i).map (iM s p d c e)++[iM s p d c e g]:=by
   rw [Mx,D];simp
  refine Pb fun R n=>Pm z.m_ U10 om_ (ce D) fl_ fun ar ad=>O8 ad U8<|C4 1 [0,1,2,4,5,11,12,13,14] n Z<|Pv [0,1,2,3,4,5,6,7,8,9] [] Z kr_ fun R hB n=>Pe (.head _) U9<|O8 (bkT S 2) U8<|Pc 4 Z<|PI (J3 _ O.m_ s p d b c g e 23 dc_ dc_ om_ Q (Mem.get T mup) U V W (ac.le dc_) X) U7 fl_ (fun au _ _ ae=>?_);obtain ⟨fv,rfl,E⟩:=ae;obtain ⟨F,H,rfl,_⟩:=id E;simp only [ax] at E ⊢;refine Ps [[.slice F (Fu s p d c g).length H,al (qtx (g*e))]] U12 fun av _ _ af=>Pu (j:=1) U11 af.m_ Z (by simp only [aE,maxLen];omega) (by simp only [aE];omega) fl_ fun L M N=>Pg (j:=1) U12<|Pd [0,1,2,4,5,12,13,14] n Z<|Pb fun R n=>Pi _ U7<|C4 1 [0,1,2,4,5,12,13,14] n Z ?_;have ag:=RowsOk.snoc (r:=iM s p d c e g) v.m_ E;refine Po (L':=[.obj h (.cells ⟨[.slice L M N]⟩ 78 (0,0)),.arr (.slice L M N) 123 2 (f++(a.take (i+1)).map (iM s p d c e)).length (aN (k++[.slice F (Fu s p d c g).length H]) (f++(a.take (i+1)).map (iM s p d c e))).flatten]) (by rw [K,eL v.1];simp [iM,aA];omega)<|Pk (m':=a.length-(i+1)) om_ mup (hn_ [0,1,2,4,5,12,13,14] Z) ⟨i+1,k++[.slice F (Fu s p d c g).length H],_,⟨by omega,by rw [K];exact ag.mono mup⟩,Z,Z,Z⟩
 ·have B:i=a.length:=by
   have:¬ i<a.length:=by simpa using A
   omega
  rw [B,Mb] at v ⊢;exact P9 Z<|⟨k,t,Z,Z,v.mono mup⟩
noncomputable def Ai (o:Obs):Rat:=-dh o.nx / dh o.nz
noncomputable def pV (o:Obs):Rat:=-dh o.ny / dh o.nz
def upN (B:Bk)(o:Obs):Nat:=(ju (isU o.upper) B.col 0).toNat
noncomputable def rowsO (B:Bk)(o:Obs)(p:Pt)(t:Tri)(z:Rat):List RowQ :=
 if o.kind=1 then (if 0<upN B o then [iM (bs B) (bp B) (upN B o-1) (atT t (wgt B.pts t p)) (kO o z) 1] else [])++(if upN B o<bs B then [iM (bs B) (bp B) (upN B o) (atT t (wgt B.pts t p)) (kO o z) (-1)] else [])
 else if o.kind=2 then (cD B.col o).flatMap fun k=>[1, -1].map (iM (bs B) (bp B) k (atT t (wgt B.pts t p)) (kO o z))
 else (cD B.col o).flatMap fun k=>[1, -1].map (iM (bs B) (bp B) k (atT t fun j=>(slf B.pts t j).1) (Ai o))++[1, -1].map (iM (bs B) (bp B) k (atT t fun j=>(slf B.pts t j).2) (pV o))
structure Fine (B:Bk)(fs:List Rat)(o:Obs)(p:Pt)(ti:Nat)(t:Tri)(z:Rat):Prop where
 place:ObsAt o p
 loc:∃ r,rY B.pts B.tris p=ti::r
 tri:B.tris[ti]?=some t
 val:Bo B.pts B.tris fs p=.tuple #[al (qtx z),.int .i64 0]
 qz:QB 22 z
 qh:QB 22 (kO o z)
 w:∀ j,QB 22 (wgt B.pts t p j)
 up:0<=ju (isU o.upper) B.col 0
 sl:∀ j,QP 22 (slf B.pts t j)
 nr:o.kind≠1->o.kind≠2->(bd o.nx=true/\bd o.ny=true/\bd o.nz=true)/\QB 11 (dh o.nx)/\QB 11 (dh o.ny)/\QB 11 (dh o.nz)/\dh o.nz≠0
 rows:∀ r∈rowsO B o p t z,JE r
theorem JY (h:Sl C 1 v [[al [49]]]):Sl C 1 v (([1]:List Rat).map fH):=by rw [<- dp] at h;exact h
theorem JZ (h:Sl C 1 v [[al [45,49]]]):Sl C 1 v (([-1]:List Rat).map fH):=by rw [<- cJ] at h;exact h
theorem BO (h:Sl C 1 v [[al [49]],[al [45,49]]]):Sl C 1 v (([1, -1]:List Rat).map fH):=by rw [<- cJ,<- dp] at h;exact h
theorem JR:∀ q∈([1]:List Rat),QB 1 q:=by simp;exact QB_one
theorem JS:∀ q∈([-1]:List Rat),QB 1 q:=by simp;exact pX
theorem BH:∀ q∈([1, -1]:List Rat),QB 1 q:=by
 intro q a;simp only [Ma,M3,Ol] at a;rcases a with rfl | rfl
 ·exact QB_one
 ·exact pX
theorem lu {f:Nat->Rat}{P:Nat × Rat->Prop}(b:P (t.1,f 0))(c:P (t.2.1,f 1))(d:P (t.2.2,f 2)):∀ x∈atT t f,P x:=by
 intro x a;simp only [atT,Ma,M3,Ol] at a;rcases a with rfl | rfl | rfl <;> assumption
theorem E1 {a b:Int}{n k:Nat}(h:k∈vw a b n):k<n:=by
 unfold vw at h;rw [NP,Me] at h;exact h.1
theorem iz {a b:Type}(f:a->List b){l:List a}{j:Nat}{x:a}(h:l[j]?=some x):(l.take (j+1)).flatMap f=(l.take j).flatMap f++f x:=by
 rw [Mx,h,List.flatMap_append];simp
theorem fc {a b:Type}{f:a->List b}{c:Nat}(h:∀ x,(f x).length=c):∀ l:List a,(l.flatMap f).length=c*l.length
 | []=>by simp
 | x::l=>by rw [List.flatMap_cons,LZ,h,fc h l,Ml,Nat.mul_succ,Oe]
theorem xB :∀ r∈rowsO B o p t z,r.f.length=bs B*bp B:=by
 have a:∀ k e b c,(iM (bs B) (bp B) k e b c).f.length=bs B*bp B:=fun k e b c=>iN _ _;intro r hr;unfold rowsO at hr;split at hr
 ·rcases Mh.1 hr with h | h
  ·split at h
   ·rw [Mn.1 h];exact a _ _ _ _
   ·cases h
  ·split at h
   ·rw [Mn.1 h];exact a _ _ _ _
   ·cases h
 ·split at hr
  ·obtain ⟨k,_,d⟩:=List.mem_flatMap.1 hr;obtain ⟨c,_,rfl⟩:=L4.1 d;exact a _ _ _ _
  ·obtain ⟨k,_,d⟩:=List.mem_flatMap.1 hr;rcases Mh.1 d with h | h
   ·obtain ⟨c,_,rfl⟩:=L4.1 h;exact a _ _ _ _
   ·obtain ⟨c,_,rfl⟩:=L4.1 h;exact a _ _ _ _
theorem tP (h:(cD B.col o).length<=60):(rowsO B o p t z).length<=240:=by
 unfold rowsO;split
 ·rw [LZ];have h1:∀ (c:Prop)[Decidable c] (r:RowQ),(if c then [r] else []).length<=1:=fun c _ r=>by split <;> simp
  have:=h1 (0<upN B o) (iM (bs B) (bp B) (upN B o-1) (atT t (wgt B.pts t p)) (kO o z) 1);have:=h1 (upN B o<bs B) (iM (bs B) (bp B) (upN B o) (atT t (wgt B.pts t p)) (kO o z) (-1));omega
 ·split
  ·rw [fc (c:=2) (fun k=>by simp)];omega
  ·rw [fc (c:=4) (fun k=>by simp)];omega
theorem Ic (C:Mem)(d:Tabs C)(bv:Value)(B:Bk)(fs:List Rat)(i:Nat)(o:Obs)(p:Pt)(ti:Nat)(t:Tri)(z:Rat)(L:BookIn C bv B)(Q:Good B.pts B.tris)(ai:BookR B)(aJ:gN B=0)(hF:Terr B fs)(U:B.obs[i]?=some o)(b:Fine B fs o p ti t z)(S:bs B*bp B<=60)(a2:sH B.col=0)(bQ:bs B+1=B.col.length)(bR:B.col.length<=60) :
  Pur cx.P 128 [fN (bs B) (bp B),bv,.int .i64 i] C fun u D=>∃ v,u=.tuple #[v,.int .i64 0]/\RowsIn D v (rowsO B o p t z):=by
 have ak:=L;have hM:=Q.ok;obtain ⟨r,a3⟩:=b.loc;have aK:=LQ b.tri;have l:=hM.ins t aK;have am:=rr hM aK;have bS:=(aX.1 U).1;have V:=b.place;obtain ⟨u,W⟩:∃ u:Nat,ju (isU o.upper) B.col 0=(u:Nat):=⟨_,(Int.toNat_of_nonneg b.up).symm⟩;have a4:upN B o=u:=by unfold upN;rw [W];rfl
 have bT:u<B.col.length:=by
  rcases lf (isU o.upper) B.col with ⟨h,_⟩ | ⟨k,x,h,h2,_⟩
  ·rw [W] at h;omega
  ·have:=(aX.1 h2).1;rw [W] at h;omega
 have an:=oO (wgt B.pts t p) am;have ao:∀ x∈atT t (wgt B.pts t p),x.1<bp B:=lu (P:=fun x=>x.1<bp B) l.1 l.2.1 l.2.2;have ap:∀ x∈atT t (wgt B.pts t p),QB 23 x.2:=lu (P:=fun x=>QB 23 x.2) ((b.w 0).le dc_) ((b.w 1).le dc_) ((b.w 2).le dc_);have aq:QB 23 (kO o z):=b.qh.le dc_;have a5:(cD B.col o).length<=bs B:=by
  unfold cD vw;refine Md (No _ _) ?_;rw [MJ];unfold bs;omega
 have aL:∀ k∈cD B.col o,k<bs B:=fun k hk=>E1 hk;obtain ⟨v1,v2,tv,cv,ov,rfl,h1,h2,h3,h4,h5⟩:=id L.ex;have aM:MeshIn C (.agg ⟨[v1,v2]⟩) B.pts B.tris:=⟨v1,v2,rfl,h1,h2⟩;obtain ⟨A5,c5,rfl,a6,bU,_⟩:=id h5;have bV:maxLen<=9223372036854775807:=by simp [maxLen]
 simp only [ax] at h5 a6 ak ⊢;refine Ph func128 172 U3 fun w0=>?_;refine Pb fun R a=>?_;refine Pr U6 (fun n=>?_);refine Pr U6 (fun b4=>?_);refine C4 2 [2,3,4] a Z ?_;clear a R;refine G.freeze 1 Z (fun _ _ M=>?_);refine G.freeze 0 Z (fun _ _ N=>?_);refine O7 1 Z fun R a=>?_;refine O8 (bkT N 1) U8 ?_;refine Pa U6 ?_;refine Pm h5.m_ U10 om_ (ce U) fl_ (fun bW a7=>?_);refine O8 a7 U8 ?_;refine Pq U5 (fun b8=>?_);refine Pg (j:=0) U12 ?_;refine Pd [2,3,4,8] a Z ?_;clear a R;refine G.freeze 0 Z (fun C8 _ E=>?_);refine O7 1 Z fun R a=>?_;refine O8 (bkT N 2) U8 ?_;refine Pa U6 ?_;refine O8 (bkT E 2) U8 ?_;refine PI (by have h:=AC C8 d.m_ _ B.pts B.tris p ti r t aM.m_ Q V.q V.r a3 b.tri b.w;rw [<- ug V] at h;exact h) U7 fl_ (fun bX _ _ a8=>?_);obtain ⟨T,rfl,ar⟩:=a8;refine C4 7 [2,3,4,8,9,10,11] a Z ?_;clear a R;refine C6 2 [2,3,4,8,9,10,11,45] Z ?_;refine O9 (fun aO=>?_) fun aO=>?_
 ·exact absurd aO dc_
 ·refine Pb fun R a=>?_;refine O8 (bkT N 5) U8 ?_;refine Pa U6 ?_;refine Pn (zQ _ d.m_ _ B fs i o p z ak.m_ Q ai aJ hF U V b.val b.qz b.qh) U7 ?_;refine C4 5 [2,3,4,8,9,10,11,12] a Z ?_;clear a R;refine C6 2 [2,3,4,8,9,10,11,12,54] Z ?_;refine O9 (fun aP=>?_) fun aP=>?_
  ·exact absurd aP dc_
  ·refine Pb fun R a=>?_;refine O8 (bkT N 5) U8 ?_;refine Pa U6 ?_;refine PK (tx _ d.m_ _ B i o ak.m_ Q ai aJ U) U7 (fun bY _ _ a9=>?_);obtain ⟨lv,rfl,au⟩:=a9;obtain ⟨Al,cl,aQ,_⟩:=id au;rw [ax] at aQ;subst aQ;refine C4 5 [3,4,8,9,10,11,12,13] a Z ?_;clear a R;refine C6 2 [3,4,8,9,10,11,12,13,63] Z ?_;refine O9 (fun aR=>?_) fun aR=>?_
   ·exact absurd aR dc_
   ·refine Pb fun R a=>?_;refine Pq U5 (fun c=>?_);refine Pd [3,4,8,9,10,12,13,14] a Z ?_;clear a R;refine G.nilArr 123 2 (G.perm (L':=[.obj c (.cells ⟨[.slice none 0 0]⟩ 78 (0,0)),.arr (.slice none 0 0) 123 2 0 []]) (List.Perm.swap _ _ _) ?_);refine C6 2 [3,4,8,9,10,12,13,14,15] Z ?_;refine O7 1 Z fun R a=>?_;refine O8 (bkT E 1) U8 ?_;refine Pd [3,4,8,9,10,12,13,14,15,67] a Z ?_;clear a R;refine C6 2 [3,4,8,9,10,12,13,14,15,67,120] Z ?_;refine G.cut (fun fr C' y F=>∃ (vs:List Value)(w:Value),(RowsOk C' vs (rowsO B o p t z))/\fr=[(14,[],.pointer (some ⟨c,0,none⟩))]/\y=[.obj c (.cells ⟨[w]⟩ 78 (0,0)),.arr w 123 2 (rowsO B o p t z).length (aN vs (rowsO B o p t z)).flatten]) ?_ (fun fr _ bZ F _ H=>?_)
    ·refine O9 (fun X=>?_) fun X=>?_
     ·have hk:o.kind=1:=oq X;obtain ⟨s,O⟩:∃ s,(if 0<u then [iM (bs B) (bp B) (u-1) (atT t (wgt B.pts t p)) (kO o z) 1] else [])=s:=⟨_,rfl⟩;have A:rowsO B o p t z=s++(if u<bs B then [iM (bs B) (bp B) u (atT t (wgt B.pts t p)) (kO o z) (-1)] else []):=by unfold rowsO;rw [aI hk,a4,O]
      refine O7 1 Z fun R a=>?_;refine O8 (bkT N 1) U8 ?_;refine Pa U6 ?_;refine O8 (bkT E 1) U8 ?_;refine Pn (wo _ d.m_ _ B.col o.upper h4.m_ ai.col a2 u W) U7 ?_;refine C4 7 [3,9,12,14,15,16,18] a Z ?_;clear a R;refine C6 2 [3,9,12,14,15,16,18,132] Z ?_;refine O9 (fun aS=>?_) fun aS=>?_
      ·exact absurd aS dc_
      ·refine C6 2 [3,9,12,14,15,16,135] Z ?_;refine G.cut (fun fr C' y F=>∃ (vs:List Value)(w:Value),(RowsOk C' vs s)/\fr=[(3,[],.pointer (some ⟨n,0,none⟩)),(9,[],.map (some T)),(12,[],al (qtx (kO o z))),(14,[],.pointer (some ⟨c,0,none⟩)),(15,[],.func (.func 195) #[] #[.pointer (some ⟨c,0,none⟩),.pointer (some ⟨n,0,none⟩)]),(16,[],.int .i64 u)]/\y=[.obj c (.cells ⟨[w]⟩ 78 (0,0)),.arr w 123 2 s.length (aN vs s).flatten]) ?_ (fun fr _ b0 F _ H=>?_)
       ·refine O9 (fun av=>?_) fun av=>?_
        ·have aw:0<u:=by
          have:=K5 av;omega
         rw [aI aw] at O;subst O;refine Px [(6,3)] Z (fun R a=>?_);refine Pc 2 Z ?_;refine PN (((u-1:Nat):Int)) U4 om_ om_ om_ U2 ?_;refine Pc 2 Z ?_;refine Ps [[al [49]]] U12 (fun b1 _ _ ba=>?_);refine D.call (iC _ d.m_ (bs B) (bp B) (u-1) T c n (atT t (wgt B.pts t p)) (kO o z) [1] _ (.slice none 0 0) [] [] S om_ (Mem.get M mup) (Mem.get ar mup) an ao ap aq ((JY ba).mono mup) JR dc_ (RowsOk.nil _) dc_) Z (.inr dc_) U6 (LR _) fl_ (fun b2 _ b5 _ bb=>?_);refine Pd [3,9,12,14,15,16] a Z ?_;clear a R;obtain ⟨bc,w1,rfl,rfl,bd⟩:=bb;refine Pj 0 mup (hn_ [3,9,12,14,15,16] Z) ⟨bc,w1,bd,Z,Z⟩
        ·have aw:¬ 0<u:=by
          have:=LS av;omega
         rw [aC aw] at O;subst O;refine Pj 0 (Mem.le.refl _) (hn_ [3,9,12,14,15,16] Z) ⟨[],.slice none 0 0,RowsOk.nil _,Z,Z⟩
       ·obtain ⟨vs ,w,ay,rfl,rfl⟩:=H;refine O7 2 Z fun R a=>?_;refine O8 (bkT M 1) U8 ?_;refine C4 1 [9,12,14,15,16,146] a Z ?_;clear a R;refine O9 (fun az=>?_) fun az=>?_
        ·have Y:u<bs B:=by
          have:=K5 az;omega
         rw [aI Y] at A;have b6:s.length<=1:=by rw [<- O];split <;> simp
         refine Px [(5,3)] Z (fun R a=>?_);refine Pc 4 Z ?_;refine Ps [[al [45,49]]] U12 (fun b7 _ _ bf=>?_);refine D.call (iC _ d.m_ (bs B) (bp B) u T c n (atT t (wgt B.pts t p)) (kO o z) [-1] _ w vs s S Y (Mem.get M mup) (Mem.get ar mup) an ao ap aq ((JZ bf).mono mup) JS dc_ ay.m_ om_) Z (.inr dc_) U6 (LR _) fl_ (fun b9 _ ca _ bg=>?_);refine Pd [14] a Z ?_;clear a R;obtain ⟨bh,w2,rfl,rfl,aT⟩:=bg;rw [show s++([-1]:List Rat).map (iM (bs B) (bp B) u (atT t (wgt B.pts t p)) (kO o z))=rowsO B o p t z from A.symm] at aT ⊢;refine Pj 0 mup (hn_ [14] Z) ⟨bh,w2,aT,Z,Z⟩
        ·have Y:¬ u<bs B:=by
          have:=LS az;omega
         rw [aC Y,Mi] at A;rw [<- A] at ay ⊢;refine Pj 0 mup (hn_ [14] Z) ⟨vs,w,ay.mono mup,Z,Z⟩
     ·have aA:¬ o.kind=1:=by
       intro e;rw [show ((o.kind == 1)=true) by rw [e];rfl] at X;cases X
      refine C6 2 [4,8,9,10,12,13,14,15,153] Z ?_;refine O9 (fun aa=>?_) fun aa=>?_
      ·have ab:o.kind=2:=oq aa;obtain ⟨f,aB⟩:∃ f,(fun k=>([1, -1]:List Rat).map (iM (bs B) (bp B) k (atT t (wgt B.pts t p)) (kO o z)))=f:=⟨_,rfl⟩;have A:rowsO B o p t z=(cD B.col o).flatMap f:=by unfold rowsO;rw [aC aA,aI ab,<- aB]
       have bi:∀ k,(f k).length=2:=fun k=>by rw [<- aB];rfl
       refine C6 3 [9,12,14,15,155,156,157] Z ?_;refine G.loop (fun fr C' y F=>∃ (j:Nat)(vs:List Value)(w:Value),(j<=(cD B.col o).length/\RowsOk C' vs (((cD B.col o).take j).flatMap f))/\fr=[(9,[],.map (some T)),(12,[],al (qtx (kO o z))),(14,[],.pointer (some ⟨c,0,none⟩)),(15,[],.func (.func 195) #[] #[.pointer (some ⟨c,0,none⟩),.pointer (some ⟨n,0,none⟩)]),(155,[],.slice Al (cD B.col o).length cl),(156,[],.int .i64 (cD B.col o).length),(157,[],.int .i64 j)]/\y=[.obj c (.cells ⟨[w]⟩ 78 (0,0)),.arr w 123 2 (((cD B.col o).take j).flatMap f).length (aN vs (((cD B.col o).take j).flatMap f)).flatten]/\F=(cD B.col o).length-j) (hn_ [9,12,14,15,155,156,157] Z) ⟨0,[],.slice none 0 0,⟨LV _,RowsOk.nil _⟩,Z,Z,Z⟩ (fun fr cb cc m _ H=>?_);obtain ⟨j,vs,w,⟨hj,I⟩,rfl,rfl,rfl⟩:=H;refine C6 1 [9,12,14,15,155,156,157,158] Z ?_;refine O9 (fun aD=>?_) fun aD=>?_
       ·have J:j<(cD B.col o).length:=by
         have:=K5 aD;omega
        obtain ⟨k,K⟩:∃ k,(cD B.col o)[j]?=some k:=⟨(cD B.col o)[j],aj J⟩;have ac:=aL k (LQ K);have ad:=fc bi ((cD B.col o).take j);rw [Mv] at ad;have aE:=iz f K;refine Pb fun R a=>?_;refine Pm au.m_ U10 om_ (ce K) fl_ (fun cd bj=>?_);refine O8 bj U8 ?_;refine C4 1 [9,12,14,15,20,155,156,157] a Z ?_;clear a R;refine Px [(5,3)] Z (fun R a=>?_);refine Pc 4 Z ?_;refine Ps [[al [49]],[al [45,49]]] U12 (fun cf _ _ bk=>?_);refine D.call (iC _ d.m_ (bs B) (bp B) k T c n (atT t (wgt B.pts t p)) (kO o z) [1, -1] _ w vs _ S ac (Mem.get M mup) (Mem.get ar mup) an ao ap aq ((BO bk).mono mup) BH dc_ I.m_ om_) Z (.inr dc_) U6 (LR _) fl_ (fun cg _ ch _ bl=>?_);refine Pd [9,12,14,15,155,156,157] a Z ?_;clear a R;refine Pb fun R a=>?_;refine Pi _ U7 ?_;refine C4 1 [9,12,14,15,155,156,157] a Z ?_;clear a R;obtain ⟨aF,w3,rfl,rfl,ae⟩:=bl;rw [show ((cD B.col o).take j).flatMap f++([1, -1]:List Rat).map (iM (bs B) (bp B) k (atT t (wgt B.pts t p)) (kO o z))=((cD B.col o).take (j+1)).flatMap f by rw [aE,<- aB]] at ae ⊢;refine Pk (m':=(cD B.col o).length-(j+1)) om_ mup (hn_ [9,12,14,15,155,156,157] Z) ⟨j+1,aF,w3,⟨by omega,ae⟩,Z,Z,Z⟩
       ·have J:j=(cD B.col o).length:=by
         have:=LS aD;omega
        rw [J,Mb,<- A] at I ⊢;refine Pj 0 mup (hn_ [14] Z) ⟨vs,w,I.mono mup,Z,Z⟩
      ·have ab:¬ o.kind=2:=by
        intro e;rw [show ((o.kind == 2)=true) by rw [e];rfl] at aa;cases aa
       obtain ⟨⟨bm,bo,bq⟩,aU,aV,af,ag⟩:=b.nr aA ab;obtain ⟨e1,q1⟩:=df bm;obtain ⟨e2,q2⟩:=df bo;obtain ⟨e3,q3⟩:=df bq;have aW:(qtx (dh o.nx)).length<=1000000:=Md (bE q1 dc_) dc_;have br:(qtx (dh o.ny)).length<=1000000:=Md (bE q2 dc_) dc_;have bt:QB 23 (Ai o):=(kI (fk aU) af ag).le dc_;have bu:QB 23 (pV o):=(kI (fk aV) af ag).le dc_;obtain ⟨g,aG⟩:∃ g,(fun k=>([1, -1]:List Rat).map (iM (bs B) (bp B) k (atT t fun j=>(slf B.pts t j).1) (Ai o))++([1, -1]:List Rat).map (iM (bs B) (bp B) k (atT t fun j=>(slf B.pts t j).2) (pV o)))=g:=⟨_,rfl⟩;have A:rowsO B o p t z=(cD B.col o).flatMap g:=by unfold rowsO;rw [aC aA,aC ab,<- aG]
       have bx:∀ k,(g k).length=4:=fun k=>by rw [<- aG];rfl
       have bz:=oO (fun j=>(slf B.pts t j).1) am;have bA:=oO (fun j=>(slf B.pts t j).2) am;have bB:∀ x∈atT t (fun j=>(slf B.pts t j).1),x.1<bp B:=lu (P:=fun x=>x.1<bp B) l.1 l.2.1 l.2.2;have bC:∀ x∈atT t (fun j=>(slf B.pts t j).2),x.1<bp B:=lu (P:=fun x=>x.1<bp B) l.1 l.2.1 l.2.2;have bD:∀ x∈atT t (fun j=>(slf B.pts t j).1),QB 23 x.2:=lu (P:=fun x=>QB 23 x.2) ((b.sl 0).1.le dc_) ((b.sl 1).1.le dc_) ((b.sl 2).1.le dc_);have bF:∀ x∈atT t (fun j=>(slf B.pts t j).2),QB 23 x.2:=lu (P:=fun x=>QB 23 x.2) ((b.sl 0).2.le dc_) ((b.sl 1).2.le dc_) ((b.sl 2).2.le dc_);refine O7 1 Z fun R a=>?_;refine O8 (bkT N 2) U8 ?_;refine Pa U6 ?_;refine PK (Am _ d.m_ _ B.pts B.tris ti t aM.m_ Q b.tri b.sl) U7 (fun ci ah _ bG=>?_);obtain ⟨be,bn,rfl,bH,bI⟩:=bG;refine C4 7 [8,13,14,15,21,22,23] a Z ?_;clear a R;refine C6 2 [8,13,14,15,21,22,23,77] Z ?_;refine O9 (fun aY=>?_) fun aY=>?_
       ·exact absurd aY dc_
       ·refine Pv [0,1,2,3,4,5,6,7,8,9,10,11,12] [(3,1),(7,1)] Z kr_ (fun R L a=>?_);refine Pc 2 Z ?_;refine O8 (bkT E 1) U8 ?_;refine Pw (fun _=>(by have h:=dT ah (dh o.nx) aW;rw [<- e1] at h;exact h)) U9 ?_;refine Pc 2 Z ?_;refine O8 (bkT E 1) U8 ?_;refine Pw (fun _=>(by have h:=gg ah d.m_ (-dh o.nx) (dh o.nz) 11 dc_ dc_ (fk aU) af ag;rw [<- e3] at h;exact h)) U9 ?_;refine Pc 5 Z ?_;refine Pd [8,13,14,15,21,22,24] a Z ?_;clear a L R;refine Pv [0,1,2,3,4,5,6,7,8,9,10,11,12] [(3,1),(7,1)] Z kr_ (fun R L a=>?_);refine Pc 2 Z ?_;refine O8 (bkT E 1) U8 ?_;refine Pw (fun _=>(by have h:=dT ah (dh o.ny) br;rw [<- e2] at h;exact h)) U9 ?_;refine Pc 2 Z ?_;refine O8 (bkT E 1) U8 ?_;refine Pw (fun _=>(by have h:=gg ah d.m_ (-dh o.ny) (dh o.nz) 11 dc_ dc_ (fk aV) af ag;rw [<- e3] at h;exact h)) U9 ?_;refine Pc 5 Z ?_;refine Pd [13,14,15,21,22,24,26] a Z ?_;clear a L R;refine C6 3 [14,15,21,22,24,26,101,102,103] Z ?_;refine G.loop (fun fr C' y F=>∃ (j:Nat)(vs:List Value)(w:Value),(j<=(cD B.col o).length/\RowsOk C' vs (((cD B.col o).take j).flatMap g))/\fr=[(14,[],.pointer (some ⟨c,0,none⟩)),(15,[],.func (.func 195) #[] #[.pointer (some ⟨c,0,none⟩),.pointer (some ⟨n,0,none⟩)]),(21,[],.map (some be)),(22,[],.map (some bn)),(24,[],al (qtx (Ai o))),(26,[],al (qtx (pV o))),(101,[],.slice Al (cD B.col o).length cl),(102,[],.int .i64 (cD B.col o).length),(103,[],.int .i64 j)]/\y=[.obj c (.cells ⟨[w]⟩ 78 (0,0)),.arr w 123 2 (((cD B.col o).take j).flatMap g).length (aN vs (((cD B.col o).take j).flatMap g)).flatten]/\F=(cD B.col o).length-j) (hn_ [14,15,21,22,24,26,101,102,103] Z) ⟨0,[],.slice none 0 0,⟨LV _,RowsOk.nil _⟩,Z,Z,Z⟩ (fun fr cj ck m aW H=>?_);obtain ⟨j,vs,w,⟨hj,I⟩,rfl,rfl,rfl⟩:=H;refine C6 1 [14,15,21,22,24,26,101,102,103,104] Z ?_;refine O9 (fun aH=>?_) fun aH=>?_
        ·have J:j<(cD B.col o).length:=by
          have:=K5 aH;omega
         obtain ⟨k,K⟩:∃ k,(cD B.col o)[j]?=some k:=⟨(cD B.col o)[j],aj J⟩;have ac:=aL k (LQ K);have ad:=fc bx ((cD B.col o).take j);rw [Mv] at ad;have aE:=iz g K;refine Pb fun R a=>?_;refine Pm au.m_ U10 om_ (ce K) fl_ (fun cm bJ=>?_);refine O8 bJ U8 ?_;refine C4 1 [14,15,21,22,24,26,29,101,102,103] a Z ?_;clear a R;refine Px [(5,3)] Z (fun R a=>?_);refine Pc 4 Z ?_;refine Ps [[al [49]],[al [45,49]]] U12 (fun cn _ _ bK=>?_);refine D.call (iC _ d.m_ (bs B) (bp B) k be c n (atT t fun j=>(slf B.pts t j).1) (Ai o) [1, -1] _ w vs _ S ac (Mem.get M mup) (Mem.get bH mup) bz bB bD bt ((BO bK).mono mup) BH dc_ I.m_ om_) Z (.inr dc_) U6 (LR _) fl_ (fun co _ cp _ bL=>?_);refine Pd [14,15,21,22,24,26,29,101,102,103] a Z ?_;clear a R;obtain ⟨aF,w3,rfl,rfl,ae⟩:=bL;refine Px [(5,3)] Z (fun R a=>?_);refine Pc 4 Z ?_;refine Ps [[al [49]],[al [45,49]]] U12 (fun cq _ _ bM=>?_);refine D.call (iC _ d.m_ (bs B) (bp B) k bn c n (atT t fun j=>(slf B.pts t j).2) (pV o) [1, -1] _ w3 aF _ S ac (Mem.get M mup) (Mem.get bI mup) bA bC bF bu ((BO bM).mono mup) BH dc_ ae.m_ (by rw [LZ,ad];simp;omega)) Z (.inr dc_) U6 (LR _) fl_ (fun cr _ cs _ bN=>?_);refine Pd [14,15,21,22,24,26,101,102,103] a Z ?_;clear a R;refine Pb fun R a=>?_;refine Pi _ U7 ?_;refine C4 1 [14,15,21,22,24,26,101,102,103] a Z ?_;clear a R;obtain ⟨bO,w4,rfl,rfl,aZ⟩:=bN;rw [show ((cD B.col o).take j).flatMap g++([1, -1]:List Rat).map (iM (bs B) (bp B) k (atT t fun j=>(slf B.pts t j).1) (Ai o))++([1, -1]:List Rat).map (iM (bs B) (bp B) k (atT t fun j=>(slf B.pts t j).2) (pV o))=((cD B.col o).take (j+1)).flatMap g by rw [aE,<- aG,Mo]] at aZ ⊢;refine Pk (m':=(cD B.col o).length-(j+1)) om_ mup (hn_ [14,15,21,22,24,26,101,102,103] Z) ⟨j+1,bO,w4,⟨by omega,aZ⟩,Z,Z,Z⟩
        ·have J:j=(cD B.col o).length:=by
          have:=LS aH;omega
         rw [J,Mb,<- A] at I ⊢;refine Pj 0 mup (hn_ [14] Z) ⟨vs,w,I.mono mup,Z,Z⟩
    ·obtain ⟨vs ,w,a0,rfl,rfl⟩:=H;refine G.freezeArr 1 (aN vs (rowsO B o p t z)) Z Z (ik _ _) (dF a0.1) (fun Cr ct bP=>?_);have a1:RowsIn Cr w (rowsO B o p t z):=⟨vs,a0.mono mup,bP⟩;refine Pb fun R a=>?_;refine Pe (.head _) U9 ?_;refine Pp (AE _ d.m_ w (rowsO B o p t z) a1.m_ b.rows (fun r hr=>by rw [xB r hr];omega) (Md (tP (by unfold bs at a5;omega)) dc_)) U7 fl_ ?_;refine C4 4 [6,7] a Z ?_;clear a R;refine Pl (G.dropAll (PE U3 ?_));exact ⟨Z,w,Z,a1.mono mup⟩
end Go.Proofs.YthnpijdjlddpmaaGreatDoor
namespace Go.Proofs.YthnpijdjlddpmaaGreatDoor
open Tryz
open Go Go.Jog
set_option maxRecDepth 100000
variable {B:Bk}{C:Mem}{RO:Nat->List RowQ}{err:Nat->Int}{fs:List Rat}{i:Nat}{n:Int}{vs:List Value}
structure Rich (B:Bk)(fs:List Rat)(RO:Nat->List RowQ):Prop where
 good:Good B.pts B.tris
 br:BookR B
 bz:gN B=0
 terr:Terr B fs
 h60:bs B*bp B<=60
 fine:∀ i o,B.obs[i]?=some o->∃ p ti t z,Fine B fs o p ti t z/\RO i=rowsO B o p t z
theorem kF (h:gN B=0):sH B.col=0:=by
 unfold gN at h;split at h
 ·rename_i h1;exact absurd h h1
 ·split at h
  ·rename_i h1;exact absurd h h1
  ·rename_i h1;exact Mu h1
theorem sG {l:List Lay}(h:sH l=0):l≠[]/\l.length<=60:=by
 unfold sH at h;split at h
 ·exact absurd h dc_
 ·rename_i h0;split at h
  ·exact absurd h dc_
  ·exact ⟨h0,by omega⟩
theorem Rich.bookz {a:Value}(h:Rich B fs RO)(d:Tabs C)(b:BookIn C a B):BookZ C a B 0 :=
 ⟨b,fun D c=>by have h2:=oL D (d.mono c) a B (b.mono c) h.good h.br;rwa [h.bz] at h2,fun _=>(sG (kF h.bz)).1,Md (sG (kF h.bz)).2 dc_,h.good.ok.lp⟩
theorem Rich.scol (h:Rich B fs RO):bs B+1=B.col.length/\B.col.length<=60:=by
 obtain ⟨h1,h2⟩:=sG (kF h.bz);have:=MD.2 h1;unfold bs;omega
theorem Lc (C:Mem)(f:Tabs C)(b:Value)(B:Bk)(c:List Rat)(d:Nat->List RowQ)(i:Nat)(g:BookIn C b B)(a:Rich B c d)(j:i<B.obs.length) :
  Pur cx.P 128 [fN (bs B) (bp B),b,.int .i64 i] C fun u D=>∃ v,u=.tuple #[v,.int .i64 0]/\RowsIn D v (d i):=by
 have e:B.obs[i]?=some B.obs[i]:=aj j;obtain ⟨p,k,t,z,l,m⟩:=a.fine i _ e;have h:=Ic C f b B c i _ p k t z g a.good a.br a.bz a.terr e l a.h60 (kF a.bz) a.scol.1 a.scol.2
 rwa [<- m] at h
theorem nB (a:Rich B fs RO)(b:i<B.obs.length):(RO i).length<=240/\∀ r∈RO i,r.f.length=bs B*bp B:=by
 have c:B.obs[i]?=some B.obs[i]:=aj b;obtain ⟨p,g,t,z,h,d⟩:=a.fine i _ c;have e:(cD B.col B.obs[i]).length<=60:=by
  unfold cD vw;refine Md (No _ _) ?_;rw [MJ];have:=a.scol.2;omega
 rw [d];exact ⟨tP e,xB⟩
def bu (B:Bk):List RowQ:=ba (bs B) (bp B) B.col (B.col.length-2)
theorem yX (a:Rich B fs RO):(bu B).length<=120:=by
 have h:=kS (bs B) (bp B) B.col (B.col.length-2);have h1:=a.scol.1;have h2:(B.col.length-2)*bp B<=bs B*bp B:=MG _ om_;have h3:=a.h60;unfold bu;omega
structure SrcQ where
 n:Int
 r:RowQ
def bV (vs:List Value)(l:List SrcQ):List (List Value):=List.zipWith (fun w (s:SrcQ)=>[.int .i64 s.n,w,al (qtx s.r.b)]) vs l
def SrcsOk (C:Mem)(vs:List Value)(l:List SrcQ):Prop:=RowsOk C vs (l.map SrcQ.r)
def yJ (C:Mem)(v:Value)(l:List SrcQ):Prop:=∃ vs,SrcsOk C vs l/\Sl C 3 v (bV vs l)
theorem SrcsOk.mono {C D:Mem}{a:List Value}{l:List SrcQ}(h:SrcsOk C a l)(b:C.le D):SrcsOk D a l:=RowsOk.mono h b
theorem SrcsOk.m_ {D:Mem}{l:List SrcQ}(h:SrcsOk C vs l)(a:C.le D:=by exact mup):SrcsOk D vs l:=SrcsOk.mono h a
theorem SrcsOk.snoc {C:Mem}{a:List Value}{l:List SrcQ}{v:Value}{s:SrcQ}(h:SrcsOk C a l)(b:Sl C 1 v (s.r.f.map fH)):SrcsOk C (a++[v]) (l++[s]):=by
 unfold SrcsOk at h ⊢;rw [My];exact RowsOk.snoc h b
theorem jV {l:List SrcQ}(h:SrcsOk C vs l):vs.length=l.length:=by have:=h.1;simpa using this
theorem jW {l:List SrcQ}(h:vs.length=l.length)(v:Value)(s:SrcQ):bV (vs++[v]) (l++[s])=bV vs l++[[.int .i64 s.n,v,al (qtx s.r.b)]]:=by
 unfold bV;rw [List.zipWith_append h];rfl
theorem lF {l:List SrcQ}(h:vs.length=l.length):(bV vs l).length=l.length:=by simp [bV,h]
theorem oY (b:List Value)(l:List SrcQ):∀ r∈bV b l,r.length=3:=by
 intro r hr;unfold bV at hr;obtain ⟨i,a⟩:=M2 hr;rw [List.getElem?_zipWith] at a;cases h1:b[i]? <;> cases h2:l[i]? <;> rw [h1,h2] at a <;> simp at a
 subst a;rfl
def jy (n:Int)(l:List RowQ):List SrcQ:=l.map fun r=>⟨n,r⟩
def bM (T:List RowQ)(RO:Nat->List RowQ)(l:List Nat):List SrcQ:=jy (-1) T++l.flatMap fun i=>jy (i:Nat) (RO i)
theorem jU {l:List RowQ}{r:RowQ}(h:l[i]?=some r):jy n (l.take (i+1))=jy n (l.take i)++[⟨n,r⟩]:=by
 unfold jy;rw [Mx,h,My];rfl
theorem uK {T:List RowQ}:∀ {l:List Nat},(∀ i∈l,(RO i).length<=240)->l.length<=100->T.length<=120->(bM T RO l).length<=120+240*l.length:=by
 intro l h e hT;unfold bM;rw [LZ];have b:∀ l:List Nat,(∀ i∈l,(RO i).length<=240)->(l.flatMap fun i=>jy (i:Nat) (RO i)).length<=240*l.length:=by
  intro l;induction l with
  | nil=>intro _;simp
  | cons a l c =>
   intro h;have h1:=h a aF;have h2:=c fun i d=>h i (LW _ d);rw [List.flatMap_cons,LZ,Ml];have:(jy (a:Nat) (RO a)).length=(RO a).length:=by simp [jy]
   omega
 have h1:=b l h;have:(jy (-1) T).length=T.length:=by simp [jy]
 omega
theorem Ef (C:Mem)(hT:Tabs C)(bv lv:Value)(B:Bk)(fs:List Rat)(c:Nat->List RowQ)(l:List Nat)(hB:BookIn C bv B)(o:Rich B fs c)(L:Sl C 1 lv (l.map aU))(ac:∀ i∈l,i<B.obs.length)(aM:l.length<=100)(aN:(bM (bu B) c l).length<=300) :
  Pur cx.P 85 [fN (bs B) (bp B),bv,lv] C fun u D=>∃ v,u=.tuple #[v,.int .i64 0]/\yJ D v (bM (bu B) c l):=by
 have ar:=hB;have au:=yX o;obtain ⟨v1,v2,tv,cv,ov,rfl,h1,h2,h3,h4,h5⟩:=id hB.ex;obtain ⟨M,N,rfl,av,aO,_⟩:=id L;have aP:maxLen<=9223372036854775807:=by simp [maxLen]
 simp only [ax] at L av ⊢;have aw:=fun m:List Nat=>fun hm:∀ i∈m,i<B.obs.length=>fun ay:m.length<=100=>uK (T:=bu B) (RO:=c) (l:=m) (fun i E=>(nB o (hm i E)).1) ay au;refine Ph func85 66 U3 fun w0=>Pb fun R d=>Pr U6 fun O=>Pr U6 fun Q=>C4 2 [2,3,4] d Z<|G.freeze 1 Z fun _ _ ad=>G.freeze 0 Z fun _ _ ae=>C6 1 [2,3,4,8] Z<|Pb fun R d=>O8 (bkT ad 2) U8<|Pa U6<|O8 (bkT ae 1) U8<|PK (tt _ hT.m_ _ (bs B) (bp B) B.col h4.m_ o.scol.1 o.h60 o.br.col) U7 (fun aQ _ _ az=>?_);obtain ⟨af,S,F⟩:=az;rw [show ba (bs B) (bp B) B.col (B.col.length-2)=bu B from rfl] at S F;have ag:=S.1;obtain ⟨At,ct,rfl,aA,aR,_⟩:=id F;simp only [dF ag] at F aA ⊢;refine C4 2 [2,3,4,8,20,21,22] d Z<|G.nilArr 125 3<|G.loop (fun fr C' e x=>∃ (i:Nat)(vs:List Value)(w:Value),(i<=(bu B).length/\SrcsOk C' vs (jy (-1) ((bu B).take i)))/\fr=[(2,[],.slice M l.length N),(3,[],.pointer (some ⟨O,0,none⟩)),(4,[],.pointer (some ⟨Q,0,none⟩)),(8,[],w),(20,[],.slice At (bu B).length ct),(21,[],.int .i64 (bu B).length),(22,[],.int .i64 i)]/\e=[.arr w 125 3 (jy (-1) ((bu B).take i)).length (bV vs (jy (-1) ((bu B).take i))).flatten]/\x=(bu B).length-i) (hn_ [2,3,4,8,20,21,22] Z) ⟨0,[],_,⟨LV _,RowsOk.nil _⟩,Z,Z,Z⟩ (fun fr aS aT m _ y=>?_);obtain ⟨i,vs,w,⟨E,H⟩,rfl,rfl,rfl⟩:=y;refine C6 1 [2,3,4,8,20,21,22,23] Z<|O9 (fun U=>?_) fun U=>?_
 ·have I:i<(bu B).length:=by
   have:=K5 U;omega
  obtain ⟨r,g⟩:∃ r,(bu B)[i]?=some r:=⟨(bu B)[i],aj I⟩;obtain ⟨p,q⟩:∃ p,af[i]?=some p:=⟨af[i]'(by rw [ag];exact I),aj _⟩;have t:=S.2 i p r q g;obtain ⟨h,n,rfl,_⟩:=id t;simp only [ax] at t q;have aB:(jy (-1) ((bu B).take i)).length=i:=by simp [jy];omega
  refine Pb fun R d=>Pm F.m_ U10 om_ (jB q g) fl_ fun aV aC=>O8 aC U8<|Pq U5 fun aW=>Pg (j:=0) U12<|Pd [2,3,4,8,10,20,21,22] d Z<|O7 1 Z fun R d=>Pe (.head _) U9<|PB [.int .i64 (-1),.slice h r.f.length n,al (qtx r.b)] U8<|Ps [[.int .i64 (-1),.slice h r.f.length n,al (qtx r.b)]] U12 fun aX _ _ aD=>D.append (j:=1) U11 aD Z (by simp only [aE,maxLen];omega) (by simp only [aE];omega) fl_ fun ah=>C4 1 [2,3,4,8,20,21,22] d Z<|Pb fun R d=>Pi _ U7<|C4 1 [2,3,4,8,20,21,22] d Z ?_;have z:=SrcsOk.snoc (s:=⟨-1,r⟩) H.m_ t.m_;rw [<- jU g] at z;refine PQ 1 Z<|Po (L':=[.arr ah 125 3 (jy (-1) ((bu B).take (i+1))).length (bV (vs++[.slice h r.f.length n]) (jy (-1) ((bu B).take (i+1)))).flatten]) (by rw [jU g,jW (jV H)];simp)<|Pk (m':=(bu B).length-(i+1)) om_ mup (hn_ [2,3,4,8,20,21,22] Z) ⟨i+1,vs++[.slice h r.f.length n],ah,⟨by omega,z.mono mup⟩,Z,Z,Z⟩
 ·have I:i=(bu B).length:=by
   have:=LS U;omega
  rw [I,Mb] at H ⊢;refine C6 3 [3,4,8,32,33,34] Z<|Po (L':=[.arr w 125 3 (bM (bu B) c (l.take 0)).length (bV vs (bM (bu B) c (l.take 0))).flatten]) (by simp [bM])<|G.loop (fun fr C' e x=>∃ (j:Nat)(vs:List Value)(w:Value),(j<=l.length/\SrcsOk C' vs (bM (bu B) c (l.take j)))/\fr=[(3,[],.pointer (some ⟨O,0,none⟩)),(4,[],.pointer (some ⟨Q,0,none⟩)),(8,[],w),(32,[],.slice M l.length N),(33,[],.int .i64 l.length),(34,[],.int .i64 j)]/\e=[.arr w 125 3 (bM (bu B) c (l.take j)).length (bV vs (bM (bu B) c (l.take j))).flatten]/\x=l.length-j) (hn_ [3,4,8,32,33,34] Z) ⟨0,vs,w,⟨LV _,by simpa [bM] using H⟩,Z,Z,Z⟩ (fun fr aY aZ m _ y=>?_);obtain ⟨j,vs,w,⟨hj,A⟩,rfl,rfl,rfl⟩:=y;refine C6 1 [3,4,8,32,33,34,35] Z<|O9 (fun V=>?_) fun V=>?_
  ·have W:j<l.length:=by
    have:=K5 V;omega
   obtain ⟨a,X⟩:∃ a,l[j]?=some a:=⟨l[j],aj W⟩;have ai:=ac a (LQ X);have aF:=aw (l.take j) (fun i E=>ac i (Nj E)) (by rw [Mv];omega);rw [Mv] at aF;have aG:bM (bu B) c (l.take (j+1))=bM (bu B) c (l.take j)++jy (a:Nat) (c a):=by
    unfold bM;rw [iz _ X,Mo]
   have a0:=(nB o ai).1;refine Pb fun R d=>Pm L.m_ U10 om_ (ce X) fl_ fun a1 aH=>O8 aH U8<|C4 1 [3,4,8,12,32,33,34] d Z<|Pb fun R d=>O8 (bkT ad 2) U8<|O8 (bkT ae 5) U8<|Pa U6<|PK (Lc _ hT.m_ _ B fs c a ar.m_ o ai) U7 (fun a2 _ _ aI=>?_);obtain ⟨rv,rfl,ak,am,Y⟩:=aI;have an:=am.1;obtain ⟨Ar,cr,rfl,aJ,a3,_⟩:=id Y;simp only [dF an] at Y aJ ⊢;refine C4 5 [3,4,8,12,13,14,32,33,34] d Z<|C6 2 [3,4,8,12,13,14,32,33,34,46] Z<|O9 (fun ao=>?_) fun ao=>?_
   ·exact absurd ao dc_
   ·refine C6 3 [3,4,8,12,32,33,34,48,49,50] Z<|Po (L':=[.arr w 125 3 (bM (bu B) c (l.take j)++jy (a:Nat) ((c a).take 0)).length (bV vs (bM (bu B) c (l.take j)++jy (a:Nat) ((c a).take 0))).flatten]) (by simp [jy])<|G.loop (fun fr C' e x=>∃ (k:Nat)(vs:List Value)(w:Value),(k<=(c a).length/\SrcsOk C' vs (bM (bu B) c (l.take j)++jy (a:Nat) ((c a).take k)))/\fr=[(3,[],.pointer (some ⟨O,0,none⟩)),(4,[],.pointer (some ⟨Q,0,none⟩)),(8,[],w),(12,[],.int .i64 a),(32,[],.slice M l.length N),(33,[],.int .i64 l.length),(34,[],.int .i64 j),(48,[],.slice Ar (c a).length cr),(49,[],.int .i64 (c a).length),(50,[],.int .i64 k)]/\e=[.arr w 125 3 (bM (bu B) c (l.take j)++jy (a:Nat) ((c a).take k)).length (bV vs (bM (bu B) c (l.take j)++jy (a:Nat) ((c a).take k))).flatten]/\x=(c a).length-k) (hn_ [3,4,8,12,32,33,34,48,49,50] Z) ⟨0,vs,w,⟨LV _,by rw [show jy (a:Nat) ((c a).take 0)=[] from Z,Mi];exact A.mono mup⟩,Z,Z,Z⟩ (fun fr a4 a5 m _ y=>?_);obtain ⟨k,vs,w,⟨hk,J⟩,rfl,rfl,rfl⟩:=y;refine C6 1 [3,4,8,12,32,33,34,48,49,50,51] Z<|O9 (fun aa=>?_) fun aa=>?_
    ·have K:k<(c a).length:=by
      have:=K5 aa;omega
     obtain ⟨r,g⟩:∃ r,(c a)[k]?=some r:=⟨(c a)[k],aj K⟩;obtain ⟨p,q⟩:∃ p,ak[k]?=some p:=⟨ak[k]'(by rw [an];exact K),aj _⟩;have t:=am.2 k p r q g;obtain ⟨h,n,rfl,_⟩:=id t;simp only [ax] at t q;have aB:(jy (a:Nat) ((c a).take k)).length<=240:=by simp [jy];omega
     have a6:(bM (bu B) c (l.take j)++jy (a:Nat) ((c a).take k)).length<=100000:=by rw [LZ];omega
     refine Pb fun R d=>Pm Y.m_ U10 om_ (jB q g) fl_ fun a7 aK=>O8 aK U8<|Pq U5 fun a8=>Pg (j:=0) U12<|Pd [3,4,8,12,16,32,33,34,48,49,50] d Z<|O7 2 Z fun R d=>Pe (.head _) U9<|PB [.int .i64 (a:Nat),.slice h r.f.length n,al (qtx r.b)] U8<|Ps [[.int .i64 (a:Nat),.slice h r.f.length n,al (qtx r.b)]] U12 fun a9 _ _ aL=>D.append (j:=1) U11 aL Z (by simp only [aE,maxLen];omega) (by simp only [aE];omega) fl_ fun ap=>C4 1 [3,4,8,12,32,33,34,48,49,50] d Z<|Pb fun R d=>Pi _ U7<|C4 1 [3,4,8,12,32,33,34,48,49,50] d Z ?_;have z:=SrcsOk.snoc (s:=⟨(a:Nat),r⟩) J.m_ t.m_;rw [Mo,<- jU g] at z;refine PQ 1 Z<|Po (L':=[.arr ap 125 3 (bM (bu B) c (l.take j)++jy (a:Nat) ((c a).take (k+1))).length (bV (vs++[.slice h r.f.length n]) (bM (bu B) c (l.take j)++jy (a:Nat) ((c a).take (k+1)))).flatten]) (by rw [jU g,<- Mo,jW (jV J)];simp;omega)<|Pk (m':=(c a).length-(k+1)) om_ mup (hn_ [3,4,8,12,32,33,34,48,49,50] Z) ⟨k+1,vs++[.slice h r.f.length n],ap,⟨by omega,z.mono mup⟩,Z,Z,Z⟩
    ·have K:k=(c a).length:=by
      have:=LS aa;omega
     rw [K,Mb,<- aG] at J ⊢;refine Pb fun R d=>Pi _ U7<|C4 1 [3,4,8,32,33,34] d Z<|Pk (m':=l.length-(j+1)) om_ mup (hn_ [3,4,8,32,33,34] Z) ⟨j+1,vs,w,⟨by omega,J⟩,Z,Z,Z⟩
  ·have W:j=l.length:=by
    have:=LS V;omega
   rw [W,Mb] at A ⊢;refine G.freezeArr 0 (bV vs (bM (bu B) c l)) Z Z (oY _ _) (lF (jV A)) (fun Cg hg ab=>?_);obtain ⟨Ag,cg,rfl,_⟩:=id ab;rw [lF (jV A)] at ab ⊢;refine C6 3 [8,64] Z<|O9 (fun aq=>?_) fun aq=>?_
   ·exfalso;have:=K5 aq;omega
   ·refine C6 3 [6,7] Z<|Pl (G.dropAll (PE U3 ?_));exact ⟨Z,_,Z,vs,A.mono mup,ab.mono mup⟩
def bQ (err:Nat->Int):Nat->Int
 | 0=>0
 | n+1=>if bQ err n≠0 then bQ err n else err n
theorem kw {a:Nat->Int}{n:Nat}(h:bQ a n≠0):∀ m,n<=m->bQ a m=bQ a n
 | 0,hm=>by rw [show n=0 by omega]
 | m+1,hm=>by
  rcases Mw m n with h1 | h1
  ·rw [show n=m+1 by omega]
  ·have b:=kw h m h1;simp only [bQ,b];rw [aI h]
theorem fA {n:Nat}(a:bQ err i=0)(b:err i≠0)(c:i<n):bQ err n=err i:=by
 have h1:bQ err (i+1)=err i:=by simp only [bQ,a];rw [aC dc_]
 rw [kw (n:=i+1) (by rw [h1];exact b) n om_,h1]
theorem gA (a:bQ err i=0)(b:err i=0):bQ err (i+1)=0:=by
 simp only [bQ,a];rw [aC dc_,b]
theorem kv {a:Nat->Int}:∀ {n:Nat},bQ a n=0->∀ i,i<n->a i=0
 | 0,_,i,b=>by omega
 | n+1,h,i,b=>by
  by_cases h0:bQ a n=0
  ·rcases Mw i n with h1 | h1
   ·exact kv h0 i h1
   ·have:i=n:=by omega
    subst this;simp only [bQ,h0] at h
    rwa [aC dc_] at h
  ·simp only [bQ] at h;rw [aI h0] at h;exact absurd h h0
theorem jH {a:Nat->Int}:∀ {n:Nat},(∀ i,i<n->a i=0)->bQ a n=0
 | 0,_=>rfl
 | n+1,h=>gA (jH fun i b=>h i om_) (h n om_)
theorem zN (C:Mem)(v:Value)(l:List Int)(z:Int)(b:Sl C 1 v (l.map wd)):Gives cx.P 126 [v,.int .i64 z] C (.int .i64 (ju (fun y=>decide (z=y)) l 0)):=by
 obtain ⟨h,c0,rfl,j,t,_⟩:=id b;have u:maxLen<=9223372036854775807:=by simp [maxLen]
 simp only [ax] at b j ⊢;refine Ph func126 19 U3 fun w0=>C6 1 [0,1] Z<|C6 3 [0,1,7,8] Z<|G.loop (fun fr C' k n=>∃ (i:Nat),(i<=l.length/\∀ y∈l.take i,(fun y=>decide (z=y)) y=false)/\fr=[(0,[],.slice h l.length c0),(1,[],.int .i64 z),(7,[],.int .i64 l.length),(8,[],.int .i64 i)]/\k=[]/\n=l.length-i) (hn_ [0,1,7,8] Z) ⟨0,⟨LV _,by simp⟩,Z,Z,Z⟩ (fun fr w A m o p=>?_);obtain ⟨i,⟨B,a⟩,rfl,rfl,rfl⟩:=p;refine C6 1 [0,1,7,8,9] Z<|O9 (fun c=>?_) fun c=>?_
 ·have d:i<l.length:=by simpa using c
  obtain ⟨x,e⟩:∃ x,l[i]?=some x:=⟨l[i],aj d⟩;refine C6 2 [0,1,5,7,8] Z<|O7 3 Z fun R f=>Pm b.m_ U10 om_ (ce e) fl_ fun D q=>O8 q U8<|C4 1 [0,1,5,7,8,16] f Z<|O9 (fun g=>?_) fun g=>?_
  ·have r:decide (z=x)=true:=by simpa using g
   exact C6 2 [4] Z<|Pf U2<|⟨by rw [mA e r a,M6],Z⟩
  ·have s:decide (z=x)=false:=by simpa using g
   refine Pb fun R f=>Pi _ U7<|C4 1 [0,1,7,8] f Z<|Pk (m':=l.length-(i+1)) om_ o (hn_ [0,1,7,8] Z) ⟨i+1,⟨by omega,fun y hy=>by
    rw [Mx,e] at hy;rcases Mh.1 hy with hy | hy
    ·exact a y hy
    ·simp only [Nv,Mn] at hy;subst hy;exact s⟩,Z,Z,Z⟩
 ·have d:i=l.length:=by
   have:¬ i<l.length:=by simpa using c
   omega
  exact C6 1 [4] Z<|Pf U2<|⟨by rw [d,Mb] at a;rw [ku a],Z⟩
theorem sC (C:Mem)(v:Value)(l:List Int)(z:Int)(a:Sl C 1 v (l.map wd)):Gives cx.P 84 [v,.int .i64 z] C (.bool (decide (z∈l))):=by
 refine Ph func84 9 U3 fun w0=>?_;refine C6 1 [0,1] Z ?_;refine O7 2 Z fun R b=>?_;refine Pn (zN _ v l z a.m_) U7 ?_;refine C4 2 [4] b Z ?_;refine Pf U2 ?_;refine ⟨?_,Z⟩;congr 1;rw [MH];rcases lf (fun y=>decide (z=y)) l with ⟨h1,h2⟩ | ⟨i,x,h1,h2,h3,_⟩
 ·rw [h1];constructor
  ·intro h;omega
  ·intro h;have:=h2 z h;simp at this
 ·rw [h1];constructor
  ·intro _;have:z=x:=K5 h3;rw [this];exact LQ h2
  ·intro _;omega
def pn (n:Nat)(l:List Int)(i:Nat):Int:=if l.getD i 0<0∨(n:Int)<=l.getD i 0 then 3 else if l.getD i 0∈l.take i then 9 else 0
def chZ (n:Nat)(l:List Int):Int:=bQ (pn n l) l.length
theorem KJ {n:Nat}{l:List Int}(h:chZ n l=0):l=(l.map Int.toNat).map (fun i:Nat=>(i:Int))/\∀ i∈l.map Int.toNat,i<n:=by
 have c:∀ z∈l,0<=z/\z<(n:Int):=by
  intro z a;obtain ⟨i,b⟩:=M2 a;have h1:=kv h i (aX.1 b).1;unfold pn at h1;rw [ak,b,M9] at h1;split at h1
  ·cases h1
  ·omega
 refine ⟨?_,fun i b=>?_⟩
 ·rw [ME];symm;have e:∀ z∈l,((fun i:Nat=>(i:Int)) ∘ Int.toNat) z=id z:=fun z a=>Int.toNat_of_nonneg (c z a).1;rw [List.map_congr_left e,List.map_id]
 ·obtain ⟨z,a,rfl⟩:=L4.1 b;have:=c z a;omega
theorem Ay (C:Mem)(y:Tabs C)(A E:Value)(B:Bk)(F:List Rat)(g:Nat->List RowQ)(l:List Int)(o:BookIn C A B)(p:Rich B F g)(c:Sl C 1 E (l.map wd))(N:l.length<=100)(O:chZ B.obs.length l=0->(bM (bu B) g (l.map Int.toNat)).length<=300) :
  Pur cx.P 52 [A,E] C fun u D=>∃ v,u=.tuple #[v,.int .i64 (chZ B.obs.length l)]/\yJ D v (if chZ B.obs.length l=0 then bM (bu B) g (l.map Int.toNat) else []):=by
 have H:=o;have Q:=c;have I:=p.bookz y o;obtain ⟨v1,v2,tv,cv,ov,rfl,h1,h2,h3,h4,h5⟩:=id o.ex;obtain ⟨A5,c5,rfl,S,ag,_⟩:=id h5;obtain ⟨q,d,rfl,T,ah,_⟩:=id c;have ai:maxLen<=9223372036854775807:=by simp [maxLen]
 simp only [ax] at h5 S H I c Q T ⊢;refine Ph func52 46 U3 fun w0=>Pb fun R a=>Pr U6 fun U=>C4 2 [1,2] a Z<|G.freeze 0 Z fun _ _ r=>Pb fun R a=>O8 (bkT r 5) U8<|Pn (Ls _ _ B I.m_ p.h60) U7<|Pc 3 Z<|Pq U5 fun V=>Pg (j:=0) U12<|C4 1 [1,2,6,7] a Z<|C6 2 [1,2,6,7,16] Z<|O9 (fun J=>?_) fun J=>?_
 ·exact absurd J dc_
 ·refine G.freeze 0 Z fun _ _ W=>C6 3 [1,2,6,18,19,20] Z<|G.loop (fun fr C' X Y=>∃ (i:Nat),(i<=l.length/\bQ (pn B.obs.length l) i=0)/\fr=[(1,[],.slice q l.length d),(2,[],.pointer (some ⟨U,0,none⟩)),(6,[],.pointer (some ⟨V,0,none⟩)),(18,[],.slice q l.length d),(19,[],.int .i64 l.length),(20,[],.int .i64 i)]/\X=[]/\Y=l.length-i) (hn_ [1,2,6,18,19,20] Z) ⟨0,⟨LV _,Z⟩,Z,Z,Z⟩ (fun fr al am m _ hI=>?_);obtain ⟨i,⟨hi,k⟩,rfl,rfl,rfl⟩:=hI;refine C6 1 [1,2,6,18,19,20,21] Z<|O9 (fun s=>?_) fun s=>?_
  ·have e:i<l.length:=by
    have:=K5 s;omega
   obtain ⟨z,K⟩:∃ z,l[i]?=some z:=⟨l[i],aj e⟩;have t:l.getD i 0=z:=by rw [ak,K,M9]
   have L:=Sl.sub c (l:=0) (h:=i) (m:=d) (LV _) (by simp;omega) om_ (LP _);rw [NB,<- O2] at L;refine O7 1 Z fun R a=>Pm c.m_ U10 om_ (ce K) fl_ fun an aa=>O8 aa U8<|C4 2 [1,2,6,8,9,18,19,20] a Z<|O7 5 Z fun R a=>PC U6 (fun _=>PtrTo.blockT (Mem.get r mup) _ 1) U3<|Pc 2 Z<|PD U8<|Pd [1,2,6,8,9,18,19,20,33] a Z<|O9 (fun w=>?_) fun w=>?_
   ·have b:pn B.obs.length l i=3:=by
     unfold pn;rw [t,aI (by simp only [Nl,LY] at w;omega)]
    have f:chZ B.obs.length l=3:=by
     unfold chZ;rw [fA k (by rw [b];decide) e,b]
    refine C6 2 [4,5] Z<|Pl (G.dropAll (PE U3 ?_));exact ⟨Z,.slice none 0 0,by rw [f],by rw [f];exact ⟨[],RowsOk.nil _,Sl.nil _ _⟩⟩
   ·have M:¬ (z<0∨(B.obs.length:Int)<=z):=by
     simp only [Nb,Mf] at w;omega
    refine O7 2 Z fun R a=>PX 0 i d U12 (fun _=>⟨.inl ⟨Z,Z⟩,.inr ⟨_,Z⟩,.inl ⟨Z,Z⟩,by omega,by omega,by omega⟩) U2<|Pa U6<|Pn (sC _ _ (l.take i) z L.m_) U7<|Pd [1,2,6,18,19,20,38] a Z<|O9 (fun x=>?_) fun x=>?_
    ·have hm:z∈l.take i:=K5 x;have b:pn B.obs.length l i=9:=by
      unfold pn;rw [t,aC M,aI hm]
     have f:chZ B.obs.length l=9:=by
      unfold chZ;rw [fA k (by rw [b];decide) e,b]
     refine C6 2 [4,5] Z<|Pl (G.dropAll (PE U3 ?_));exact ⟨Z,.slice none 0 0,by rw [f],by rw [f];exact ⟨[],RowsOk.nil _,Sl.nil _ _⟩⟩
    ·have hm:z ∉ l.take i:=LS x;have b:pn B.obs.length l i=0:=by
      unfold pn;rw [t,aC M,aC hm]
     refine Pb fun R a=>Pi _ U7<|C4 1 [1,2,6,18,19,20] a Z<|Pk (m':=l.length-(i+1)) om_ mup (hn_ [1,2,6,18,19,20] Z) ⟨i+1,⟨by omega,gA k b⟩,Z,Z,Z⟩
  ·have e:i=l.length:=by
    have:=LS s;omega
   subst e;have n:chZ B.obs.length l=0:=k;obtain ⟨ab,ac⟩:=KJ n;have ad:Sl C 1 (.slice q l.length d) ((l.map Int.toNat).map aU):=by
    have h:=congrArg (List.map wd) ab;rw [ME] at h;rw [show (l.map Int.toNat).map aU=l.map wd from h.symm];exact c
   refine Pb fun R a=>O8 (bkT W 2) U8<|O8 (bkT r 5) U8<|Pa U6<|PI (Ef _ y.m_ _ _ B F g (l.map Int.toNat) H.m_ p ad.m_ ac (by simpa using N) (O n)) U7 fl_ (fun ao _ _ ae=>?_);obtain ⟨rv,rfl,af⟩:=ae;refine C4 4 [4,5] a Z<|Pl (G.dropAll (PE U3 ?_));exact ⟨Z,rv,by rw [n],by rw [aI n];exact af⟩
def dotV (f x:List Rat):Nat->Rat
 | 0=>0
 | n+1=>dotV f x n+f.getD n 0*x.getD n 0
structure DotOk (r:RowQ)(x:List Rat):Prop where
 f:∀ q∈r.f,QB 22 q
 b:QB 22 r.b
 len:r.f.length=x.length
 s:∀ n,QB 2000 (dotV r.f x n)
theorem I7 {z w:Int}(c:w≠0)(a:z.natAbs<1000000000)(b:w.natAbs<1000000000):QB 1 (HF z w):=by
 unfold HF;refine gp om_ ?_ ?_
 ·show _<B9 ^ 1;split
  ·rw [Oy];exact a
  ·exact a
 ·exact b
structure Hts where
 h0:Int
 h1:Int
 h2:Int
 h3:Int
 h4:Int
 h5:Int
 half:Bool
def htsL (H:Hts):List Int:=[H.h0,H.h1,H.h2,H.h3,H.h4,H.h5]
def HtsR (H:Hts):Prop:=∀ z∈htsL H, -128<=z/\z<=127
structure Sgt where
 kind:Nat
 px:Int
 py:Int
 u0:Nat
 u1:Nat
 depth:Nat
 n0:Int
 n1:Int
 n2:Int
structure SgtR (s:Sgt):Prop where
 kind:s.kind<256
 px:-128<=s.px/\s.px<=127
 py:-128<=s.py/\s.py<=127
 u0:s.u0<256
 u1:s.u1<256
 depth:s.depth<256
 n0:-128<=s.n0/\s.n0<=127
 n1:-128<=s.n1/\s.n1<=127
 n2:-128<=s.n2/\s.n2<=127
structure Sht where
 kd:Nat
 a:Int
 b:Int
 h:Bool
theorem wrap_u8 (a:0<=n)(b:n<256):IntKind.u8.wrap n=n:=by
 simp only [IntKind.wrap,IntKind.bits,IntKind.signed];simp;omega
end Go.Proofs.YthnpijdjlddpmaaGreatDoor
