/- Laws that the proofs of this seat share, part 8. -/
import Derived.Test.YthnpijdjlddpmaaGreatDoorG7
import Derived.Test.YthnpijdjlddpmaaGreatDoorShelf
set_option maxHeartbeats 4000000
namespace Go.Proofs.YthnpijdjlddpmaaGreatDoor
open Go.Proofs.Tryz
open Go Go.Jog
set_option maxRecDepth 100000
variable {C:Mem}{a b c:Rat}{cyc:List Nat}{fs:List Rat}{i k:Nat}{l:List Pt}{m n:Nat}{p:Pt}{pts:List Pt}{q:Rat}{t:Tri}{tris:List Tri}{α:Type}
theorem JF {m:Oi}{s:iR}:(dq m (s.2,s.1)).isSome=!kD (m.map (·.1)) s:=by
 unfold kD OC;rw [Bool.not_not];cases h:dq m (s.2,s.1) with
 | none=>rw [cH] at h;simp [h]
 | some v =>
  have:=S5 (f:=(·.1)) (fZ h);simp only [Option.isSome_some];exact (QZ this).symm
theorem JC (C:Mem)(v1 v2:Value)(b:Nat)(m:Oi)(o:C b=some (aR qB m))(hn:(m.map (·.1)).Nodup)(Q:∀ s∈m.map (·.1),0<=s.1)(aF:m.length<=1000000) :
  Pur cx.P 154 [.agg ⟨[v1,v2]⟩,.map (some b)] C fun u D=>∃ v,u=.tuple #[v,.bool (decide (wI (m.map (·.1))≠[]))]/\Sl D 1 v ((wI (m.map (·.1))).map mf):=by
 have aG:maxLen<=9223372036854775807:=by simp [maxLen]
 have S:=fun s:iR=>JF (m:=m) (s:=s);obtain ⟨c,K⟩:∃ c,m.map (·.1)=c:=⟨_,rfl⟩;rw [K] at hn Q ⊢;simp only [K] at S;have al:c.length=m.length:=by rw [<- K];simp
 refine Uv func154 93 U3 fun w0=>Uq fun R d=>UF U6 fun b2=>C4 2 [1] d Z<|Uq fun R d=>D.makeMap keyZ Z Z Z Z fl_ fun n=>C4 1 [1,6] d Z<|Ul 1 [1,6,7] Z<|Um 1 Z fun R d=>WU kI2.enc (Mem.get o mup) Z Z Z Z Z Z Z fl_ fun F=>Ur [1,6,7,19] d Z<|Ve 2 Z<|G.loop (fun fr C' x T=>∃ (seen:List Nat)(f:Int),(seen.Nodup/\(∀ j∈seen,j<c.length)/\((fg c seen).map (·.1)).Nodup/\lT (fg c seen) f)/\fr=[(1,[],.map (some b)),(6,[],.map (some n)),(7,[],.int .i64 f),(19,[],.pointer (some ⟨F,0,none⟩))]/\x=[.obj F (bB b m.length seen),.obj n (aR keyZ.enc (uo (fg c seen)))]/\T=c.length-seen.length) (hn_ [1,6,7,19] Z) ⟨[], -1,⟨List.nodup_nil,by simp,by simp [fg],.inl ⟨Z,Z⟩⟩,Z,Z,Z⟩ (fun fr aH aI m _ U=>?_);obtain ⟨seen,f,⟨an,ao,L,M⟩,rfl,rfl,rfl⟩:=U;refine Uq fun R d=>WC kI2.enc (q:=0) (Mem.get o mup) Z Z Z Z Z Z fl_ fun ap aL N aq=>C4 1 [1,6,7,19,21] d Z<|Uo (fun H=>?_) fun H=>?_
 ·obtain ⟨aM,j,hj,az,rfl⟩:ap=true/\∃ j,j<m.length/\j ∉ seen/\N=seen++[j]:=by
   rcases aq with ⟨h1,_⟩ | h1
   ·rw [h1] at H;cases H
   exact h1
  rw [<- al] at hj;obtain ⟨⟨s,bv⟩,hs⟩:∃ p,m[j]?=some p:=⟨m[j]'om_,aj om_⟩;have ar:c[j]?=some s:=by rw [<- K,QI,hs];rfl
  have I:(seen++[j]).Nodup:=by
   rw [Sw];exact ⟨an,by simp,fun a V b o e=>by rw [Q3.1 o] at e;subst e;exact az V⟩
  have A:∀ i∈seen++[j],i<c.length:=fun i W=>by
   rcases QX.1 W with h | h
   ·exact ao i h
   rw [Q3.1 h];exact hj
  have aN:(seen++[j]).length<=c.length:=by
   have:=List.Nodup.length_le_of_subset I (l₂:=List.range c.length) (fun i W=>Q2.2 (A i W));simpa using this
  have aO:(seen++[j]).length=seen.length+1:=by simp
  have g:=Df ar (seen:=seen);have aA:0<=s.1:=Q s (QF ar);refine Uq fun R d=>WX kI2.enc (Mem.get o mup) hs af Z Z Z Z Z Z Z<|Up U6<|UH U5 fun b8=>Ux (j:=0) U12<|Ur [1,6,7,8,19] d Z<|Um 1 Z fun R d=>UL (1) U9 ag U2<|Uu af U9<|UL (0) U9 ag U2<|Uu af U9<|UG [.int .i64 s.2,.int .i64 s.1] U8<|WD kI2 (fun _=>(Mem.get o mup)) Z Z Z Z Z Z Z Z Z (pU _ (dq m (s.2,s.1))) Z Z<|C4 5 [1,6,7,8,10,19] d Z<|Ul 1 [1,6,7,8,19,34] Z<|Uo (fun X=>?_) fun X=>?_
  ·have Y:kD c s=false:=by
    have h:(dq m (s.2,s.1)).isSome=true:=X;rw [S] at h;simpa using h
   rw [Y] at g;simp only [Rx,RU,Q7] at g;refine Ve 0 Z<|UE (L':=[.obj F (bB b m.length (seen++[j])),.obj n (aR keyZ.enc (uo (fg c (seen++[j]))))]) (by rw [g];rfl)<|UA (m':=c.length-(seen++[j]).length) om_ mup (hn_ [1,6,7,19] Z) ⟨seen++[j],f,⟨I,A,by rw [g];exact L,by rw [g];exact M⟩,Z,Z,Z⟩
  have Y:kD c s=true:=by
   have h:(dq m (s.2,s.1)).isSome=false:=X;rw [S] at h;simpa using h
  rw [Y] at g;simp only [Su] at g;refine Um 1 Z fun R d=>UL (0) U9 ag U2<|Uu af U9<|VI keyZ ac Z Z Z Z Z Z Z Z kr_ Z (pU _ (dq (uo (fg c seen)) s.1)) Z Z<|C4 5 [1,6,7,8,12,19] d Z<|Ul 1 [1,6,7,8,19,42] Z<|Uo (fun aa=>?_) fun aa=>?_
  ·have z:(dq (uo (fg c seen)) s.1).isSome=true:=aa;rw [il] at z;have ab:ED c=none:=by
    cases l:dq (fg c seen) s.1 with
    | none=>rw [l] at z;cases z
    | some q=>exact Dx (B:=fg c seen) (s:=s) (t:=(s.1,q)) (by rw [<- g];exact yv hn I A) (by rw [<- g];exact Fq A) (fZ l) rfl
   have J:wI c=[]:=by unfold wI;rw [ab];rfl
   refine Ul 2 [4,5] Z<|Uz (G.dropAll (UO U3 ?_));exact ⟨Z,.slice none 0 0,by rw [J];rfl,by rw [J];exact Sl.nil _ _⟩
  have z:(dq (uo (fg c seen)) s.1).isSome=false:=aa;have ad:dq (fg c seen) s.1=none:=by
   rw [il] at z;cases l:dq (fg c seen) s.1 with
   | none=>rfl
   | some q=>rw [l] at z;cases z
  have au:((fg c (seen++[j])).map (·.1)).Nodup:=by
   rw [g,Rj,Sw];refine ⟨L,by simp,fun a V b o e=>?_⟩;rw [List.map_singleton,Q3] at o;subst o;subst e;exact (cH.1 ad) V
  have O:=qe M s aA;refine Um 1 Z fun R d=>UL (0) U9 ag U2<|Uu af U9<|UL (1) U9 ag U2<|Uu af U9<|D.mapUpdate keyZ (j:=2) Z Z Z Z Z Z Z Z Z Z kr_<|Ur [1,6,7,8,19] d Z<|Um 3 Z fun R d=>UL (0) U9 ag U2<|Uu ae U9<|Us 2 Z<|US U8<|Ur [1,6,7,8,19,55] d Z<|Uo (fun ah=>?_) fun ah=>?_
  ·have ai:f<0∨s.1<f:=by simpa using ah
   rw [aJ ai] at O;refine Uq fun R d=>UL (0) U9 ag U2<|Uu ae U9<|C4 1 [1,6,7,19] d Z<|Ve 1 Z<|G.perm (L':=[.obj F (bB b m.length (seen++[j])),.obj n (aR keyZ.enc (uo (fg c (seen++[j]))))]) (by
    rw [g,<- BD ad];exact List.Perm.swap _ _ _) ?_
   refine UA (m':=c.length-(seen++[j]).length) om_ mup (hn_ [1,6,7,19] Z) ⟨seen++[j],s.1,⟨I,A,au,by rw [g];exact O⟩,Z,Z,Z⟩
  have ai:¬ (f<0∨s.1<f):=by simpa using ah
  rw [aB ai] at O;refine Ve 1 Z<|G.perm (L':=[.obj F (bB b m.length (seen++[j])),.obj n (aR keyZ.enc (uo (fg c (seen++[j]))))]) (by
   rw [g,<- BD ad];exact List.Perm.swap _ _ _) ?_
  refine UA (m':=c.length-(seen++[j]).length) om_ mup (hn_ [1,6,7,19] Z) ⟨seen++[j],f,⟨I,A,au,by rw [g];exact O⟩,Z,Z,Z⟩
 obtain ⟨aP,rfl,av⟩:ap=false/\N=seen/\∀ j,j<m.length->j∈seen:=by
  rcases aq with h1 | ⟨h1,_⟩
  ·exact h1
  rw [h1] at H;cases H
 rw [<- al] at av;have hp:(fg c N).Perm (c.filter (kD c)):=(wd an ao av).filter _;obtain ⟨B,g⟩:∃ B,fg c N=B:=⟨_,rfl⟩;rw [g] at hp L M;have hO:=JD hp L Q M;have aQ:B.length<=c.length:=by rw [hp.length_eq];exact RT _ _
 refine Ul 1 [6,7,13] Z<|Ul 2 [6,7,13,14] Z<|Ve 0 Z<|G.nilArr 3 1<|UE (L':=[.arr (.slice none 0 0) 3 1 0 [],.obj n (aR keyZ.enc (uo B))]) (by rw [g];rfl)<|G.loop (fun fr C' x T=>∃ (out:List Int)(w:Value)(p:Int),(out.length<=B.length/\iS B f (B.length-out.length) p out=ED c)/\fr=[(6,[],.map (some n)),(7,[],.int .i64 f),(13,[],w),(14,[],.int .i64 p)]/\x=[.arr w 3 1 out.length (out.map (Value.int .i64)),.obj n (aR keyZ.enc (uo B))]/\T=B.length-out.length) (hn_ [6,7,13,14] Z) ⟨[],_,f,⟨QK _,hO.symm⟩,Z,Z,Z⟩ (fun fr aS aT m _ U=>?_);obtain ⟨out,w,p,⟨aU,E⟩,rfl,rfl,rfl⟩:=U;refine Xk af (fun Aw cw hw aV aW aX=>?_);subst hw;refine UN [(3,1)] Z fun R d=>Us 3 Z<|Wn keyZ.enc ae Z Z Z Z Z Z Z Z Z<|C4 1 [6,7,13,14,63] d Z<|Uo (fun ak=>?_) fun ak=>?_
 ·have aY:out.length<B.length:=by
   simp only [QQ,BE] at ak;omega
  obtain ⟨r,hr⟩:∃ r,B.length-out.length=r+1:=⟨B.length-out.length-1,by omega⟩;rw [hr] at E;refine Um 2 Z fun R d=>VI keyZ ae Z Z Z Z Z Z Z Z kr_ Z (pU _ (dq (uo B) p)) Z Z<|C4 5 [6,7,13,14,16] d Z<|Um 10 Z fun R d=>UM U8<|US U8<|Ur [6,7,13,14,84] d Z<|Uo (fun k=>?_) fun k=>?_
  ·have ab:ED c=none:=by
    rw [<- E];refine CR ?_;rw [il] at k;cases l:dq B p with
    | none=>exact .inl rfl
    | some q =>
     rw [l] at k;simp only [R8,Option.isSome_some,Bool.not_true,Bool.false_or,QT,Sn,QQ] at k;exact .inr ⟨k.1,fun e=>by rw [e] at k;simp at k⟩
   have J:wI c=[]:=by unfold wI;rw [ab];rfl
   refine Ul 2 [4,5] Z<|Uz (G.dropAll (UO U3 ?_));exact ⟨Z,.slice none 0 0,by rw [J];rfl,by rw [J];exact Sl.nil _ _⟩
  obtain ⟨q,l⟩:∃ q,dq B p=some q:=by
   rw [il] at k;cases l:dq B p with
   | some q=>exact ⟨q,rfl⟩
   | none=>rw [l] at k;simp at k
  have aC:¬ (p=f/\out≠[]):=by
   rintro ⟨e1,e2⟩;rw [il,l] at k;have:=Ru.2 e2;simp [e1] at k;exact e2 k
  rw [CQ l aC] at E;have aZ:(out++[p]).length=out.length+1:=by simp
  refine Um 2 Z fun R d=>UI [mf p] U12 fun a0 _ _ aD=>D.append (j:=0) U11 aD Z ax (by simp only [aK];omega) fl_ fun aw=>C4 1 [6,7,13,14] d Z<|Um 2 Z fun R d=>VI keyZ ae Z Z Z Z Z Z Z Z kr_ Z (by rw [il,l];rfl:kW _ false (dq (uo B) p)=.int .i64 q) Z Z<|C4 1 [6,7,13,14] d Z<|UE (L':=[.arr aw 3 1 (out++[p]).length ((out++[p]).map (Value.int .i64)),.obj n (aR keyZ.enc (uo B))]) (by simp [mf])<|UA (m':=B.length-(out++[p]).length) om_ mup (hn_ [6,7,13,14] Z) ⟨out++[p],aw,q,⟨by omega,by rw [show B.length-(out++[p]).length=r by omega];exact E⟩,Z,Z,Z⟩
 have a1:B.length<=out.length:=by
  simp only [Q1,BE] at ak;omega
 have ay:wI c=out:=by
  rw [show B.length-out.length=0 by omega] at E;unfold wI;rw [<- E];rfl
 refine Ul 6 [4,5] Z<|UE (L':=[.arr (.slice Aw out.length cw) 3 1 out.length (out.map mf).flatten,.obj n (aR keyZ.enc (uo B))]) (by rw [show (out.map mf).flatten=out.map (Value.int .i64) from eC _ _])<|G.freezeArr 0 (out.map mf) rfl rfl (by intro r hr;obtain ⟨y,_,rfl⟩:=QO.1 hr;rfl) am fun Cg hg aE=>Uz (G.dropAll (UO U3 ?_));refine ⟨Z,_, ?_,by rw [ay];exact aE⟩;rw [ay];have:decide ((out.length:Int) > 0)=decide (out≠[]):=by
  rw [Rv,<- Ru];omega
 rw [<- this]
def rG (pts:List Pt)(cyc:List Nat)(i:Nat):Pt:=pts.getD (cyc.getD (i % cyc.length) 0) (0,0)
def upB (p q:Pt):Bool:=decide (p.2<q.2) || (decide (p.2=q.2) && decide (p.1<q.1))
def Kf (pts:List Pt)(cyc:List Nat)(i:Nat):Bool:=!upB (rG pts cyc i) (rG pts cyc (i+1)) && upB (rG pts cyc (i+1)) (rG pts cyc (i+1+1))
def wV (pts:List Pt)(cyc:List Nat)(i:Nat):Bool:=decide (0<=dJ (rG pts cyc i) (rG pts cyc (i+1)) (rG pts cyc (i+2)))
def JI (pts:List Pt)(cyc:List Nat):Bool:=(List.range cyc.length).all (wV pts cyc) && decide (((List.range cyc.length).filter (Kf pts cyc)).length=1)
structure OnceC (C:Mem)(b2 b3 b5:Nat)(pts:List Pt)(cyc:List Nat):Prop where
 ex:∃ v1 v2,C b2=some (.cells ⟨[v1,v2]⟩ 36 (0,0))/\Sl C 2 v1 (pts.map gw)
 ey:∃ cv,C b3=some (.cells ⟨[cv]⟩ 50 (0,0))/\Sl C 1 cv (cyc.map aL)
 ez:C b5=some (.cells ⟨[.int .i64 (cyc.length:Nat)]⟩ 3 (0,0))
 ne:0<cyc.length
 ins:∀ z∈cyc,z<pts.length
 q:∀ p∈pts,QP 1 p
theorem OnceC.mono {C D:Mem}{b c d:Nat}{e:List Pt}{f:List Nat}(h:OnceC C b c d e f)(a:C.le D):OnceC D b c d e f:=by
 obtain ⟨g,i,h1,h2⟩:=h.ex;obtain ⟨j,h3,h4⟩:=h.ey;exact ⟨⟨g,i,a _ _ h1,h2.mono a⟩,⟨j,a _ _ h3,h4.mono a⟩,a _ _ h.ez,h.ne,h.ins,h.q⟩
theorem OnceC.m_ {D:Mem}{a b c:Nat}(h:OnceC C a b c pts cyc)(d:C.le D:=by exact mup):OnceC D a b c pts cyc:=OnceC.mono h d
theorem LV (h:0<cyc.length)(b:∀ z∈cyc,z<pts.length)(i:Nat):∃ z,cyc[i % cyc.length]?=some z/\pts[z]?=some (rG pts cyc i):=by
 have a:=Rs i h;refine ⟨cyc[i % cyc.length],aj a, ?_⟩;have c:=b _ (RH a);simp [rG,aj a,aj c]
theorem LU (h:0<cyc.length)(a:∀ z∈cyc,z<pts.length)(b:∀ p∈pts,QP 1 p)(i:Nat):QP 1 (rG pts cyc i):=by
 obtain ⟨z,_,h2⟩:=LV h a i;exact b _ (QF h2)
theorem pD (C:Mem)(e f c:Nat)(b:List Pt)(a:List Nat)(h:OnceC C e f c b a)(i:Nat) :
  Gives cx.P 228 [.int .i64 i,.pointer (some ⟨e,0,none⟩),.pointer (some ⟨f,0,none⟩),.pointer (some ⟨c,0,none⟩)] C (ptV (rG b a i)):=by
 obtain ⟨q,r,g,h1⟩:=h.ex;obtain ⟨s,k,h3⟩:=h.ey;have l:=h.ez;have t:=h.ne;obtain ⟨z,m,n⟩:=LV h.ne h.ins i;obtain ⟨u,v,rfl,w,x,_⟩:=id h1;obtain ⟨y,A,rfl,B,D,_⟩:=id h3;simp only [aw] at h1 h3 g k;refine Uv func228 16 U3 fun w0=>Uq fun R d=>UH U5 fun c=>Ur [0,1,2,3,5] d Z<|UJ [0,1,2,3,4,5,6,7,8,9,10] [] Z kr_ fun R E d=>Up U6<|Un (PtrTo.block (Mem.get g mup) _) U8<|Un (PtrTo.block (Mem.get k mup) _) U8<|Up U6<|Un (PtrTo.block (Mem.get l mup) _) U8<|Vk (i) (a.length) U6 om_ U2<|UD h3.m_ U10 om_ (by rw [QI,show ((i % a.length:Nat):Int).toNat=i % a.length from Z,m];rfl:(a.map aL)[((i % a.length:Nat):Int).toNat]?=some (aL z)) fl_ fun F o=>Un o U8<|UD h1.m_ U10 om_ (by rw [QI,show ((z:Nat):Int).toNat=z from Z,n];rfl:(b.map gw)[((z:Nat):Int).toNat]?=some (gw (rG b a i))) fl_ fun G p=>Un p U8<|Ux (j:=0) U12<|Ur [5] d Z<|Uz (Vi af U4 ?_);exact ⟨Z,Z⟩
def fn1V (b2 b3 b5:Nat):Value:=.func (.func 228) #[] #[.pointer (some ⟨b2,0,none⟩),.pointer (some ⟨b3,0,none⟩),.pointer (some ⟨b5,0,none⟩)]
theorem HH (a b:Rat):decide (EF a b > 0)=decide (b<a):=by
 unfold EF;by_cases h1:a<b
 ·have:¬ b<a:=by grind
  simp [h1,this]
 by_cases h2:b<a <;> simp [h1,h2]
theorem NW (a b:Rat):(EF a b == 0)=decide (b=a):=by
 unfold EF;by_cases h1:a<b
 ·have:¬ b=a:=by grind
  simp [h1,this]
 by_cases h2:b<a
 ·have:¬ b=a:=by grind
  simp [h1,h2,this]
 have:b=a:=by grind
 subst this;simp [h1]
theorem Le (C:Mem)(k:Tabs C)(c d e l:Nat)(a:List Pt)(b:List Nat)(h:OnceC C c d e a b)(f:C l=some (.cells ⟨[fn1V c d e]⟩ 318 (0,0)))(i:Nat)(n:i<=1000000) :
  Gives cx.P 229 [.int .i64 i,.pointer (some ⟨l,0,none⟩)] C (.bool (upB (rG a b i) (rG a b (i+1)))):=by
 have g:=fun i=>LU h.ne h.ins h.q i;unfold fn1V at f;refine Uv func229 34 U3 fun w0=>Ul 1 [0,1] Z<|UJ [0,1,2,3,4,5,6,7,8,9,10] [(3,1),(7,1),(9,1)] Z kr_ fun R m j=>Un (PtrTo.block (Mem.get f mup) _) U8<|Up U6<|Uw _ U7<|UU (fun _=>(pD _ c d e a b h.m_ (i+1))) U9<|VE U12<|Un (PtrTo.block (Mem.get f mup) _) U8<|Up U6<|UU (fun _=>(pD _ c d e a b h.m_ i)) U9<|VE U12<|UK (fun _=>(kR _ k.m_ (rG a b (i+1)).2 (rG a b i).2 1 dc_ dc_ (g (i+1)).2 (g i).2)) U9<|C4 1 [0,1,4] j Z<|UJ [0,1,2,3,4,5,6,7,8,9,10,11,12,13,14,15,16,17,18,19] [] Z kr_ fun R m j=>Us 6 Z<|UQ U6 (fun _=>PtrTo.block (Mem.get f mup) _) U3<|Up U6<|Uw _ U7<|UU (fun _=>(pD _ c d e a b h.m_ (i+1))) U9<|VE U12<|UQ U6 (fun _=>PtrTo.block (Mem.get f mup) _) U3<|Up U6<|UU (fun _=>(pD _ c d e a b h.m_ i)) U9<|VE U12<|UK (fun _=>(kR _ k.m_ (rG a b (i+1)).1 (rG a b i).1 1 dc_ dc_ (g (i+1)).1 (g i).1)) U9<|Up U6<|UM U8<|US U8<|C4 1 [3] j Z<|Ut U2<|⟨?_,Z⟩;rw [HH,NW,HH];rfl
theorem Fl (q:Rat):decide (eX q.num<0)=!decide (0<=q):=by
 rw [<- decide_not,Rv,<- Rat.num_nonneg];rcases eB q.num with h | h | h <;> omega
theorem Nb (C:Mem)(r:Tabs C)(s B D:Value)(b:List Pt)(a:List Nat)(I:Sl C 2 s (b.map gw))(t:Sl C 1 D (a.map aL))(J:0<a.length)(K:∀ z∈a,z<b.length)(L:∀ p∈b,QP 1 p)(W:a.length<=100000) :
  Gives cx.P 155 [.agg ⟨[s,B]⟩,D] C (.bool (JI b a)):=by
 obtain ⟨X,Y,rfl,aa,ab,_⟩:=id t;simp only [aw] at t ⊢;refine Uv func155 46 U3 fun w0=>Uq fun R c=>UF U6 fun e=>UF U6 fun f=>C4 1 [2,3] c Z<|Uq fun R c=>Uu af U9<|Up U6<|UH U5 fun g=>Ux (j:=0) U12<|Ur [2,3,5] c Z<|Um 1 Z fun R c=>UH U5 fun o=>Ux (j:=0) U12<|Ur [5,6] c Z<|G.freeze 0 Z fun _ _ h=>G.freeze 0 Z fun _ _ E=>G.freeze 0 Z fun _ _ M=>G.freeze 0 Z (fun N _ O=>?_);have d:OnceC N e f g b a:=⟨⟨s,B,O,I.mono mup⟩,⟨_,Mem.get M mup,t.mono mup⟩,Mem.get E mup,J,K,L⟩;have u:=fun i=>LU d.ne d.ins d.q i;refine Ul 2 [5,6,7] Z<|Ul 1 [5,6,7,8] Z<|Uq fun R c=>Un (PtrTo.block (Mem.get E mup) _) U8<|C4 1 [6,7,8,14,15] c Z<|G.loop (fun fr C' Q S=>∃ (i k:Nat),(i<=a.length/\(List.range i).all (wV b a)=true/\((List.range i).filter (Kf b a)).length=k)/\fr=[(6,[],.pointer (some ⟨o,0,none⟩)),(7,[],.func (.func 229) #[] #[.pointer (some ⟨o,0,none⟩)]),(8,[],.int .i64 k),(14,[],.int .i64 a.length),(15,[],.int .i64 i)]/\Q=[]/\S=a.length-i) (hn_ [6,7,8,14,15] Z) ⟨0,0,⟨QK _,Z,Z⟩,Z,Z,Z⟩ (fun fr ac ad m F T=>?_);obtain ⟨i,k,⟨hi,v,l⟩,rfl,rfl,rfl⟩:=T;refine Ul 1 [6,7,8,14,15,16] Z<|Uo (fun w=>?_) fun w=>?_
 ·have x:i<a.length:=by simpa using w
  have ae:k<=i:=by
   rw [<- l];exact Q0 (RT _ _) am
  refine Ul 2 [6,7,8,9,14,15] Z<|UJ [0,1,2,3,4,5,6,7,8,9,10,11,12] [(2,1),(6,1),(10,1),(11,1)] Z kr_ fun R hB c=>Un (PtrTo.block (Mem.get h mup) _) U8<|Up U6<|UU (fun _=>(pD _ e f g b a d.m_ i)) U9<|Un (PtrTo.block (Mem.get h mup) _) U8<|Up U6<|Uw _ U7<|UU (fun _=>(pD _ e f g b a d.m_ (i+1))) U9<|Un (PtrTo.block (Mem.get h mup) _) U8<|Up U6<|Uw _ U7<|UU (fun _=>(pD _ e f g b a d.m_ (i+2))) U9<|UK (fun _=>(oO _ r.m_ (rG b a i) (rG b a (i+1)) (rG b a (i+2)) 1 dc_ dc_ (u i) (u (i+1)) (u (i+2)))) U9<|C4 1 [6,7,8,9,14,15,30] c Z<|Uo (fun n=>?_) fun n=>?_
  ·have U:wV b a i=false:=by
    rw [Fl] at n;simpa [wV] using n
   refine Ul 1 [4] Z<|Ut U2<|⟨?_,Z⟩;have:(List.range a.length).all (wV b a)=false:=Tv.2 ⟨i,Q2.2 x,by rw [U];decide⟩;unfold JI;rw [this];rfl
  have V:wV b a i=true:=by
   rw [Fl] at n;simpa [wV] using n
  have H:(List.range (i+1)).all (wV b a)=true:=by rw [RK,T9,v];simp [V]
  refine Um 2 Z fun R c=>UC (Le _ r.m_ e f g o b a d.m_ (Mem.get h mup) i om_) U7 fl_<|Us 4 Z<|Uw _ U7<|UK (fun _=>(Le _ r.m_ e f g o b a d.m_ (Mem.get h mup) (i+1) om_)) U9<|UM U8<|Ur [6,7,8,14,15,40] c Z<|Uo (fun y=>?_) fun y=>?_
  ·have A:Kf b a i=true:=y;refine Um 1 Z fun R c=>Uw _ U7<|C4 1 [6,7,8,14,15] c Z<|Uq fun R c=>Uw _ U7<|C4 1 [6,7,8,14,15] c Z<|UA (m':=a.length-(i+1)) om_ F (hn_ [6,7,8,14,15] Z) ⟨i+1,k+1,⟨by omega,H,by rw [RK,Sh,QM,l];simp [A]⟩,Z,Z,Z⟩
  have A:Kf b a i=false:=y;refine Uq fun R c=>Uw _ U7<|C4 1 [6,7,8,14,15] c Z<|UA (m':=a.length-(i+1)) om_ F (hn_ [6,7,8,14,15] Z) ⟨i+1,k,⟨by omega,H,by rw [RK,Sh,QM,l];simp [A]⟩,Z,Z,Z⟩
 have x:i=a.length:=by
  have:¬ i<a.length:=by simpa using w
  omega
 refine Ul 3 [4] Z<|Ut U2<|⟨?_,Z⟩;rw [x] at v l;unfold JI;rw [v,l,TW];congr 1;rw [Uc,QQ];simp;omega
/-! The sides of triangles, in order. -/
def rr (t:Tri):List iR:=[pf t 0,pf t 1,pf t 2]
def cY (tris:List Tri):List iR:=tris.flatMap rr
theorem AV (t:Tri)(a:k<3):(rr t)[k]?=some (pf t k):=by
 rcases (by omega:k=0∨k=1∨k=2) with rfl | rfl | rfl <;> rfl
theorem pJ (m:Oi)(i:Nat)(t:Tri):∀ k,k<=3->(m.map (·.1)++(rr t).take k).Nodup->(EC m i t k).map (·.1)=m.map (·.1)++(rr t).take k
 | 0,_,_=>by simp [EC]
 | k+1,e,a=>by
  have h3:=AV t (show k<3 by omega);rw [Q5,h3,R5,<- Rb] at a ⊢;have b:=(Sw.1 a);have c:=pJ m i t k om_ b.1;have d:dq (EC m i t k) (pf t k)=none:=by
   rw [cH,c];intro h;exact b.2.2 _ h _ am Z
  rw [EC,jV d,Rj,c];rfl
theorem oZ (h:tris[n]?=some t):cY (tris.take (n+1))=cY (tris.take n)++rr t:=by
 unfold cY;rw [Q5,h,List.flatMap_append];simp
theorem rP (h:(cY tris).Nodup)(n:Nat):(cY (tris.take n)).Nodup:=by
 have:cY tris=cY (tris.take n)++cY (tris.drop n):=by
  unfold cY;rw [<- List.flatMap_append,RN]
 rw [this] at h;exact (Sw.1 h).1
theorem gK {a:List Tri}(h:(cY a).Nodup):∀ n,n<=a.length->(yi a n).map (·.1)=cY (a.take n)
 | 0,_=>by simp [yi,cY]
 | n+1,d=>by
  have b:a[n]?=some a[n]:=aj om_;have h1:=rP h (n+1);rw [oZ b] at h1 ⊢;have c:=gK h n om_;rw [yi,al,b];show (EC (yi a n) n a[n] 3).map (·.1)=_;rw [pJ _ _ _ 3 (QG _) (by rw [c];exact h1),c];rfl
theorem Dv (h:(cY tris).Nodup)(i:Nat)(t:Tri)(k:Nat)(a:tris[i]?=some t)(c:k<3):dq (EC (yi tris i) i t k) (pf t k)=none:=by
 have d:=(aE.1 a).1;have h1:=rP h (i+1);rw [oZ a] at h1;have b:=gK h i om_;have h3:=AV t c;have h2:(cY (tris.take i)++(rr t).take (k+1)).Nodup:=by
  refine List.Nodup.sublist (List.Sublist.append (List.Sublist.refl _) (List.take_sublist _ _)) h1
 rw [Q5,h3,R5,<- Rb] at h2;have h4:=Sw.1 h2;rw [cH,pJ _ _ _ k om_ (by rw [b];exact h4.1),b];intro h5;exact h4.2.2 _ h5 _ am Z
theorem vC {B:List iR}{d:Int}:∀ (k:Nat)(p:Int)(out r:List Int),iS B d k p out=some r->(∀ z∈out,z∈B.map (·.1))->∀ z∈r,z∈B.map (·.1)
 | 0,p,out,r,h,b=>by simp only [iS,Rc] at h;subst h;exact b
 | k+1,p,out,r,h,b=>by
  simp only [iS] at h;cases c:dq B p with
  | none=>rw [c] at h;cases h
  | some q =>
   rw [c] at h;simp only at h;split at h
   ·cases h
   refine vC k q _ r h (fun z a=>?_);rcases QX.1 a with a | a
   ·exact b z a
   rw [Q3.1 a];exact S5 (f:=(·.1)) (fZ c)
theorem vD {B:List iR}{b:Int}:∀ (k:Nat)(p:Int)(out r:List Int),iS B b k p out=some r->r.length=out.length+k
 | 0,p,out,r,h=>by simp only [iS,Rc] at h;subst h;rfl
 | k+1,p,out,r,h=>by
  simp only [iS] at h;cases a:dq B p with
  | none=>rw [a] at h;cases h
  | some q =>
   rw [a] at h;simp only at h;split at h
   ·cases h
   have:=vD k q _ r h;simp at this;omega
theorem Bz {c:List iR}:∀ z∈wI c,z∈c.map (·.1):=by
 intro z a;unfold wI at a;cases b:ED c with
 | none=>rw [b] at a;simp at a
 | some r =>
  rw [b] at a;simp only [R0] at a;unfold ED at b;split at b
  ·have:=vC _ _ _ _ b am z a;obtain ⟨s,hs,rfl⟩:=QO.1 this;exact S5 (f:=(·.1)) (SH.1 hs).1
  cases b
theorem JE (a:List iR):(wI a).length<=a.length:=by
 unfold wI;cases b:ED a with
 | none=>simp
 | some r =>
  unfold ED at b;split at b
  ·have:=vD _ _ _ _ b;have h2:=RT (kD a) a;simp at this ⊢;omega
  cases b
def rK (n:Nat)(t:Tri):Prop:=t.1<n/\t.2.1<n/\t.2.2<n
theorem I2 (h:rK n t):∀ s∈rr t,0<=s.1/\s.1.toNat<n:=by
 obtain ⟨h1,h2,h3⟩:=h;intro s hs;simp only [rr,QU,RV,S9] at hs;rcases hs with rfl | rfl | rfl <;> simp [pf,EY] <;> omega
theorem pd (h:∀ t∈tris,rK n t):∀ s∈cY tris,0<=s.1/\s.1.toNat<n:=by
 intro s hs;obtain ⟨t,a,hs⟩:=List.mem_flatMap.1 hs;exact I2 (h t a) s hs
theorem rU (a:List Tri):(cY a).length=3*a.length:=by
 induction a with
 | nil=>rfl
 | cons t l b =>
  have:cY (t::l)=rr t++cY l:=rfl;rw [this,QM,b];simp [rr];omega
def fO (tris:List Tri):List Nat:=(wI (cY tris)).map Int.toNat
theorem Eg (h:∀ t∈tris,rK n t):∀ z∈fO tris,z<n:=by
 intro z a;obtain ⟨y,hy,rfl⟩:=QO.1 a;obtain ⟨s,hs,rfl⟩:=QO.1 (Bz y hy);exact (pd h s hs).2
theorem zE (h:∀ t∈tris,rK n t):(wI (cY tris)).map mf=(fO tris).map aL:=by
 unfold fO;rw [Ry];refine List.map_congr_left (fun y hy=>?_);obtain ⟨s,hs,rfl⟩:=QO.1 (Bz y hy);have:=(pd h s hs).1;show mf s.1=aL s.1.toNat;unfold mf aL;rw [Int.toNat_of_nonneg this]
/-! Sets of ints as maps. -/
def Ig (ks:List Int):List (Int × Value):=ks.map fun z=>(z,.bool true)
def PC (ks:List Int)(z:Int):List Int:=if z∈ks then ks else ks++[z]
theorem Ja (a:List Int):(Ig a).length=a.length:=by simp [Ig]
theorem wQ:∀ {ks:List Int}{z:Int},fT (Ig ks) z (.bool true)=Ig (PC ks z)
 | [],z=>by simp [Ig,fT,PC]
 | k::ks,z=>by
  have a:=wQ (ks:=ks) (z:=z);unfold Ig at a ⊢;simp only [Q9,fT];by_cases e:k=z
  ·subst e;simp [PC]
  have b:¬ z=k:=fun h=>e h.symm;rw [aB e,a];unfold PC;by_cases h:z∈ks
  ·simp [h]
  simp [h,b]
def Mi (ks:List Int)(t:Tri):Nat->List Int
 | 0=>ks
 | k+1=>PC (Mi ks t k) (EY t k)
def vJ (tris:List Tri):Nat->List Int
 | 0=>[]
 | n+1=>Mi (vJ tris n) (tris.getD n (0,0,0)) 3
theorem Hf (t:Tri)(a:k<3):(kM t)[k]?=some (.int .i64 (EY t k)):=by
 rcases (by omega:k=0∨k=1∨k=2) with rfl | rfl | rfl <;> rfl
theorem Ef (h:decide (wI (cY tris)≠[])=true):0<(fO tris).length:=by
 unfold fO;rw [aw];exact Ru.2 (aW h)
theorem HS (a:List Tri):decide (wI (cY a)≠[])=decide (fO a≠[]):=by
 rw [Rv];unfold fO;simp
def nq (pts:List Pt)(tris:List Tri):Bool:=decide (fO tris≠[]) && (decide ((vJ tris tris.length).length=pts.length) && JI pts (fO tris))
theorem tN (C:Mem)(J:Tabs C)(x y:Value)(c:List Pt)(a:List Tri)(K:a≠[])(k:Sl C 2 x (c.map gw))(g:Sl C 3 y (a.map kM))(d:(cY a).Nodup)(l:∀ t∈a,rK c.length t)(L:∀ p∈c,QP 1 p)(z:a.length<=10000) :
  Gives cx.P 101 [.agg ⟨[x,y]⟩] C (.bool (nq c a)):=by
 obtain ⟨V,W,rfl,M,X,_⟩:=id k;obtain ⟨A2,c2,rfl,N,Y,_⟩:=id g;have aa:maxLen<=9223372036854775807:=by simp [maxLen]
 simp only [aw] at k g M N ⊢;refine Uv func101 55 U3 fun w0=>Uq fun R b=>UF U6 fun A=>C4 1 [1] b Z<|G.freeze 0 Z fun _ B e=>Uq fun R b=>Un (PtrTo.block (Mem.get e mup) _) U8<|UV (F7 _ _ _ a K g.m_ (Dv d)) U7 (fun ab _ _ O=>?_);obtain ⟨n,rfl,Q⟩:=O;refine C4 5 [1,3,4] b Z<|Ul 2 [1,3,18] Z<|Uo (fun E=>?_) fun E=>?_
 ·exact absurd E dc_
 refine Uq fun R b=>D.makeMap keyZ Z Z Z Z fl_ fun f=>C4 1 [1,3,5] b Z<|Um 1 Z fun R b=>Un (PtrTo.block (Mem.get e mup) _) U8<|C4 2 [1,3,5,21,22,23] b Z<|G.loop (fun fr C' h o=>∃ (i:Nat),(i<=a.length)/\fr=[(1,[],.pointer (some ⟨A,0,none⟩)),(3,[],.map (some n)),(5,[],.map (some f)),(21,[],.slice A2 a.length c2),(22,[],.int .i64 a.length),(23,[],.int .i64 i)]/\h=[.obj f (aR keyZ.enc (Ig (vJ a i)))]/\o=a.length-i) (hn_ [1,3,5,21,22,23] Z) ⟨0,QK _,Z,Z,Z⟩ (fun fr ac ad m _ q=>?_);obtain ⟨i,hi,rfl,rfl,rfl⟩:=q;refine Ul 1 [1,3,5,21,22,23,24] Z<|Uo (fun r=>?_) fun r=>?_
 ·have u:i<a.length:=by simpa using r
  obtain ⟨t,F⟩:∃ t,a[i]?=some t:=⟨a[i],aj u⟩;refine Uq fun R b=>UD g.m_ U10 om_ (by rw [QI,F];rfl:(a.map kM)[i]?=some (kM t)) fl_ fun ae S=>Un S U8<|UH U5 fun b7=>Ux (j:=0) U12<|Ur [1,3,5,7,21,22,23] b Z<|Uq fun R b=>Uu af U9<|C4 1 [1,3,5,21,22,23,27,28] b Z<|Ve 0 Z<|G.loop (fun fr C' h o=>∃ (j:Nat),(j<=3)/\fr=[(1,[],.pointer (some ⟨A,0,none⟩)),(3,[],.map (some n)),(5,[],.map (some f)),(21,[],.slice A2 a.length c2),(22,[],.int .i64 a.length),(23,[],.int .i64 i),(27,[],.agg ⟨kM t⟩),(28,[],.int .i64 j)]/\h=[.obj f (aR keyZ.enc (Ig (Mi (vJ a i) t j)))]/\o=3-j) (hn_ [1,3,5,21,22,23,27,28] Z) ⟨0,QK _,Z,Z,Z⟩ (fun fr ag ah m B q=>?_);obtain ⟨j,hj,rfl,rfl,rfl⟩:=q;refine Ul 1 [1,3,5,21,22,23,27,28,29] Z<|Uo (fun v=>?_) fun v=>?_
  ·have w:j<3:=by
    simp only [QQ] at v;omega
   refine Uq fun R b=>Vp U11 (fun _=>⟨by omega,by omega,Hf t w⟩) U2<|C4 1 [1,3,5,9,21,22,23,27,28] b Z<|Um 2 Z fun R b=>D.mapUpdate keyZ (j:=0) Z Z Z Z Z Z Z Z Z Z kr_<|Ur [1,3,5,21,22,23,27,28] b Z<|Uq fun R b=>Uw _ U7<|C4 1 [1,3,5,21,22,23,27,28] b Z ?_;rw [wQ];refine UA (m':=3-(j+1)) om_ B (hn_ [1,3,5,21,22,23,27,28] Z) ⟨j+1,om_,Z,Z,Z⟩
  have w:j=3:=by
   simp only [Q1] at v;omega
  subst w;refine Uq fun R b=>Uw _ U7<|C4 1 [1,3,5,21,22,23] b Z<|UE (L':=[.obj f (aR keyZ.enc (Ig (vJ a (i+1))))]) (by rw [vJ,al,F];rfl)<|UA (m':=a.length-(i+1)) om_ mup (hn_ [1,3,5,21,22,23] Z) ⟨i+1,om_,Z,Z,Z⟩
 have u:i=a.length:=by
  have:¬ i<a.length:=by simpa using r
  omega
 subst u;refine Uq fun R b=>Un (PtrTo.block (Mem.get e mup) _) U8<|Up U6<|UT (JC _ _ _ n (yi a a.length) (Mem.get Q mup) (by rw [gK d _ (QG _),QV];exact d) (by rw [gK d _ (QG _),QV];exact fun s T=>(pd l s T).1) (by have:=congrArg List.length (gK d _ (QG _));rw [QV,rU,aw] at this;omega)) U7 fl_ (fun ai _ _ H=>?_);rw [gK d _ (QG _),QV] at H;obtain ⟨bv,rfl,I⟩:=H;rw [zE l] at I;refine C4 5 [1,5,10,11] b Z<|UN [(3,1)] Z fun R b=>Us 3 Z<|Wn keyZ.enc af Z Z Z Z Z Z Z Z Z<|Up U6<|UQ U6 (fun _=>PtrTo.block (Mem.get e mup) _) U3<|Us 2 Z<|UM U8<|Up U6<|UQ U6 (fun _=>PtrTo.block (Mem.get e mup) _) U3<|Up U6<|UK (fun U=>(Nb _ J.m_ _ _ bv c (fO a) k.m_ I.m_ (by exact Ef (SC.1 (show (decide (wI (cY a)≠[]) && _)=true/\True from U).1).1) (Eg l) L (by have:=JE (cY a);rw [rU] at this;unfold fO;rw [aw];omega))) U9<|UM U8<|C4 1 [2] b Z<|Ut U2<|⟨?_,Z⟩;have z:(((Ig (vJ a a.length)).length:Int) == (c.length:Int))=decide ((vJ a a.length).length=c.length):=by
  rw [Ja,Uc,Sn,QQ];omega
 unfold nq;rw [<- HS,<- z,<- Bool.and_assoc]
noncomputable def kP2:KeyP cx.P 58 (Str × Str):=Qo rfl rfl rfl dc_ dc_ rfl rfl kr_
def ptK (p:Pt):Str × Str:=(qtx p.1,qtx p.2)
theorem MP {q:Pt}(h:ptK p=ptK q):p=q:=by
 have h1:=iM (congrArg (·.1) h);have h2:=iM (congrArg (·.2) h);exact Prod.ext h1 h2
def JQ (l:List Pt):List ((Str × Str) × Value):=l.map fun p=>(ptK p,.bool true)
theorem BK (h:p ∉ l):dq (JQ l) (ptK p)=none:=by
 rw [cH];unfold JQ;rw [Ry];intro hm;obtain ⟨q,a,b⟩:=QO.1 hm;exact h (MP b ▸ a)
theorem Nl (h:p ∉ l):fT (JQ l) (ptK p) (.bool true)=JQ (l++[p]):=by
 rw [jV (BK h)];simp [JQ]
def ou (n:Nat)(X:Nat->Nat->Bool):Bool:=(List.range n).any fun i=>(List.range i).any fun k=>X i k
def yH (pts:List Pt)(tris:List Tri)(X:Nat->Nat->Bool):Int:=if tris=[] then 13 else if nq pts tris then 0 else if ou tris.length X then 26 else 25
structure MeshOk (pts:List Pt)(tris:List Tri):Prop where
 q:∀ p∈pts,QP 1 p
 nd:pts.Nodup
 ins:∀ t∈tris,rK pts.length t
 pos:∀ t∈tris,0<dJ (pts.getD t.1 (0,0)) (pts.getD t.2.1 (0,0)) (pts.getD t.2.2 (0,0))
 sides:(cY tris).Nodup
 lt:tris.length<=800
 lp:pts.length<=400
theorem pC (h:i<pts.length):pts[i]?=some (pts.getD i (0,0)):=by
 rw [al,aj h];rfl
theorem Bp (h:i<pts.length):pts.getD i (0,0)∈pts:=QF (pC h)
def mG (t:Tri)(j:Nat):Nat:=if j=0 then t.1 else if j=1 then t.2.1 else t.2.2
theorem OA (t:Tri)(j:Nat):EY t j=(mG t j:Nat):=by
 unfold EY mG;split
 ·rfl
 split <;> rfl
theorem eW (h:rK n t)(j:Nat):mG t j<n:=by
 obtain ⟨h1,h2,h3⟩:=h;unfold mG;split
 ·exact h1
 split <;> assumption
theorem OJ (q:Rat):decide (eX q.num<=0)=!decide (0<q):=by
 have h1:=Bm q;have h2:q.num=0 ↔ q=0:=TJ;rw [<- decide_not,Rv];have h3:¬ 0<q ↔ (q<0∨q=0):=by grind
 rw [h3,<- h1,<- h2];rcases eB q.num with h | h | h <;> omega
theorem Gv (C:Mem)(F:Tabs C)(H I:Value)(c:List Pt)(b:List Tri)(X:Nat->Nat->Bool)(r:Sl C 2 H (c.map gw))(x:Sl C 3 I (b.map kM))(d:MeshOk c b)
  (U:b≠[]->nq c b=false->∀ D:Mem,C.le D->∀ i k:Nat,i<b.length->k<i->Gives cx.P 102 [.agg ⟨[H,I]⟩,.int .i64 i,.int .i64 k] D (.bool (X i k))) :
  Gives cx.P 66 [.agg ⟨[H,I]⟩] C (.int .i64 (yH c b X)):=by
 obtain ⟨A1,c1,rfl,ah,az,_⟩:=id r;obtain ⟨A2,c2,rfl,ai,aA,_⟩:=id x;have aC:maxLen<=9223372036854775807:=by simp [maxLen]
 have aD:=d.lt;have aF:=d.lp;simp only [aw] at r x ah ai U ⊢;refine Uv func66 105 U3 fun w0=>Uq fun R a=>UF U6 fun u=>C4 1 [1] a Z<|G.freeze 0 Z fun _ _ f=>Um 1 Z fun R a=>Un (PtrTo.block (Mem.get f mup) _) U8<|C4 3 [1,12] a Z<|Uo (fun y=>?_) fun y=>?_
 ·have h0:b=[]:=by
   have h:((b.length:Nat):Int)=0:=by simpa using y
   exact Rn om_
  exact Ul 1 [2] Z<|Ut U2<|⟨by unfold yH;rw [aJ h0],Z⟩
 have h0:b≠[]:=by
  intro e;rw [e] at y;exact absurd y dc_
 refine Um 1 Z fun R a=>Un (PtrTo.block (Mem.get f mup) _) U8<|Us 4 Z<|UQ U6 (fun _=>PtrTo.block (Mem.get f mup) _) U3<|Us 2 Z<|US U8<|C4 1 [1,17] a Z<|Uo (fun V=>?_) fun V=>?_
 ·exfalso;simp only [Sr,QQ] at V;omega
 refine Uq fun R a=>Wg kP2 Z Z Z Z fl_ fun J=>C4 1 [1,3] a Z<|Um 1 Z fun R a=>Un (PtrTo.block (Mem.get f mup) _) U8<|C4 2 [1,3,30,31,32] a Z<|G.loop (fun fr C' g l=>∃ (i:Nat),(i<=c.length)/\fr=[(1,[],.pointer (some ⟨u,0,none⟩)),(3,[],.map (some J)),(30,[],.slice A1 c.length c1),(31,[],.int .i64 c.length),(32,[],.int .i64 i)]/\g=[.obj J (aR D4 (JQ (c.take i)))]/\l=c.length-i) (hn_ [1,3,30,31,32] Z) ⟨0,QK _,Z,Z,Z⟩ (fun fr aG aH m _ n=>?_);obtain ⟨i,hi,rfl,rfl,rfl⟩:=n;refine Ul 1 [1,3,30,31,32,33] Z<|Uo (fun W=>?_) fun W=>?_
 ·have o:i<c.length:=by simpa using W
  obtain ⟨p,z⟩:∃ p,c[i]?=some p:=⟨c[i],aj o⟩;have A:=d.q p (QF z);have Y:p ∉ c.take i:=by
   intro hm;obtain ⟨j,v⟩:=Sg hm;rw [Rk] at v;split at v
   ·rename_i aI;have h3:=(aE.1 v);have h4:=(aE.1 z);have:=(List.getElem_inj d.nd).1 (h3.2.trans h4.2.symm);omega
   cases v
  have ak:JQ (c.take (i+1))=JQ (c.take i++[p]):=by rw [Q5,z];rfl
  refine Uq fun R a=>UD r.m_ U10 om_ (by rw [QI,z];rfl:(c.map gw)[i]?=some (gw p)) fl_ fun aL al=>Un al U8<|UH U5 fun b5=>Ux (j:=0) U12<|Ur [1,3,5,30,31,32] a Z<|Uq fun R a=>Uu af U9<|UC (iG _ F.m_ (qtx p.1) (qtx p.2) (by have:=bG A.1 dc_;omega) (by have:=bG A.2 dc_;omega)) U7 fl_<|C4 1 [1,3,5,30,31,32,38] a Z<|Uo (fun K=>?_) fun K=>?_
  ·exfalso;rw [bQ (A.1.le dc_),bQ (A.2.le dc_)] at K;exact absurd K dc_
  refine Um 1 Z fun R a=>Uu af U9<|Wi kP2 ae Z Z Z Z Z Z Z Z Z (congrArg (kW (.bool false) false) (BK Y)) Z Z<|Ur [1,3,5,30,31,32,41] a Z<|Uo (fun aa=>?_) fun aa=>?_
  ·exact absurd aa dc_
  refine Um 1 Z fun R a=>Uu af U9<|Wd kP2 (j:=1) (key:=ptK p) Z Z Z Z Z Z Z Z Z Z<|Ur [1,3,30,31,32] a Z<|Uq fun R a=>Uw _ U7<|C4 1 [1,3,30,31,32] a Z<|Ve 1 Z<|UE (L':=[.obj J (aR D4 (JQ (c.take (i+1))))]) (by rw [ak,<- Nl Y];rfl)<|UA (m':=c.length-(i+1)) om_ mup (hn_ [1,3,30,31,32] Z) ⟨i+1,om_,Z,Z,Z⟩
 refine Um 1 Z fun R a=>Un (PtrTo.block (Mem.get f mup) _) U8<|C4 2 [1,46,47,48] a Z<|G.dropAll<|G.loop (fun fr C' g l=>∃ (i:Nat),(i<=b.length)/\fr=[(1,[],.pointer (some ⟨u,0,none⟩)),(46,[],.slice A2 b.length c2),(47,[],.int .i64 b.length),(48,[],.int .i64 i)]/\g=[]/\l=b.length-i) (hn_ [1,46,47,48] Z) ⟨0,QK _,Z,Z,Z⟩ (fun fr aM aN m _ n=>?_);obtain ⟨i,hi,rfl,rfl,rfl⟩:=n;refine Ul 1 [1,46,47,48,49] Z<|Uo (fun L=>?_) fun L=>?_
 ·have o:i<b.length:=by simpa using L
  obtain ⟨t,ht⟩:∃ t,b[i]?=some t:=⟨b[i],aj o⟩;have ab:=QF ht;have s:=d.ins t ab;have am:=d.pos t ab;refine Uq fun R a=>UD x.m_ U10 om_ (by rw [QI,ht];rfl:(b.map kM)[i]?=some (kM t)) fl_ fun aO an=>Un an U8<|UH U5 fun b7=>Ux (j:=0) U12<|Ur [1,7,46,47,48] a Z<|Uq fun R a=>Uu af U9<|C4 1 [1,7,46,47,48,52,53] a Z<|G.loop (fun fr C' g l=>∃ (j:Nat),(j<=3)/\fr=[(1,[],.pointer (some ⟨u,0,none⟩)),(7,[],.pointer (some ⟨b7,0,none⟩)),(46,[],.slice A2 b.length c2),(47,[],.int .i64 b.length),(48,[],.int .i64 i),(52,[],.agg ⟨kM t⟩),(53,[],.int .i64 j)]/\g=[.obj b7 (.cells ⟨kM t⟩ 108 (0,0))]/\l=3-j) (hn_ [1,7,46,47,48,52,53] Z) ⟨0,QK _,Z,Z,Z⟩ (fun fr aP aQ m ao n=>?_);obtain ⟨j,v,rfl,rfl,rfl⟩:=n;refine Ul 1 [1,7,46,47,48,52,53,54] Z<|Uo (fun M=>?_) fun M=>?_
  ·have ap:j<3:=by
    simp only [QQ] at M;omega
   have aS:=eW s j;refine Uq fun R a=>Vp U11 (fun _=>⟨by omega,by omega,(show (kM t)[((j:Nat):Int).toNat]?=some (.int .i64 ((mG t j:Nat):Int)) from by rw [<- OA];exact Hf t ap)⟩) U2<|C4 1 [1,7,9,46,47,48,52,53] a Z<|Um 5 Z fun R a=>UQ U6 (fun _=>PtrTo.block (Mem.get f mup) _) U3<|Us 2 Z<|US U8<|Ur [1,7,46,47,48,52,53,64] a Z<|Uo (fun ac=>?_) fun ac=>?_
   ·exfalso;simp only [Sr,QQ] at ac;omega
   refine Uq fun R a=>Uw _ U7<|C4 1 [1,7,46,47,48,52,53] a Z<|UA (m':=3-(j+1)) om_ ao (hn_ [1,7,46,47,48,52,53] Z) ⟨j+1,om_,Z,Z,Z⟩
  clear M;refine UJ [0,1,2,3,4,5,6,7,8,9,10,11,12,13,14,15,16,17,18,19] [(18,1)] Z kr_ fun R hB a=>Up U6<|Un (PtrTo.block (Mem.get f mup) _) U8<|UL (0) U9 ag U2<|Uu af U9<|UD r.m_ U10 om_ (by rw [QI,show (((t.1:Nat):Int)).toNat=t.1 from Z,pC s.1];rfl:(c.map gw)[(((t.1:Nat):Int)).toNat]?=some (gw (c.getD t.1 (0,0)))) fl_ fun aT aq=>Un aq U8<|Up U6<|Un (PtrTo.block (Mem.get f mup) _) U8<|UL (1) U9 ag U2<|Uu af U9<|UD r.m_ U10 om_ (by rw [QI,show (((t.2.1:Nat):Int)).toNat=t.2.1 from Z,pC s.2.1];rfl:(c.map gw)[(((t.2.1:Nat):Int)).toNat]?=some (gw (c.getD t.2.1 (0,0)))) fl_ fun aU ar=>Un ar U8<|Up U6<|Un (PtrTo.block (Mem.get f mup) _) U8<|UL (2) U9 ag U2<|Uu af U9<|UD r.m_ U10 om_ (by rw [QI,show (((t.2.2:Nat):Int)).toNat=t.2.2 from Z,pC s.2.2];rfl:(c.map gw)[(((t.2.2:Nat):Int)).toNat]?=some (gw (c.getD t.2.2 (0,0)))) fl_ fun aV au=>Un au U8<|UK (fun _=>(oO _ F.m_ (c.getD t.1 (0,0)) (c.getD t.2.1 (0,0)) (c.getD t.2.2 (0,0)) 1 dc_ dc_ (d.q _ (Bp s.1)) (d.q _ (Bp s.2.1)) (d.q _ (Bp s.2.2)))) U9<|C4 1 [1,46,47,48,85] a Z<|Uo (fun N=>?_) fun N=>?_
  ·exfalso;rw [OJ,QZ am] at N;exact absurd N dc_
  refine Uq fun R a=>Uw _ U7<|C4 1 [1,46,47,48] a Z<|G.dropAll<|UA (m':=b.length-(i+1)) om_ mup (hn_ [1,46,47,48] Z) ⟨i+1,om_,Z,Z,Z⟩
 clear L;refine Uq fun R a=>Un (PtrTo.block (Mem.get f mup) _) U8<|UC (tN _ F.m_ _ _ c b h0 r.m_ x.m_ d.sides d.ins d.q om_) U7 fl_<|Ur [1,88] a Z<|Uo (fun O=>?_) fun O=>?_
 ·have w:nq c b=true:=O;exact Ul 1 [2] Z<|Ut U2<|⟨by unfold yH;rw [aB h0,aJ w],Z⟩
 have w:nq c b=false:=O;refine Um 1 Z fun R a=>Un (PtrTo.block (Mem.get f mup) _) U8<|C4 2 [1,91,92] a Z<|G.loop (fun fr C' g l=>∃ (i:Nat),(i<=b.length/\ou i X=false)/\fr=[(1,[],.pointer (some ⟨u,0,none⟩)),(91,[],.int .i64 b.length),(92,[],.int .i64 i)]/\g=[]/\l=b.length-i) (hn_ [1,91,92] Z) ⟨0,⟨QK _,Z⟩,Z,Z,Z⟩ (fun fr aW aX m _ n=>?_);obtain ⟨i,⟨aY,B⟩,rfl,rfl,rfl⟩:=n;refine Ul 1 [1,91,92,93] Z<|Uo (fun Q=>?_) fun Q=>?_
 ·have o:i<b.length:=by simpa using Q
  refine Ul 2 [1,10,91,92] Z<|Ul 2 [1,10,91,92,95,96] Z<|G.loop (fun fr C' g l=>∃ (k:Nat),(k<=i/\(List.range k).any (fun k=>X i k)=false)/\fr=[(1,[],.pointer (some ⟨u,0,none⟩)),(10,[],.int .i64 i),(91,[],.int .i64 b.length),(92,[],.int .i64 i),(95,[],.int .i64 i),(96,[],.int .i64 k)]/\g=[]/\l=i-k) (hn_ [1,10,91,92,95,96] Z) ⟨0,⟨QK _,Z⟩,Z,Z,Z⟩ (fun fr aZ a0 m av n=>?_);obtain ⟨k,⟨a1,ad⟩,rfl,rfl,rfl⟩:=n;refine Ul 1 [1,10,91,92,95,96,97] Z<|Uo (fun S=>?_) fun S=>?_
  ·have E:k<i:=by simpa using S
   refine Ul 2 [1,10,11,91,92,95,96] Z<|Uq fun R a=>Un (PtrTo.block (Mem.get f mup) _) U8<|Us 2 Z<|Uy (U h0 w _ mup i k o E) U7<|Ur [1,10,91,92,95,96,102] a Z<|Uo (fun T=>?_) fun T=>?_
   ·have ax:X i k=true:=T;have hc:ou b.length X=true:=Tl.2 ⟨i,Q2.2 o,Tl.2 ⟨k,Q2.2 E,ax⟩⟩;exact Ul 1 [2] Z<|Ut U2<|⟨by unfold yH;rw [aB h0,w,aB dc_,aJ hc],Z⟩
   have ay:X i k=false:=T;refine Uq fun R a=>Uw _ U7<|C4 1 [1,10,91,92,95,96] a Z<|UA (m':=i-(k+1)) om_ av (hn_ [1,10,91,92,95,96] Z) ⟨k+1,⟨by omega,by rw [RK,List.any_append,ad];simp [ay]⟩,Z,Z,Z⟩
  have E:k=i:=by
   have:¬ k<i:=by simpa using S
   omega
  subst E;refine Uq fun R a=>Uw _ U7<|C4 1 [1,91,92] a Z<|UA (m':=b.length-(k+1)) om_ mup (hn_ [1,91,92] Z) ⟨k+1,⟨by omega,by unfold ou at B ⊢;rw [RK,List.any_append,B];simp [ad]⟩,Z,Z,Z⟩
 have o:i=b.length:=by
  have:¬ i<b.length:=by simpa using Q
  omega
 refine Ul 1 [2] Z<|Ut U2<|⟨?_,Z⟩;rw [o] at B;unfold yH;rw [aB h0,w,aB dc_,B];rfl
structure Good (pts:List Pt)(tris:List Tri):Prop where
 ok:MeshOk pts tris
 ne:tris≠[]
 whole:nq pts tris=true
structure MeshIn (C:Mem)(mv:Value)(pts:List Pt)(tris:List Tri):Prop where
 ex:∃ v1 v2,mv=.agg ⟨[v1,v2]⟩/\Sl C 2 v1 (pts.map gw)/\Sl C 3 v2 (tris.map kM)
theorem MeshIn.mono {C D:Mem}{a:Value}{b:List Pt}{c:List Tri}(h:MeshIn C a b c)(d:C.le D):MeshIn D a b c:=by
 obtain ⟨e,f,h1,h2,h3⟩:=h.ex;exact ⟨e,f,h1,h2.mono d,h3.mono d⟩
theorem MeshIn.m_ {D:Mem}{a:Value}(h:MeshIn C a pts tris)(b:C.le D:=by exact mup):MeshIn D a pts tris:=MeshIn.mono h b
def nox:Nat->Nat->Bool:=fun _ _=>false
theorem jZ (C:Mem)(f:Tabs C)(d:Value)(a:List Pt)(b:List Tri)(g:MeshIn C d a b)(c:Good a b):Gives cx.P 66 [d] C (.int .i64 0):=by
 obtain ⟨i,j,rfl,h1,h2⟩:=g.ex;have h:=Gv C f i j a b nox h1 h2 c.ok (fun _ h3=>by rw [c.whole] at h3;cases h3);have e:yH a b nox=0:=by unfold yH;rw [aB c.ne,aJ c.whole]
 rwa [e] at h
def cor (pts:List Pt)(t:Tri)(j:Nat):Pt:=pts.getD (mG t j) (0,0)
def yO (pts:List Pt)(p:Pt)(t:Tri):Bool:=decide (0<=dJ (cor pts t 0) (cor pts t 1) p) && decide (0<=dJ (cor pts t 1) (cor pts t 2) p) && decide (0<=dJ (cor pts t 2) (cor pts t 0) p)
def lS (pts:List Pt)(tris:List Tri)(p:Pt):List Nat:=(List.range tris.length).filter fun i=>yO pts p (tris.getD i (0,0,0))
theorem nF (h:MeshOk pts tris)(a:t∈tris)(j:Nat):QP 1 (cor pts t j):=h.q _ (Bp (eW (h.ins t a) j))
theorem QP.le {k m:Nat}{p:Pt}(h:QP k p)(a:k<=m):QP m p:=⟨h.1.le a,h.2.le a⟩
theorem sZ (C:Mem)(d:Value)(a:List Pt)(b:List Tri)(f:MeshIn C d a b)(g:MeshOk a b)(i:Nat)(t:Tri)(e:b[i]?=some t) :
  Gives cx.P 156 [d,.int .i64 i] C (NS (cor a t 0) (cor a t 1) (cor a t 2)):=by
 obtain ⟨h,j,rfl,h1,h2⟩:=f.ex;have c:=g.ins t (QF e);exact D9 C h j a b i t _ _ _ h1 h2 e (pC c.1) (pC c.2.1) (pC c.2.2)
theorem FI (h:QP k p)(a:k<=1000):(qtx p.1).length<=999998/\(qtx p.2).length<=999998:=by
 have h1:=bG (h.1.le (Ta k)) om_;have h2:=bG (h.2.le (Ta k)) om_;exact ⟨by omega,by omega⟩
def PtR (p:Pt):Prop:=aX (qtx p.1)=true/\aX (qtx p.2)=true
theorem iF (C:Mem)(c:Tabs C)(p:Pt)(a:QP 23 p)(b:PtR p):Gives cx.P 99 [ptV p] C (.int .i64 0):=by
 have h:=iG C c (qtx p.1) (qtx p.2) (FI a dc_).1 (FI a dc_).2;rw [b.1,b.2] at h;exact h
theorem pV (C:Mem)(f:Tabs C)(A:Value)(c:List Pt)(a:List Tri)(p:Pt)(B:MeshIn C A c a)(E:Good c a)(F:QP 23 p)(g:PtR p) :
  Pur cx.P 149 [A,ptV p] C fun u D=>∃ v,u=.tuple #[v,.int .i64 0]/\Sl D 1 v ((lS c a p).map aL):=by
 have d:=E.ok;have V:=d.lt;have W:maxLen<=9223372036854775807:=by simp [maxLen]
 have h:=B;obtain ⟨X,Y,rfl,h1,h2⟩:=id B.ex;obtain ⟨A1,c1,rfl,aa,ab,_⟩:=id h1;obtain ⟨A2,c2,rfl,ac,ad,_⟩:=id h2;simp only [aw] at h1 h2 h ⊢;refine Uv func149 34 U3 fun w0=>Uq fun R b=>UF U6 fun N=>UF U6 fun O=>C4 2 [2,3] b Z<|G.freeze 1 Z fun _ _ k=>G.freeze 0 Z fun _ _ H=>Uq fun R b=>Un (PtrTo.block (Mem.get k mup) _) U8<|Uy (jZ _ f.m_ _ c a h.m_ E) U7<|C4 1 [2,3,6] b Z<|Ul 2 [2,3,6,12] Z<|Uo (fun I=>?_) fun I=>?_
 ·exact absurd I dc_
 refine Uq fun R b=>Un (PtrTo.block (Mem.get H mup) _) U8<|Uy (iF _ f.m_ p F g) U7<|C4 1 [2,3,16] b Z<|Uo (fun J=>?_) fun J=>?_
 ·exact absurd J dc_
 refine Ul 1 [2,3,7] Z<|Um 1 Z fun R b=>Un (PtrTo.block (Mem.get k mup) _) U8<|C4 2 [2,3,7,19,20] b Z<|G.nilArr 3 1<|G.loop (fun fr C' K Q=>∃ (i:Nat)(out:List Nat)(w:Value),(i<=a.length/\out=(List.range i).filter (fun i=>yO c p (a.getD i (0,0,0))))/\fr=[(2,[],.pointer (some ⟨N,0,none⟩)),(3,[],.pointer (some ⟨O,0,none⟩)),(7,[],w),(19,[],.int .i64 a.length),(20,[],.int .i64 i)]/\K=[.arr w 3 1 out.length (out.map aL).flatten]/\Q=a.length-i) (hn_ [2,3,7,19,20] Z) ⟨0,[],_,⟨QK _,Z⟩,Z,Z,Z⟩ (fun fr ae af m _ S=>?_);obtain ⟨i,out,w,⟨hi,e⟩,rfl,rfl,rfl⟩:=S;refine Ul 1 [2,3,7,19,20,21] Z<|Uo (fun l=>?_) fun l=>?_
 ·have n:i<a.length:=by simpa using l
  obtain ⟨t,o⟩:∃ t,a[i]?=some t:=⟨a[i],aj n⟩;have q:=QF o;have L:a.getD i (0,0,0)=t:=by rw [al,o];rfl
  have ag:out.length<=i:=by
   rw [e];exact Q0 (RT _ _) am
  refine Ul 2 [2,3,7,8,19,20] Z<|UJ [0,1,2,3,4] [(2,1),(4,1)] Z kr_ fun R hB b=>Un (PtrTo.block (Mem.get k mup) _) U8<|Up U6<|UU (fun _=>(sZ _ _ c a h.m_ d i t o)) U9<|Un (PtrTo.block (Mem.get H mup) _) U8<|UK (fun _=>(GS _ f.m_ (cor c t 0) (cor c t 1) (cor c t 2) p 23 dc_ dc_ ((nF d q 0).le dc_) ((nF d q 1).le dc_) ((nF d q 2).le dc_) F)) U9<|Ur [2,3,7,8,19,20,27] b Z<|Uo (fun s=>?_) fun s=>?_
  ·have x:yO c p t=true:=s;have z:(List.range (i+1)).filter (fun i=>yO c p (a.getD i (0,0,0)))=out++[i]:=by rw [RK,Sh,<- e,List.filter_cons,L,x];rfl
   refine Um 2 Z fun R b=>UI [aL i] U12 fun ah _ _ T=>D.append (j:=0) U11 T Z ax (by simp only [aK];omega) fl_ fun M=>C4 1 [2,3,7,19,20] b Z<|Uq fun R b=>Uw _ U7<|C4 1 [2,3,7,19,20] b Z<|UE (L':=[.arr M 3 1 (out++[i]).length ((out++[i]).map aL).flatten]) (by simp [aL])<|UA (m':=a.length-(i+1)) om_ mup (hn_ [2,3,7,19,20] Z) ⟨i+1,out++[i],M,⟨by omega,z.symm⟩,Z,Z,Z⟩
  have x:yO c p t=false:=s;have z:(List.range (i+1)).filter (fun i=>yO c p (a.getD i (0,0,0)))=out:=by rw [RK,Sh,<- e,List.filter_cons,L,x];simp
  refine Uq fun R b=>Uw _ U7<|C4 1 [2,3,7,19,20] b Z<|UA (m':=a.length-(i+1)) om_ mup (hn_ [2,3,7,19,20] Z) ⟨i+1,out,w,⟨by omega,z.symm⟩,Z,Z,Z⟩
 have n:i=a.length:=by
  have:¬ i<a.length:=by simpa using l
  omega
 refine Ul 3 [4,5] Z<|G.freezeArr 0 (out.map aL) rfl rfl (by intro r g;obtain ⟨y,_,rfl⟩:=QO.1 g;rfl) am fun Cg hg U=>Uz (G.dropAll (UO U3 ?_));refine ⟨Z,_,Z, ?_⟩;rw [n] at e;unfold lS;rw [<- e];exact U
theorem qJ (C:Mem)(g:Tabs C)(d:Value)(a:List Pt)(b:List Tri)(p:Pt)(e:MeshIn C d a b)(h:Good a b)(i:QP 23 p)(j:PtR p) :
  Gives cx.P 97 [d,ptV p] C (.tuple #[.bool (decide (lS a b p≠[])),.int .i64 0]):=by
 have k:=e;obtain ⟨n,o,rfl,h1,h2⟩:=id e.ex;refine Uv func97 18 U3 fun w0=>Uq fun R c=>UF U6 fun q=>UF U6 fun r=>C4 2 [2,3] c Z<|Uq fun R c=>Uu ae U9<|Uu af U9<|UV (pV _ g.m_ _ a b p k.m_ h i j) U7 (fun s _ _ l=>?_);obtain ⟨t,rfl,m⟩:=l;obtain ⟨u,v,f,_⟩:=id m;rw [aw] at f;subst f;refine C4 5 [6,7] c Z<|Ul 6 [4,5] Z<|Uz (G.dropAll (UO U3 ?_));refine ⟨?_,Z⟩;have:decide (((lS a b p).length:Int) > 0)=decide (lS a b p≠[]):=by
  rw [Rv,<- Ru];omega
 rw [<- this]
theorem zA (C:Mem)(j:Tabs C)(d:Value)(c:List Pt)(b:List Tri)(i:Nat)(e:MeshIn C d c b)(k:Good c b)(l:i<b.length) :
  Gives cx.P 273 [d,.int .i64 i] C (.int .i64 0):=by
 have f:=e;obtain ⟨m,n,rfl,h1,h2⟩:=id e.ex;obtain ⟨A2,c2,rfl,o,p,_⟩:=id h2;simp only [aw] at h1 h2 f ⊢;refine Uv func273 20 U3 fun w0=>Uq fun R a=>UF U6 fun q=>C4 1 [1,2] a Z<|Uq fun R a=>Uu af U9<|Uy (jZ _ j.m_ _ c b f.m_ k) U7<|C4 1 [1,2,5] a Z<|Ul 2 [1,2,5,9] Z<|Uo (fun g=>?_) fun g=>?_
 ·exact absurd g dc_
 refine Um 5 Z fun R a=>Uu af U9<|Us 2 Z<|US U8<|Ur [19] a Z<|Uo (fun h=>?_) fun h=>?_
 ·exfalso;simp only [Sr,QQ] at h;omega
 exact Ul 1 [4] Z<|Ut U2<|⟨Z,Z⟩
def wgt (pts:List Pt)(t:Tri)(p:Pt)(j:Nat):Rat:=dJ p (cor pts t ((j+1) % 3)) (cor pts t ((j+2) % 3)) / dJ (cor pts t 0) (cor pts t 1) (cor pts t 2)
theorem jY (a:MeshOk pts tris)(b:t∈tris):dJ (cor pts t 0) (cor pts t 1) (cor pts t 2)≠0:=by
 have h:=a.pos t b;intro e;have c:dJ (pts.getD t.1 (0,0)) (pts.getD t.2.1 (0,0)) (pts.getD t.2.2 (0,0))=0:=e;rw [c] at h;exact absurd h dc_
theorem Fj (C:Mem)(g:Tabs C)(x:Value)(c:List Pt)(h:List Tri)(p:Pt)(i:Nat)(t:Tri)(y:MeshIn C x c h)(z:Good c h)(l:QP 23 p)(O:PtR p)(o:h[i]?=some t)(q:∀ j,QB 22 (wgt c t p j)) :
  Gives cx.P 239 [x,.int .i64 i,ptV p] C (.tuple #[.agg ⟨[ai (qtx (wgt c t p 0)),ai (qtx (wgt c t p 1)),ai (qtx (wgt c t p 2))]⟩,.int .i64 0]):=by
 have r:=z.ok;have A:=QF o;have Q:=(aE.1 o).1;have B:=y;obtain ⟨v1,v2,rfl,h1,h2⟩:=id y.ex;have e:=fun j=>(nF r A j).le (show 1<=23 by decide);have s:=jY r A;have u:∀ a b,QP 23 a->QP 23 b->QB 189 (dJ p a b):=fun a b S T=>(zM l S T).le dc_;have v:QB 189 (dJ (cor c t 0) (cor c t 1) (cor c t 2)):=(zM (e 0) (e 1) (e 2)).le dc_;refine Uv func239 69 U3 fun w0=>Uq fun R d=>UF U6 fun b3=>UF U6 fun U=>UH U5 fun D=>C4 1 [1,3,5,6] d Z<|G.freeze 2 Z fun _ _ E=>G.freeze 1 Z fun _ _ n=>Uq fun R d=>Un (PtrTo.block (Mem.get E mup) _) U8<|Up U6<|Uy (zA _ g.m_ _ c h i B.m_ z Q) U7<|C4 1 [1,3,5,6,8] d Z<|Ul 2 [1,3,5,6,8,18] Z<|Uo (fun F=>?_) fun F=>?_
 ·exact absurd F dc_
 refine Uq fun R d=>Un (PtrTo.block (Mem.get n mup) _) U8<|Uy (iF _ g.m_ p l O) U7<|C4 1 [1,3,5,6,23] d Z<|Uo (fun H=>?_) fun H=>?_
 ·exact absurd H dc_
 refine Uq fun R d=>Un (PtrTo.block (Mem.get E mup) _) U8<|Up U6<|Uy (sZ _ _ c h B.m_ r i t o) U7<|UH U5 fun V=>Ux (j:=0) U12<|Ur [5,6,9] d Z<|G.freeze 0 Z fun _ _ f=>Uq fun R d=>UH U5 fun I=>Ur [5,6,9,10] d Z<|Ul 1 [5,6,9,10,28] Z<|G.loop (fun fr C' W X=>∃ (j:Nat),(j<=3)/\fr=[(5,[],.pointer (some ⟨U,0,none⟩)),(6,[],.pointer (some ⟨D,0,none⟩)),(9,[],.pointer (some ⟨V,0,none⟩)),(10,[],.pointer (some ⟨I,0,none⟩)),(28,[],.int .i64 j)]/\W=[.obj I (.cells ⟨(List.range 3).map fun k=>if k<j then ai (qtx (wgt c t p k)) else ai []⟩ 328 (0,0)),.obj D (.cells ⟨[ai [],ai [],ai []]⟩ 328 (0,0))]/\X=3-j) (hn_ [5,6,9,10,28] Z) ⟨0,QK _,Z,Z,Z⟩ (fun fr aa ab m _ Y=>?_);obtain ⟨j,hj,rfl,rfl,rfl⟩:=Y;refine Ul 1 [5,6,9,10,28,29] Z<|Uo (fun w=>?_) fun w=>?_
 ·have J:j<3:=by
   simp only [QQ] at w;omega
  rcases (by omega:j=0∨j=1∨j=2) with rfl | rfl | rfl
  ·refine Ul 2 [5,6,9,10,11,28] Z<|UJ [0,1,2,3,4,5,6,7,8,9,10,11,12,13,14,15,16,17,18,19,20,21,22,23,24,25] [(12,1),(19,1),(20,1)] Z kr_ fun R K d=>Up U6<|Un (PtrTo.block (Mem.get n mup) _) U8<|Up U6<|Uw _ U7<|Vq U6 om_ om_ U2<|UL (_) U9 ag U2<|Un (bkT f 2) U8<|Up U6<|Uw _ U7<|Vq U6 om_ om_ U2<|UL (_) U9 ag U2<|Un (bkT f 2) U8<|UK (fun _=>(lj _ g.m_ p (cor c t ((0+1) % 3)) (cor c t ((0+2) % 3)) 23 dc_ dc_ l (e _) (e _))) U9<|UL (0) U9 ag U2<|Un (bkT f 2) U8<|UL (2) U9 ag U2<|Un (bkT f 2) U8<|UL (4) U9 ag U2<|Un (bkT f 2) U8<|UK (fun _=>(lj _ g.m_ (cor c t 0) (cor c t 1) (cor c t 2) 23 dc_ dc_ (e 0) (e 1) (e 2))) U9<|UK (fun _=>(jh _ g.m_ _ _ 189 dc_ dc_ (u _ _ (e _) (e _)) v s)) U9<|Us 3 Z<|UL (_) U9 ag U2<|Ux (j:=0) U12<|Ur [5,6,9,10,11,28] d Z<|Um 1 Z fun R d=>UL (_) U9 ag U2<|Uu af U9<|Uy (tY _ g.m_ (wgt c t p 0) (q 0)) U7<|C4 5 [5,6,9,10,13,28] d Z<|Ul 2 [5,6,9,10,13,28,64] Z<|Uo (fun L=>?_) fun L=>?_
   ·exact absurd L dc_
   refine Uq fun R d=>Uw _ U7<|C4 1 [5,6,9,10,28] d Z<|UA (m':=2) om_ mup (hn_ [5,6,9,10,28] Z) ⟨1,by decide,Z,Z,Z⟩
  ·refine Ul 2 [5,6,9,10,11,28] Z<|UJ [0,1,2,3,4,5,6,7,8,9,10,11,12,13,14,15,16,17,18,19,20,21,22,23,24,25] [(12,1),(19,1),(20,1)] Z kr_ fun R K d=>Up U6<|Un (PtrTo.block (Mem.get n mup) _) U8<|Up U6<|Uw _ U7<|Vq U6 om_ om_ U2<|UL (_) U9 ag U2<|Un (bkT f 2) U8<|Up U6<|Uw _ U7<|Vq U6 om_ om_ U2<|UL (_) U9 ag U2<|Un (bkT f 2) U8<|UK (fun _=>(lj _ g.m_ p (cor c t ((1+1) % 3)) (cor c t ((1+2) % 3)) 23 dc_ dc_ l (e _) (e _))) U9<|UL (0) U9 ag U2<|Un (bkT f 2) U8<|UL (2) U9 ag U2<|Un (bkT f 2) U8<|UL (4) U9 ag U2<|Un (bkT f 2) U8<|UK (fun _=>(lj _ g.m_ (cor c t 0) (cor c t 1) (cor c t 2) 23 dc_ dc_ (e 0) (e 1) (e 2))) U9<|UK (fun _=>(jh _ g.m_ _ _ 189 dc_ dc_ (u _ _ (e _) (e _)) v s)) U9<|Us 3 Z<|UL (_) U9 ag U2<|Ux (j:=0) U12<|Ur [5,6,9,10,11,28] d Z<|Um 1 Z fun R d=>UL (_) U9 ag U2<|Uu af U9<|Uy (tY _ g.m_ (wgt c t p 1) (q 1)) U7<|C4 5 [5,6,9,10,13,28] d Z<|Ul 2 [5,6,9,10,13,28,64] Z<|Uo (fun M=>?_) fun M=>?_
   ·exact absurd M dc_
   refine Uq fun R d=>Uw _ U7<|C4 1 [5,6,9,10,28] d Z<|UA (m':=1) om_ mup (hn_ [5,6,9,10,28] Z) ⟨2,by decide,Z,Z,Z⟩
  refine Ul 2 [5,6,9,10,11,28] Z<|UJ [0,1,2,3,4,5,6,7,8,9,10,11,12,13,14,15,16,17,18,19,20,21,22,23,24,25] [(12,1),(19,1),(20,1)] Z kr_ fun R K d=>Up U6<|Un (PtrTo.block (Mem.get n mup) _) U8<|Up U6<|Uw _ U7<|Vq U6 om_ om_ U2<|UL (_) U9 ag U2<|Un (bkT f 2) U8<|Up U6<|Uw _ U7<|Vq U6 om_ om_ U2<|UL (_) U9 ag U2<|Un (bkT f 2) U8<|UK (fun _=>(lj _ g.m_ p (cor c t ((2+1) % 3)) (cor c t ((2+2) % 3)) 23 dc_ dc_ l (e _) (e _))) U9<|UL (0) U9 ag U2<|Un (bkT f 2) U8<|UL (2) U9 ag U2<|Un (bkT f 2) U8<|UL (4) U9 ag U2<|Un (bkT f 2) U8<|UK (fun _=>(lj _ g.m_ (cor c t 0) (cor c t 1) (cor c t 2) 23 dc_ dc_ (e 0) (e 1) (e 2))) U9<|UK (fun _=>(jh _ g.m_ _ _ 189 dc_ dc_ (u _ _ (e _) (e _)) v s)) U9<|Us 3 Z<|UL (_) U9 ag U2<|Ux (j:=0) U12<|Ur [5,6,9,10,11,28] d Z<|Um 1 Z fun R d=>UL (_) U9 ag U2<|Uu af U9<|Uy (tY _ g.m_ (wgt c t p 2) (q 2)) U7<|C4 5 [5,6,9,10,13,28] d Z<|Ul 2 [5,6,9,10,13,28,64] Z<|Uo (fun N=>?_) fun N=>?_
  ·exact absurd N dc_
  refine Uq fun R d=>Uw _ U7<|C4 1 [5,6,9,10,28] d Z<|UA (m':=0) om_ mup (hn_ [5,6,9,10,28] Z) ⟨3,by decide,Z,Z,Z⟩
 have J:j=3:=by
  simp only [Q1] at w;omega
 subst J;refine Uq fun R d=>Uu af U9<|Ux (j:=1) U12<|C4 1 [6,7] d Z<|Uz (Vw af U5 ?_);exact ⟨Z,Z⟩
theorem ci {f:α->List Value}{l:List α}{x:α}(h:l[i]?=some x):(l.map f)[i]?=some (f x):=by rw [QI,h];rfl
def BZ (n:Nat)(l:List Str):Int:=if l.length=n then qM (l.all aX) else 5
theorem xE (C:Mem)(y:Tabs C)(z v A:Value)(b:List Pt)(f:List Tri)(l:List Str)(B:MeshIn C z b f)(D:Good b f)(g:Sl C 1 v [[A]])(k:Sl C 1 A (l.map nP))(N:∀ s∈l,s.length<=999998) :
  Gives cx.P 103 [z,v] C (.int .i64 (BZ b.length l)):=by
 have E:=B;have Y:=D.ok.lp;obtain ⟨v1,v2,rfl,h1,h2⟩:=id B.ex;obtain ⟨A1,c1,rfl,aa,ab,_⟩:=id h1;obtain ⟨F,H,rfl,ac,ad,_⟩:=id g;obtain ⟨n,o,rfl,O,ae,_⟩:=id k;have af:maxLen<=9223372036854775807:=by simp [maxLen]
 simp only [aw,aK] at h1 g k E O ⊢;refine Uv func103 41 U3 fun w0=>Uq fun R a=>UF U6 fun I=>C4 1 [1,2] a Z<|G.freeze 0 Z fun _ _ J=>Uq fun R a=>Un (PtrTo.block (Mem.get J mup) _) U8<|Uy (jZ _ y.m_ _ b f E.m_ D) U7<|C4 1 [1,2,5] a Z<|Ul 2 [1,2,5,14] Z<|Uo (fun K=>?_) fun K=>?_
 ·exact absurd K dc_
 refine Ul 3 [2,16,17,18] Z<|G.loop (fun fr C' p q=>∃ (i:Nat),(i<=1/\(i=1->l.length=b.length/\l.all aX=true))/\fr=[(2,[],.pointer (some ⟨I,0,none⟩)),(16,[],.slice F 1 H),(17,[],.int .i64 1),(18,[],.int .i64 i)]/\p=[]/\q=1-i) (hn_ [2,16,17,18] Z) ⟨0,⟨QK _,fun h=>absurd h dc_⟩,Z,Z,Z⟩ (fun fr ag ah m _ r=>?_);obtain ⟨i,⟨hi,Q⟩,rfl,rfl,rfl⟩:=r;refine Ul 1 [2,16,17,18,19] Z<|Uo (fun t=>?_) fun t=>?_
 ·obtain rfl:i=0:=by
   simp only [QQ] at t;omega
  refine Uq fun R a=>UD g.m_ U10 om_ (rfl:([[.slice n l.length o]]:List (List Value))[0]?=some [.slice n l.length o]) fl_ fun ai S=>Un S U8<|C4 1 [2,7,16,17,18] a Z<|Um 3 Z fun R a=>Un (PtrTo.block (Mem.get J mup) _) U8<|C4 2 [2,7,16,17,18,27] a Z<|Uo (fun d=>?_) fun d=>?_
  ·have T:l.length≠b.length:=by
    intro e;rw [e] at d;simp at d
   exact Ul 1 [4] Z<|Ut U2<|⟨by unfold BZ;rw [aB T],Z⟩
  have L:l.length=b.length:=by
   have h:((l.length:Nat):Int)=(b.length:Nat):=by simpa using d
   omega
  refine Ul 3 [2,16,17,18,28,29,30] Z<|G.loop (fun fr C' p q=>∃ (j:Nat),(j<=l.length/\(l.take j).all aX=true)/\fr=[(2,[],.pointer (some ⟨I,0,none⟩)),(16,[],.slice F 1 H),(17,[],.int .i64 1),(18,[],.int .i64 0),(28,[],.slice n l.length o),(29,[],.int .i64 l.length),(30,[],.int .i64 j)]/\p=[]/\q=l.length-j) (hn_ [2,16,17,18,28,29,30] Z) ⟨0,⟨QK _,by simp⟩,Z,Z,Z⟩ (fun fr ak al m U r=>?_);obtain ⟨j,⟨hj,u⟩,rfl,rfl,rfl⟩:=r;refine Ul 1 [2,16,17,18,28,29,30,31] Z<|Uo (fun w=>?_) fun w=>?_
  ·have x:j<l.length:=by simpa using w
   obtain ⟨s,hs⟩:∃ s,l[j]?=some s:=⟨l[j],aj x⟩;refine Uq fun R a=>UD k.m_ U10 om_ (ci hs) fl_ fun am V=>Un V U8<|C4 1 [2,9,16,17,18,28,29,30] a Z<|Um 1 Z fun R a=>Uy (dY _ y.m_ s (N s (QF hs))) U7<|C4 1 [2,10,16,17,18,28,29,30] a Z<|Ul 2 [2,10,16,17,18,28,29,30,37] Z<|Uo (fun c=>?_) fun c=>?_
   ·have M:aX s=false:=by
     rcases gZ (aX s) with ⟨h1,h2⟩ | ⟨h1,h2⟩
     ·rw [h1] at c;exact absurd c dc_
     exact h2
    refine Ul 2 [4] Z<|Ut U2<|⟨?_,Z⟩;unfold BZ;rw [aJ L,M,show l.all aX=false from Tv.2 ⟨s,QF hs,by rw [M];decide⟩]
   have W:aX s=true:=by
    rcases gZ (aX s) with ⟨h1,h2⟩ | ⟨h1,h2⟩
    ·exact h2
    rw [h1] at c;exact absurd c dc_
   refine Uq fun R a=>Uw _ U7<|C4 1 [2,16,17,18,28,29,30] a Z<|UA (m':=l.length-(j+1)) om_ U (hn_ [2,16,17,18,28,29,30] Z) ⟨j+1,⟨by omega,by rw [Q5,hs,T9,u];simp [W]⟩,Z,Z,Z⟩
  have x:j=l.length:=by
   have:¬ j<l.length:=by simpa using w
   omega
  refine Uq fun R a=>Uw _ U7<|C4 1 [2,16,17,18] a Z<|UA (m':=0) om_ mup (hn_ [2,16,17,18] Z) ⟨1,⟨QG _,fun _=>⟨L,by rw [x,QV] at u;exact u⟩⟩,Z,Z,Z⟩
 have X:i=1:=by
  simp only [Q1] at t;omega
 refine Ul 1 [4] Z<|Ut U2<|⟨?_,Z⟩;obtain ⟨h3,h4⟩:=Q X;unfold BZ;rw [aJ h3,h4];rfl
theorem uH (C:Mem)(h:Tabs C)(e f:Value)(a:List Pt)(b:List Tri)(l:List Str)(g:MeshIn C e a b)(i:Good a b)(c:Sl C 1 f (l.map nP))(j:∀ s∈l,s.length<=999998) :
  Gives cx.P 67 [e,f] C (.int .i64 (BZ a.length l)):=by
 have k:=g;obtain ⟨p,q,rfl,h1,h2⟩:=id g.ex;obtain ⟨m,n,rfl,r,t,_⟩:=id c;simp only [aw] at c ⊢;exact Uv func67 9 U3 fun w0=>Uq fun R d=>UF U6 fun u=>C4 1 [1,2] d Z<|Uq fun R d=>Uu af U9<|Up U6<|UI [[.slice m l.length n]] U12 fun v _ _ o=>Uy (xE _ h.m_ _ _ _ a b l k.m_ i o.m_ c.m_ j) U7<|C4 1 [4] d Z<|Ut U2<|⟨Z,Z⟩
def fe (q:Rat):List Value:=[ai (qtx q)]
def fz (fs:List Rat)(t:Tri)(j:Nat):Rat:=fs.getD (mG t j) 0
def zq (pts:List Pt)(fs:List Rat)(t:Tri)(j:Nat):List Value:=gw (cor pts t j)++fe (fz fs t j)
theorem G8 (h:i<fs.length):fs[i]?=some (fs.getD i 0):=by
 rw [al,aj h];rfl
theorem ze (C:Mem)(r s:Value)(b:List Pt)(l:List Tri)(c:List Rat)(z:MeshIn C r b l)(A:MeshOk b l)(e:Sl C 1 s (c.map fe))(n:c.length=b.length)(i:Nat)(t:Tri)(o:l[i]?=some t) :
  Gives cx.P 298 [r,s,.int .i64 i] C (.agg ⟨zq b c t 0++zq b c t 1++zq b c t 2⟩):=by
 have d:=A.ins t (QF o);obtain ⟨M,N,rfl,h1,h2⟩:=id z.ex;obtain ⟨O,Q,rfl,B,S,_⟩:=id h1;obtain ⟨A2,c2,rfl,D,T,_⟩:=id h2;obtain ⟨E,F,rfl,U,V,_⟩:=id e;have W:maxLen<=9223372036854775807:=by simp [maxLen]
 simp only [aw] at h1 h2 e B D ⊢;have X:=(aE.1 o).1;refine Uv func298 32 U3 fun w0=>?_;refine Uq fun R a=>?_;refine UF U6 (fun H=>?_);refine UH U5 (fun u=>?_);refine Ur [1,2,3,6] a Z ?_;refine G.freeze 1 Z (fun _ _ h=>?_);refine Um 1 Z fun R a=>?_;refine Un (PtrTo.block (Mem.get h mup) _) U8 ?_;refine Up U6 ?_;refine UD h2.m_ U10 om_ (ci o) fl_ (fun Y I=>?_);refine Un I U8 ?_;refine C4 1 [1,3,6,13,14] a Z ?_;refine G.loop (fun fr C' J K=>∃ (j:Nat),(j<=3)/\fr=[(1,[],.slice E c.length F),(3,[],.pointer (some ⟨H,0,none⟩)),(6,[],.pointer (some ⟨u,0,none⟩)),(13,[],.agg ⟨kM t⟩),(14,[],.int .i64 j)]/\J=[.obj u (.cells ⟨(List.range 3).flatMap fun k=>if k<j then zq b c t k else [ai [],ai [],ai []]⟩ 391 (0,0))]/\K=3-j) (hn_ [1,3,6,13,14] Z) ⟨0,QK _,Z,Z,Z⟩ (fun fr aa ab m p L=>?_);obtain ⟨j,hj,rfl,rfl,rfl⟩:=L;refine Ul 1 [1,3,6,13,14,15] Z ?_;refine Uo (fun q=>?_) fun q=>?_
 ·have v:j<3:=by
   simp only [QQ] at q;omega
  rcases (by omega:j=0∨j=1∨j=2) with rfl | rfl | rfl
  ·refine Um 1 Z fun R a=>?_;refine Vp U11 ag U2 ?_;refine C4 2 [1,3,6,7,8,13,14] a Z ?_;refine UJ [0,1,2,3,4,5,6,7,8,9,10,11,12] [] Z kr_ (fun R w a=>?_);refine Us 2 Z ?_;refine Un (PtrTo.block (Mem.get h mup) _) U8 ?_;refine Up U6 ?_;refine UD h1.m_ U10 om_ (ci (pC (eW d 0))) fl_ (fun x f=>?_);refine Un f U8 ?_;refine Us 2 Z ?_;refine UD e.m_ U10 om_ (ci (G8 (n ▸ eW d 0))) fl_ (fun y g=>?_);refine Un g U8 ?_;refine UG (zq b c t 0) U8 ?_;refine UL (_) U9 ag U2 ?_;refine Ux (j:=0) U12 ?_;refine Ur [1,3,6,13,14] a Z ?_;refine Uq fun R a=>?_;refine Uw _ U7 ?_;refine C4 1 [1,3,6,13,14] a Z ?_;refine UA (m':=2) om_ p (hn_ [1,3,6,13,14] Z) ⟨1,by decide,Z,Z,Z⟩
  ·refine Um 1 Z fun R a=>?_;refine Vp U11 ag U2 ?_;refine C4 2 [1,3,6,7,8,13,14] a Z ?_;refine UJ [0,1,2,3,4,5,6,7,8,9,10,11,12] [] Z kr_ (fun R w a=>?_);refine Us 2 Z ?_;refine Un (PtrTo.block (Mem.get h mup) _) U8 ?_;refine Up U6 ?_;refine UD h1.m_ U10 om_ (ci (pC (eW d 1))) fl_ (fun x f=>?_);refine Un f U8 ?_;refine Us 2 Z ?_;refine UD e.m_ U10 om_ (ci (G8 (n ▸ eW d 1))) fl_ (fun y g=>?_);refine Un g U8 ?_;refine UG (zq b c t 1) U8 ?_;refine UL (_) U9 ag U2 ?_;refine Ux (j:=0) U12 ?_;refine Ur [1,3,6,13,14] a Z ?_;refine Uq fun R a=>?_;refine Uw _ U7 ?_;refine C4 1 [1,3,6,13,14] a Z ?_;refine UA (m':=1) om_ p (hn_ [1,3,6,13,14] Z) ⟨2,by decide,Z,Z,Z⟩
  refine Um 1 Z fun R a=>?_;refine Vp U11 ag U2 ?_;refine C4 2 [1,3,6,7,8,13,14] a Z ?_;refine UJ [0,1,2,3,4,5,6,7,8,9,10,11,12] [] Z kr_ (fun R w a=>?_);refine Us 2 Z ?_;refine Un (PtrTo.block (Mem.get h mup) _) U8 ?_;refine Up U6 ?_;refine UD h1.m_ U10 om_ (ci (pC (eW d 2))) fl_ (fun x f=>?_);refine Un f U8 ?_;refine Us 2 Z ?_;refine UD e.m_ U10 om_ (ci (G8 (n ▸ eW d 2))) fl_ (fun y g=>?_);refine Un g U8 ?_;refine UG (zq b c t 2) U8 ?_;refine UL (_) U9 ag U2 ?_;refine Ux (j:=0) U12 ?_;refine Ur [1,3,6,13,14] a Z ?_;refine Uq fun R a=>?_;refine Uw _ U7 ?_;refine C4 1 [1,3,6,13,14] a Z ?_;refine UA (m':=0) om_ p (hn_ [1,3,6,13,14] Z) ⟨3,by decide,Z,Z,Z⟩
 have v:j=3:=by
  simp only [Q1] at q;omega
 subst v;refine Uq fun R a=>?_;refine Uu af U9 ?_;refine Ux (j:=0) U12 ?_;refine Ur [6] a Z ?_;refine Uz (Vi af U4 ?_);exact ⟨Z,Z⟩
/-! Finer bounds. -/
theorem jG (c:QB k a)(d:QB m b):QB (k+m) (a*b):=by
 rw [gH];refine fY (Nat.mul_ne_zero a.den_nz b.den_nz) ?_ ?_
 ·rw [Se,Ts];exact Sj c.1 d.1
 rw [Ts];exact Sj c.2 d.2
theorem vj (c:QB k a)(d:QB m b):QB (k+m+1) (a+b):=by
 rw [gJ];have e:B9 ^ (k+m+1)=B9 ^ k*B9 ^ m*B9:=by rw [RY,Ts]
 have f:(a.num*b.den).natAbs<B9 ^ k*B9 ^ m:=by rw [Se,Rt];exact Sj c.1 d.2
 have g:(b.num*a.den).natAbs<B9 ^ k*B9 ^ m:=by rw [Se,Rt,Rw];exact Sj c.2 d.1
 have h:a.den*b.den<B9 ^ k*B9 ^ m:=Sj c.2 d.2;have i:2*(B9 ^ k*B9 ^ m)<=B9 ^ k*B9 ^ m*B9:=by
  rw [Rw];exact R6 _ dc_
 refine fY (Nat.mul_ne_zero a.den_nz b.den_nz) ?_ ?_
 ·rw [e];have:=Ti (a.num*b.den) (b.num*a.den);omega
 rw [e];omega
theorem fc (c:QB k a)(d:QB m b):QB (k+m+1) (a-b):=by
 rw [Uf];exact vj c (gg d)
theorem QB_one:QB 1 1:=⟨by decide,by decide⟩
theorem QB_zero:QB 1 0:=⟨by decide,by decide⟩
def eF (a b c d:Rat):Rat:=a*d-b*c
theorem qu (C:Mem)(e:Tabs C)(a b c d:Rat)(k:Nat)(f:0<k)(m:k<=2000)(g:QB k a)(h:QB k b)(i:QB k c)(j:QB k d):Gives cx.P 299 [ai (qtx a),ai (qtx b),ai (qtx c),ai (qtx d)] C (ai (qtx (eF a b c d))):=by
 exact Uv func299 16 U3 fun w0=>Ul 1 [0,1,2,3] Z<|Um 2 Z fun R l=>UC (dB _ e.m_ a d k f om_ g j) U7 fl_<|Us 2 Z<|UC (dB _ e.m_ b c k f om_ h i) U7 fl_<|UC (ep _ e.m_ (a*d) (b*c) (k+k) om_ om_ (qY g j) (qY h i)) U7 fl_<|C4 1 [8] l Z<|Ut U2<|⟨Z,Z⟩
theorem kr {d:Rat}(e:QB k a)(f:QB k b)(g:QB k c)(h:QB k d):QB (4*k+1) (eF a b c d):=(fc (jG e h) (jG f g)).le om_
def oX (c0 c1 c2:Pt)(z0 z1 z2:Rat):Pt :=
 ((1 / eF (c1.1-c0.1) (c1.2-c0.2) (c2.1-c0.1) (c2.2-c0.2))*eF (z1-z0) (c1.2-c0.2) (z2-z0) (c2.2-c0.2),
 (1 / eF (c1.1-c0.1) (c1.2-c0.2) (c2.1-c0.1) (c2.2-c0.2))*eF (c1.1-c0.1) (z1-z0) (c2.1-c0.1) (z2-z0))
def dQ (pts:List Pt)(fs:List Rat)(t:Tri):Pt:=oX (cor pts t 0) (cor pts t 1) (cor pts t 2) (fz fs t 0) (fz fs t 1) (fz fs t 2)
theorem NA (a:MeshOk pts tris)(b:fs.length=pts.length)(c:∀ q∈fs,QB k q)(d:t∈tris)(j:Nat):QB k (fz fs t j) :=
 c _ (QF (G8 (b ▸ eW (a.ins t d) j)))
theorem vU (d:MeshOk pts tris)(g:fs.length=pts.length)(h:∀ q∈fs,QB k q)(e:t∈tris):QP (8*k+39) (dQ pts fs t):=by
 have a:=fun j=>nF d e j;have f:=fun j=>NA d g h e j;have b:∀ i j,QB 3 ((cor pts t i).1-(cor pts t j).1):=fun i j=>(fc (a i).1 (a j).1).le dc_;have hy:∀ i j,QB 3 ((cor pts t i).2-(cor pts t j).2):=fun i j=>(fc (a i).2 (a j).2).le dc_;have c:∀ i j,QB (2*k+1) (fz fs t i-fz fs t j):=fun i j=>(fc (f i) (f j)).le om_;have hm:QB 13 (eF ((cor pts t 1).1-(cor pts t 0).1) ((cor pts t 1).2-(cor pts t 0).2) ((cor pts t 2).1-(cor pts t 0).1) ((cor pts t 2).2-(cor pts t 0).2)):=(kr (k:=3) (b 1 0) (hy 1 0) (b 2 0) (hy 2 0)).le dc_;have l:eF ((cor pts t 1).1-(cor pts t 0).1) ((cor pts t 1).2-(cor pts t 0).2) ((cor pts t 2).1-(cor pts t 0).1) ((cor pts t 2).2-(cor pts t 0).2)≠0:=jY d e;have h1:QB 26 _:=(mC (k:=13) (QB_one.le dc_) hm l).le dc_;have m:QB (4*(2*k+3)+1) (eF (fz fs t 1-fz fs t 0) ((cor pts t 1).2-(cor pts t 0).2) (fz fs t 2-fz fs t 0) ((cor pts t 2).2-(cor pts t 0).2)):=kr (k:=2*k+3) ((c 1 0).le om_) ((hy 1 0).le om_) ((c 2 0).le om_) ((hy 2 0).le om_);have n:QB (4*(2*k+3)+1) (eF ((cor pts t 1).1-(cor pts t 0).1) (fz fs t 1-fz fs t 0) ((cor pts t 2).1-(cor pts t 0).1) (fz fs t 2-fz fs t 0)):=kr (k:=2*k+3) ((b 1 0).le om_) ((c 1 0).le om_) ((b 2 0).le om_) ((c 2 0).le om_);exact ⟨(jG h1 m).le om_,(jG h1 n).le om_⟩
theorem xk (C:Mem)(d:Tabs C)(r s:Value)(a:List Pt)(n:List Tri)(b:List Rat)(k:Nat)(u:0<k)(K:k<=100)(v:MeshIn C r a n)(o:MeshOk a n)(D:Sl C 1 s (b.map fe))(w:b.length=a.length)(E:∀ q∈b,QB k q)(i:Nat)(t:Tri)(x:n[i]?=some t) :
  Gives cx.P 276 [r,s,.int .i64 i] C (ptV (dQ a b t)):=by
 have p:=QF x;have F:=v;obtain ⟨L,M,rfl,h1,h2⟩:=id v.ex;have e:=fun j=>nF o p j;have m:=fun j=>NA o w E p j;have g:∀ i j,QB 3 ((cor a t i).1-(cor a t j).1):=fun i j=>(fc (e i).1 (e j).1).le dc_;have hy:∀ i j,QB 3 ((cor a t i).2-(cor a t j).2):=fun i j=>(fc (e i).2 (e j).2).le dc_;have l:∀ i j,QB (2*k+1) (fz b t i-fz b t j):=fun i j=>(fc (m i) (m j)).le om_;have y:QB 13 (eF ((cor a t 1).1-(cor a t 0).1) ((cor a t 1).2-(cor a t 0).2) ((cor a t 2).1-(cor a t 0).1) ((cor a t 2).2-(cor a t 0).2)):=(kr (k:=3) (g 1 0) (hy 1 0) (g 2 0) (hy 2 0)).le dc_;have z:eF ((cor a t 1).1-(cor a t 0).1) ((cor a t 1).2-(cor a t 0).2) ((cor a t 2).1-(cor a t 0).1) ((cor a t 2).2-(cor a t 0).2)≠0:=jY o p;have A:QB 26 (1 / eF ((cor a t 1).1-(cor a t 0).1) ((cor a t 1).2-(cor a t 0).2) ((cor a t 2).1-(cor a t 0).1) ((cor a t 2).2-(cor a t 0).2)):=(mC (k:=13) (QB_one.le dc_) y z).le dc_;have H:QB (8*k+26) (eF (fz b t 1-fz b t 0) ((cor a t 1).2-(cor a t 0).2) (fz b t 2-fz b t 0) ((cor a t 2).2-(cor a t 0).2)):=(kr (k:=2*k+3) ((l 1 0).le om_) ((hy 1 0).le om_) ((l 2 0).le om_) ((hy 2 0).le om_)).le om_;have I:QB (8*k+26) (eF ((cor a t 1).1-(cor a t 0).1) (fz b t 1-fz b t 0) ((cor a t 2).1-(cor a t 0).1) (fz b t 2-fz b t 0)):=(kr (k:=2*k+3) ((g 1 0).le om_) ((l 1 0).le om_) ((g 2 0).le om_) ((l 2 0).le om_)).le om_;refine Uv func276 98 U3 fun w0=>?_;refine Uq fun R c=>?_;refine UF U6 (fun N=>?_);refine UH U5 (fun O=>?_);refine Ur [1,2,3,6] c Z ?_;refine Uq fun R c=>?_;refine Uu ae U9 ?_;refine Us 2 Z ?_;refine Uy (ze _ _ _ a n b F.m_ o D.m_ w i t x) U7 ?_;refine UH U5 (fun Q=>?_);refine Ux (j:=0) U12 ?_;refine Ur [6,7] c Z ?_;refine G.freeze 0 Z (fun J _ f=>?_);refine UJ [0,1,2,3,4,5,6,7,8,9,10,11,12,13,14,15,16,17,18,19] [(8,1),(17,1)] Z kr_ (fun R B c=>?_);refine UL (3) U9 ag U2 ?_;refine Us 2 Z ?_;refine Un (bkT f 1) U8 ?_;refine UL (0) U9 ag U2 ?_;refine Us 2 Z ?_;refine Un (bkT f 1) U8 ?_;refine UK (fun _=>(ep _ d.m_ (cor a t 1).1 (cor a t 0).1 1 dc_ dc_ (e 1).1 (e 0).1)) U9 ?_;refine UL (3) U9 ag U2 ?_;refine Us 2 Z ?_;refine Un (bkT f 1) U8 ?_;refine UL (0) U9 ag U2 ?_;refine Us 2 Z ?_;refine Un (bkT f 1) U8 ?_;refine UK (fun _=>(ep _ d.m_ (cor a t 1).2 (cor a t 0).2 1 dc_ dc_ (e 1).2 (e 0).2)) U9 ?_;refine C4 2 [6,7,8,9] c Z ?_;refine UJ [0,1,2,3,4,5,6,7,8,9,10,11,12,13,14,15,16,17,18,19] [(8,1),(17,1)] Z kr_ (fun R B c=>?_);refine UL (6) U9 ag U2 ?_;refine Us 2 Z ?_;refine Un (bkT f 1) U8 ?_;refine UL (0) U9 ag U2 ?_;refine Us 2 Z ?_;refine Un (bkT f 1) U8 ?_;refine UK (fun _=>(ep _ d.m_ (cor a t 2).1 (cor a t 0).1 1 dc_ dc_ (e 2).1 (e 0).1)) U9 ?_;refine UL (6) U9 ag U2 ?_;refine Us 2 Z ?_;refine Un (bkT f 1) U8 ?_;refine UL (0) U9 ag U2 ?_;refine Us 2 Z ?_;refine Un (bkT f 1) U8 ?_;refine UK (fun _=>(ep _ d.m_ (cor a t 2).2 (cor a t 0).2 1 dc_ dc_ (e 2).2 (e 0).2)) U9 ?_;refine C4 2 [6,7,8,9,10,11] c Z ?_;refine UJ [0,1,2,3,4,5,6,7,8,9,10,11,12,13,14,15] [(6,1),(13,1)] Z kr_ (fun R B c=>?_);refine UL (3) U9 ag U2 ?_;refine Up U6 ?_;refine Un (bkT f 1) U8 ?_;refine UL (0) U9 ag U2 ?_;refine Up U6 ?_;refine Un (bkT f 1) U8 ?_;refine UK (fun _=>(ep _ d.m_ (fz b t 1) (fz b t 0) k u om_ (m 1) (m 0))) U9 ?_;refine UL (6) U9 ag U2 ?_;refine Up U6 ?_;refine Un (bkT f 1) U8 ?_;refine UL (0) U9 ag U2 ?_;refine Up U6 ?_;refine Un (bkT f 1) U8 ?_;refine UK (fun _=>(ep _ d.m_ (fz b t 2) (fz b t 0) k u om_ (m 2) (m 0))) U9 ?_;refine C4 2 [6,8,9,10,11,12,13] c Z ?_;refine Ul 1 [6,8,9,10,11,12,13,14] Z ?_;refine Um 5 Z fun R c=>?_;refine UC (qu _ d.m_ _ _ _ _ 3 dc_ dc_ (g 1 0) (hy 1 0) (g 2 0) (hy 2 0)) U7 fl_ ?_;refine UC (by have h:=jh J d.m_ 1 _ 13 dc_ dc_ (QB_one.le dc_) y z;rw [dD] at h;exact h) U7 fl_ ?_;refine C4 5 [6,8,9,10,11,12,13,14,15] c Z ?_;refine Um 6 Z fun R c=>?_;refine UC (qu _ d.m_ (fz b t 1-fz b t 0) ((cor a t 1).2-(cor a t 0).2) (fz b t 2-fz b t 0) ((cor a t 2).2-(cor a t 0).2) (2*k+3) om_ om_ ((l 1 0).le om_) ((hy 1 0).le om_) ((l 2 0).le om_) ((hy 2 0).le om_)) U7 fl_ ?_;refine UC (dB _ d.m_ _ _ (8*k+26) om_ om_ (A.le om_) H) U7 fl_ ?_;refine Us 6 Z ?_;refine UC (qu _ d.m_ ((cor a t 1).1-(cor a t 0).1) (fz b t 1-fz b t 0) ((cor a t 2).1-(cor a t 0).1) (fz b t 2-fz b t 0) (2*k+3) om_ om_ ((g 1 0).le om_) ((l 1 0).le om_) ((g 2 0).le om_) ((l 2 0).le om_)) U7 fl_ ?_;refine UC (dB _ d.m_ _ _ (8*k+26) om_ om_ (A.le om_) I) U7 fl_ ?_;refine UG (gw (dQ a b t)) U8 ?_;refine Ux (j:=0) U12 ?_;refine Ur [6] c Z ?_;refine Uz (Vi af U4 ?_);exact ⟨Z,Z⟩
def If (l:List Rat):Rat:=l.foldl (·+·) 0
theorem E5 (l:List Rat)(q:Rat):If (l++[q])=If l+q:=by unfold If;rw [List.foldl_append];rfl
theorem ME (C:Mem)(g:Tabs C)(v:Value)(l:List Rat)(k:Nat)(h:0<k)(j:k<=10000)(b:Sl C 1 v (l.map fe))(n:∀ q∈l,QB k q)(o:∀ i,QB k (If (l.take i))) :
  Gives cx.P 312 [v] C (ai (qtx (If l))):=by
 obtain ⟨p,c0,rfl,r,z,_⟩:=id b;have A:maxLen<=9223372036854775807:=by simp [maxLen]
 simp only [aw] at b r ⊢;refine Uv func312 17 U3 fun w0=>Ul 1 [0] Z<|Ul 1 [0,3] Z<|Ul 3 [3,6,7,8] Z<|G.loop (fun fr C' t u=>∃ (i:Nat)(s:Str),(i<=l.length/\s=qtx (If (l.take i)))/\fr=[(3,[],ai s),(6,[],.slice p l.length c0),(7,[],.int .i64 l.length),(8,[],.int .i64 i)]/\t=[]/\u=l.length-i) (hn_ [3,6,7,8] Z) ⟨0,[48],⟨QK _,qtx_zero.symm⟩,Z,Z,Z⟩ (fun fr B D m w x=>?_);obtain ⟨i,s,⟨E,f⟩,rfl,rfl,rfl⟩:=x;refine Ul 1 [3,6,7,8,9] Z<|Uo (fun c=>?_) fun c=>?_
 ·have d:i<l.length:=by simpa using c
  obtain ⟨q,e⟩:∃ q,l[i]?=some q:=⟨l[i],aj d⟩;subst f;refine Uq fun R a=>UD b.m_ U10 om_ (ci e) fl_ fun F y=>Un y U8<|C4 1 [3,5,6,7,8] a Z<|Um 2 Z fun R a=>Uy (ji _ g.m_ (If (l.take i)) q k h j (o i) (n q (QF e))) U7<|C4 1 [3,6,7,8] a Z<|Uq fun R a=>Uw _ U7<|C4 1 [3,6,7,8] a Z<|UA (m':=l.length-(i+1)) om_ w (hn_ [3,6,7,8] Z) ⟨i+1,_,⟨by omega,by rw [Q5,e,R5,E5]⟩,Z,Z,Z⟩
 have d:i=l.length:=by
  have:¬ i<l.length:=by simpa using c
  omega
 exact Ul 2 [2] Z<|Ut U2<|⟨by rw [f,d,QV],Z⟩
def Dz (q:Rat):Value:=if aX (qtx q) then .tuple #[ai (qtx q),.int .i64 0] else .tuple #[ai [],.int .i64 4]
theorem Ha (C:Mem)(b:Tabs C)(q:Rat)(c:(qtx q).length<=999998):Gives cx.P 296 [ai (qtx q)] C (Dz q):=by
 refine Uv func296 8 U3 fun w0=>Ul 2 [0] Z<|Um 1 Z fun R d=>Uy (dY _ b.m_ _ c) U7<|C4 1 [0,6] d Z<|Uo (fun a=>?_) fun a=>?_
 ·have e:aX (qtx q)=false:=by
   rcases gZ (aX (qtx q)) with ⟨h1,h2⟩ | ⟨h1,h2⟩
   ·rw [h1] at a;exact absurd a dc_
   exact h2
  refine Ul 2 [2,3] Z<|Uz (G.dropAll (UO U3 ?_));exact ⟨by unfold Dz;rw [e];rfl,Z⟩
 have f:aX (qtx q)=true:=by
  rcases gZ (aX (qtx q)) with ⟨h1,h2⟩ | ⟨h1,h2⟩
  ·exact h2
  rw [h1] at a;exact absurd a dc_
 refine Ul 3 [2,3] Z<|Uz (G.dropAll (UO U3 ?_));exact ⟨by unfold Dz;rw [f];rfl,Z⟩
def onQ (pts:List Pt)(fs:List Rat)(t:Tri)(p:Pt):Rat:=If [fz fs t 0,(dQ pts fs t).1*(p.1-(cor pts t 0).1),(dQ pts fs t).2*(p.2-(cor pts t 0).2)]
theorem LC (n:k<=23)(a:MeshOk pts tris)(c:fs.length=pts.length)(d:∀ q∈fs,QB k q)(b:t∈tris)(e:QP 23 p):QB 600 (onQ pts fs t p)/\(∀ i,QB 600 (If ([fz fs t 0,(dQ pts fs t).1*(p.1-(cor pts t 0).1),(dQ pts fs t).2*(p.2-(cor pts t 0).2)].take i)))/\QB 600 (fz fs t 0)/\QB 600 ((dQ pts fs t).1*(p.1-(cor pts t 0).1))/\QB 600 ((dQ pts fs t).2*(p.2-(cor pts t 0).2)):=by
 have hs:=vU a c d b;have f:=nF a b 0;have g:=NA a c d b 0;have h1:QB 248 ((dQ pts fs t).1*(p.1-(cor pts t 0).1)):=(jG hs.1 (fc e.1 f.1)).le om_;have h2:QB 248 ((dQ pts fs t).2*(p.2-(cor pts t 0).2)):=(jG hs.2 (fc e.2 f.2)).le om_;have h:QB 25 (0+fz fs t 0):=(vj QB_zero g).le om_;have j:QB 274 (0+fz fs t 0+(dQ pts fs t).1*(p.1-(cor pts t 0).1)):=(vj h h1).le om_;have l:QB 523 (0+fz fs t 0+(dQ pts fs t).1*(p.1-(cor pts t 0).1)+(dQ pts fs t).2*(p.2-(cor pts t 0).2)):=(vj j h2).le om_;refine ⟨l.le dc_,fun i=>?_,g.le om_,h1.le dc_,h2.le dc_⟩;rcases (by omega:i=0∨i=1∨i=2∨3<=i) with rfl | rfl | rfl | m
 ·exact QB_zero.le dc_
 ·exact h.le dc_
 ·exact j.le dc_
 rw [Rr (by simpa using m)];exact l.le dc_
theorem Mp (e:QB k a)(f:QB k b)(g:QB k c):∀ q∈[a,b,c],QB k q:=by
 intro q d;simp only [QU,RV,S9] at d;rcases d with rfl | rfl | rfl <;> assumption
theorem Qk (C:Mem)(d:Tabs C)(u v:Value)(a:List Pt)(g:List Tri)(c:List Rat)(k:Nat)(E:0<k)(F:k<=23)(w:MeshIn C u a g)(e:MeshOk a g)(h:Sl C 1 v (c.map fe))(l:c.length=a.length)(r:∀ q∈c,QB k q)(i:Nat)(t:Tri)(m:g[i]?=some t)(p:Pt)(f:QP 23 p) :
  Gives cx.P 297 [u,v,.int .i64 i,ptV p] C (ai (qtx (onQ a c t p))):=by
 have n:=QF m;have x:=e.ins t n;have y:=w;have z:=h;obtain ⟨X,Y,rfl,h1,h2⟩:=id w.ex;obtain ⟨A1,c1,rfl,H,aa,_⟩:=id h1;obtain ⟨A2,c2,rfl,I,ab,_⟩:=id h2;obtain ⟨A4,c4,rfl,ac,ad,_⟩:=id h;have ae:maxLen<=9223372036854775807:=by simp [maxLen]
 simp only [aw] at h1 h2 h z y H I ⊢;have af:=(aE.1 m).1;have o:=nF e n 0;obtain ⟨ag,J,K,L,M⟩:=LC F e l r n f;have hs:=vU e l r n;have N:QB 25 (p.1-(cor a t 0).1):=(fc f.1 o.1).le dc_;have O:QB 25 (p.2-(cor a t 0).2):=(fc f.2 o.2).le dc_;refine Uv func297 49 U3 fun w0=>Uq fun R b=>UF U6 fun b4=>UF U6 fun b7=>C4 1 [1,2,4,7] b Z<|G.freeze 1 Z fun _ _ s=>Uq fun R b=>Un (PtrTo.block (Mem.get s mup) _) U8<|Us 2 Z<|UC (xk _ d.m_ _ _ a g c k E om_ y.m_ e z.m_ l r i t m) U7 fl_<|UH U5 fun b9=>Ux (j:=0) U12<|Ur [1,2,4,7,9] b Z<|Um 1 Z fun R b=>Un (PtrTo.block (Mem.get s mup) _) U8<|Up U6<|UD h2.m_ U10 om_ (ci m) fl_ fun ah Q=>VX U9 (fun _=>Q) (fun _=>⟨by omega,om_⟩) fl_ Z (fun aj S=>?_);have T:=S trivial;exact Un T U8<|C4 1 [1,4,7,9,10] b Z<|Um 1 Z fun R b=>Un (PtrTo.block (Mem.get s mup) _) U8<|Up U6<|UD h1.m_ U10 om_ (ci (pC x.1)) fl_ fun ak U=>Un U U8<|UH U5 fun al=>Ux (j:=0) U12<|Ur [1,7,9,10,11] b Z<|G.freeze 0 Z fun _ _ A=>G.freeze 0 Z fun _ _ B=>G.freeze 0 Z fun _ _ D=>UJ [0,1,2,3,4,5,6,7,8,9,10,11,12,13,14,15,16,17,18,19,20,21,22] [(10,1),(11,1),(18,1),(19,1),(21,1)] Z kr_ fun R hB b=>Us 2 Z<|UD h.m_ U10 om_ (ci (G8 (l ▸ x.1))) fl_ fun am V=>Un V U8<|Up U6<|Un (bkT B 1) U8<|Up U6<|Un (bkT D 1) U8<|Up U6<|Un (bkT A 1) U8<|UK (fun _=>(ep _ d.m_ p.1 (cor a t 0).1 23 dc_ dc_ f.1 (o.1.le dc_))) U9<|UK (fun _=>(dB _ d.m_ _ _ 300 dc_ dc_ (hs.1.le om_) (N.le dc_))) U9<|Up U6<|Un (bkT B 1) U8<|Up U6<|Un (bkT D 1) U8<|Up U6<|Un (bkT A 1) U8<|UK (fun _=>(ep _ d.m_ p.2 (cor a t 0).2 23 dc_ dc_ f.2 (o.2.le dc_))) U9<|UK (fun _=>(dB _ d.m_ _ _ 300 dc_ dc_ (hs.2.le om_) (O.le dc_))) U9<|UI ([fz c t 0,(dQ a c t).1*(p.1-(cor a t 0).1),(dQ a c t).2*(p.2-(cor a t 0).2)].map fe) U12 fun an _ _ W=>UK (fun _=>(ME _ d.m_ _ _ 600 dc_ dc_ W.m_ (Mp K L M) J)) U9<|C4 1 [8] b Z<|Ut U2<|⟨Z,Z⟩
def EP (pts:List Pt)(tris:List Tri)(fs:List Rat)(p:Pt):Value:=match lS pts tris p with
 | []=>.tuple #[ai [],.int .i64 28]
 | i::_=>Dz (onQ pts fs (tris.getD i (0,0,0)) p)
theorem xP (h:∀ q∈fs,aX (qtx q)=true):(fs.map qtx).all aX=true:=by
 rw [Q4];intro s hs;obtain ⟨q,a,rfl⟩:=QO.1 hs;exact h q a
theorem zh (a:List Rat):a.map fe=(a.map qtx).map nP:=by rw [Ry];rfl
theorem wu (b:k<=100)(h:∀ q∈fs,QB k q):∀ s∈fs.map qtx,s.length<=999998:=by
 intro s hs;obtain ⟨q,a,rfl⟩:=QO.1 hs;have:=bG ((h q a).le (Ta k)) om_;omega
theorem xD (C:Mem)(i:Tabs C)(c v d:Value)(b:List Pt)(f:List Tri)(a:List Rat)(j:MeshIn C c b f)(l:Good b f)(m:Sl C 1 v [[d]])(g:Sl C 1 d (a.map fe))(n:a.length=b.length)(r:k<=23)(o:∀ q∈a,QB k q)(p:∀ q∈a,aX (qtx q)=true) :
  Gives cx.P 103 [c,v] C (.int .i64 0):=by
 rw [zh] at g;have h:=xE C i c v d b f (a.map qtx) j l m g (wu om_ o);have e:BZ b.length (a.map qtx)=0:=by unfold BZ;rw [aJ (by simpa using n),xP p];rfl
 rwa [e] at h
theorem Pg (h:i∈lS pts tris p):∃ t,tris[i]?=some t/\tris.getD i (0,0,0)=t/\yO pts p t=true:=by
 unfold lS at h;rw [SH,Q2] at h;obtain ⟨h1,h2⟩:=h;obtain ⟨t,a⟩:∃ t,tris[i]?=some t:=⟨tris[i],aj h1⟩;have b:tris.getD i (0,0,0)=t:=by rw [al,a,R0]
 rw [b] at h2;exact ⟨t,a,b,h2⟩
theorem O8 (h:QB 600 q):(qtx q).length<=999998:=Q0 (bG h dc_) dc_
theorem Ix (C:Mem)(e:Tabs C)(x y:Value)(a:List Pt)(c:List Tri)(b:List Rat)(k:Nat)(I:0<k)(j:k<=23)(z:MeshIn C x a c)(l:Good a c)(f:Sl C 1 y (b.map fe))(m:b.length=a.length)(n:∀ q∈b,QB k q)(J:∀ q∈b,aX (qtx q)=true)(p:Pt)(o:QP 23 p)(K:PtR p) :
  Gives cx.P 275 [x,y,ptV p] C (EP a c b p):=by
 have A:=l.ok;have s:=z;obtain ⟨X,Y,rfl,h1,h2⟩:=id z.ex;obtain ⟨L,M,rfl,aa,ab,_⟩:=id f;simp only [aw] at f ⊢;have ac:maxLen<=9223372036854775807:=by simp [maxLen]
 refine Uv func275 40 U3 fun w0=>Uq fun R d=>UF U6 fun b3=>UF U6 fun b5=>C4 2 [1,3,5] d Z<|G.freeze 1 Z fun _ _ u=>G.freeze 0 Z fun _ _ B=>Uq fun R d=>Un (PtrTo.block (Mem.get u mup) _) U8<|Up U6<|UI [[.slice L b.length M]] U12 fun ad _ _ N=>Uy (xD _ e.m_ _ _ _ a c b s.m_ l N.m_ f.m_ m j n J) U7<|C4 1 [1,3,5,8] d Z<|Ul 2 [1,3,5,8,16] Z<|Uo (fun D=>?_) fun D=>?_
 ·exact absurd D dc_
 refine Uq fun R d=>Un (PtrTo.block (Mem.get u mup) _) U8<|Un (PtrTo.block (Mem.get B mup) _) U8<|UV (pV _ e.m_ _ a c p s.m_ l o K) U7 (fun ae _ _ O=>?_);obtain ⟨wv,rfl,v⟩:=O;obtain ⟨Aw,cw,E,_⟩:=id v;rw [aw] at E;subst E;refine C4 5 [1,3,5,9,10] d Z<|Ul 2 [1,3,5,9,10,25] Z<|Uo (fun F=>?_) fun F=>?_
 ·exact absurd F dc_
 refine Ul 3 [1,3,5,9,29] Z<|Uo (fun g=>?_) fun g=>?_
 ·have Q:lS a c p=[]:=by
   have h:(((lS a c p).length:Nat):Int)=0:=by simpa using g
   exact Rn om_
  refine Ul 2 [6,7] Z<|Uz (G.dropAll (UO U3 ?_));exact ⟨by unfold EP;rw [Q];rfl,Z⟩
 obtain ⟨i,r,w⟩:∃ i r,lS a c p=i::r:=by
  cases S:lS a c p with
  | nil=>rw [S] at g;exact absurd g dc_
  | cons i r=>exact ⟨i,r,rfl⟩
 obtain ⟨t,H,T,_⟩:=Pg (pts:=a) (tris:=c) (p:=p) (i:=i) (by rw [w];simp);have U:=LC j A m n (QF H) o;have V:EP a c b p=Dz (onQ a b t p):=by unfold EP;rw [w];show Dz (onQ a b (c.getD i (0,0,0)) p)=_;rw [T]
 rw [w] at v ⊢;refine UJ [0,1,2,3,4,5,6,7,8,9,10,11] [(6,1),(7,1)] Z kr_ fun R hB d=>Un (PtrTo.block (Mem.get u mup) _) U8<|Us 2 Z<|UD v.m_ U10 om_ (rfl:(List.map aL (i::r))[0]?=some (aL i)) fl_ fun af W=>Un W U8<|Un (PtrTo.block (Mem.get B mup) _) U8<|UU (fun _=>(Qk _ e.m_ _ _ a c b k I j s.m_ A f.m_ m n i t H p o)) U9<|UU (fun _=>(Ha _ e.m_ _ (O8 U.1))) U9 ?_;rw [show Dz (onQ a b t p)=.tuple #[if aX (qtx (onQ a b t p)) then ai (qtx (onQ a b t p)) else ai [],.int .i64 (if aX (qtx (onQ a b t p)) then 0 else 4)] by unfold Dz;split <;> rfl];refine C4 4 [6,7] d Z<|Uz (G.dropAll (UO U3 ?_));refine ⟨?_,Z⟩;rw [V];unfold Dz;split <;> rfl
theorem OZ (h:QP 22 p):PtR p:=⟨bQ h.1,bQ h.2⟩
theorem tU (C:Mem)(f:Tabs C)(l m:Value)(c:List Pt)(d:List Tri)(b:List Rat)(k:Nat)(z:0<k)(A:k<=23)(n:MeshIn C l c d)(o:Good c d)(e:Sl C 1 m (b.map fe))(p:b.length=c.length)(r:∀ q∈b,QB k q)(B:∀ q∈b,aX (qtx q)=true)(i:Nat)(t:Tri)(s:d[i]?=some t)(u:QP 22 (dQ c b t)) :
  Gives cx.P 244 [l,m,.int .i64 i] C (.tuple #[ptV (dQ c b t),.int .i64 0]):=by
 have D:=o.ok;have g:=n;have I:=(aE.1 s).1;obtain ⟨J,K,rfl,h1,h2⟩:=id n.ex;obtain ⟨A2,c2,rfl,L,M,_⟩:=id h2;obtain ⟨E,F,rfl,N,O,_⟩:=id e;simp only [aw] at e h2 g ⊢;have Q:maxLen<=9223372036854775807:=by simp [maxLen]
 refine Uv func244 37 U3 fun w0=>Uq fun R a=>UF U6 fun S=>UH U5 fun T=>C4 1 [1,2,3,6] a Z<|G.freeze 1 Z fun _ _ h=>Uq fun R a=>Un (PtrTo.block (Mem.get h mup) _) U8<|Up U6<|UI [[.slice E b.length F]] U12 fun U _ _ H=>Uy (xD _ f.m_ _ _ _ c d b g.m_ o H.m_ e.m_ p A r B) U7<|C4 1 [1,2,3,6,8] a Z<|Ul 2 [1,2,3,6,8,15] Z<|Uo (fun v=>?_) fun v=>?_
 ·exact absurd v dc_
 refine Um 5 Z fun R a=>UQ U6 (fun _=>PtrTo.block (Mem.get h mup) _) U3<|Us 2 Z<|US U8<|Ur [1,2,3,6,26] a Z<|Uo (fun w=>?_) fun w=>?_
 ·exfalso;simp only [Sr,QQ] at w;omega
 refine Uq fun R a=>Un (PtrTo.block (Mem.get h mup) _) U8<|Us 2 Z<|UC (xk _ f.m_ _ _ c d b k z om_ g.m_ D e.m_ p r i t s) U7 fl_<|UH U5 fun V=>Ux (j:=0) U12<|Ur [6,9] a Z<|G.freeze 0 Z fun _ _ x=>Uq fun R a=>Un (PtrTo.block (Mem.get x mup) _) U8<|UC (iF _ f.m_ _ (u.le dc_) (OZ u)) U7 fl_<|C4 1 [6,9,34] a Z<|Uo (fun y=>?_) fun y=>?_
 ·exact absurd y dc_
 refine Uq fun R a=>Un (PtrTo.block (Mem.get x mup) _) U8<|Ux (j:=0) U12<|C4 1 [6,7] a Z<|Uz (Vw af U5 ?_);exact ⟨Z,Z⟩
def kA {α:Type}(p:α->Bool):List α->Nat->Int
 | [],_=>-1
 | x::l,k=>if p x then (k:Nat) else kA p l (k+1)
theorem om {a:Type}{p:a->Bool}:∀ {l:List a}{i k:Nat}{x:a},l[i]?=some x->p x=true->(∀ y∈l.take i,p y=false)->kA p l k=((k+i:Nat):Int)
 | y::l,0,k,x,h,b,_=>by
  simp only [List.getElem?_cons_zero,Rc] at h;subst h;simp [kA,b]
 | y::l,i+1,k,x,h,b,c=>by
  simp only [SP] at h;have hy:p y=false:=c y am;have:=om (k:=k+1) h b (fun z d=>c z (by simp [d]));simp only [kA,hy,Rx,RU,this];omega
theorem lX {a:Type}{p:a->Bool}:∀ {l:List a}{k:Nat},(∀ y∈l,p y=false)->kA p l k=-1
 | [],_,_=>rfl
 | y::l,k,h=>by
  simp only [kA,h y PN,Rx,RU];exact lX fun z b=>h z (QR _ b)
theorem mY (p:α->Bool)(l:List α):(kA p l 0=-1/\∀ y∈l,p y=false)∨∃ (i:Nat)(x:α),kA p l 0=(i:Nat)/\l[i]?=some x/\p x=true/\∀ y∈l.take i,p y=false:=by
 by_cases h:∀ y∈l,p y=false
 ·exact .inl ⟨lX h,h⟩
 right;have d:∀ (l:List α),(¬ ∀ y∈l,p y=false)->∃ (i:Nat)(x:α),l[i]?=some x/\p x=true/\∀ y∈l.take i,p y=false:=by
  intro l;induction l with
  | nil=>intro h;exact absurd (fun y hy=>(by cases hy)) h
  | cons a l e =>
   intro h;by_cases b:p a=true
   ·exact ⟨0,a,Z,b,by simp⟩
   have c:p a=false:=by simpa using b
   obtain ⟨i,x,h1,h2,h3⟩:=e (fun h2=>h (fun y hy=>by
    rcases QU.1 hy with rfl | hy
    ·exact c
    exact h2 y hy))
   refine ⟨i+1,x,by simpa using h1,h2,fun y hy=>?_⟩;rw [List.take_succ_cons] at hy;rcases QU.1 hy with rfl | hy
   ·exact c
   exact h3 y hy
 obtain ⟨i,x,h1,h2,h3⟩:=d l h;exact ⟨i,x,by rw [om h1 h2 h3,RR],h1,h2,h3⟩
structure Lay where
 unit:Str
 min:Rat
 max:Option Rat
def vx:Option Rat->Str
 | none=>[]
 | some q=>qtx q
def zj (x:Lay):List Value:=[ai x.unit,ai (qtx x.min),ai (vx x.max)]
def isU (u:Str)(x:Lay):Bool:=decide (x.unit=u)
def Oj (x:Lay):Prop:=QB 22 x.min/\(∀ q,x.max=some q->QB 22 q)/\x.unit.length<=999998
theorem pL (m:Option Rat):(!((⟨(vx m).toArray⟩:ByteArray).data.toList == (⟨#[]⟩:ByteArray).data.toList))=m.isSome:=by
 cases m with
 | none=>rfl
 | some q =>
  have:=FO q;show (!(qtx q == []))=true;cases h:qtx q with
  | nil=>rw [h] at this;simp at this
  | cons a l=>rfl
theorem lW (C:Mem)(v:Value)(l:List Lay)(g:Nat)(d:List Value)(a:Lay->Bool)(e:Sl C 3 v (l.map zj))(_A:Jog.Enters cx.P g=true)
  (n:∀ x∈l,∀ D:Mem,C.le D->Gives cx.P g (.agg ⟨zj x⟩::d) D (.bool (a x))) :
  Gives cx.P 159 [v,.func (.func g) #[] ⟨d⟩] C (.int .i64 (kA a l 0)):=by
 obtain ⟨o,c0,rfl,p,B,_⟩:=id e;have E:maxLen<=9223372036854775807:=by simp [maxLen]
 simp only [aw] at e p ⊢;refine Uv func159 19 U3 fun w0=>Ul 1 [0,1] Z<|Ul 3 [0,1,7,8] Z<|G.loop (fun fr C' q r=>∃ (i:Nat),(i<=l.length/\∀ y∈l.take i,a y=false)/\fr=[(0,[],.slice o l.length c0),(1,[],.func (.func g) #[] ⟨d⟩),(7,[],.int .i64 l.length),(8,[],.int .i64 i)]/\q=[]/\r=l.length-i) (hn_ [0,1,7,8] Z) ⟨0,⟨QK _,by simp⟩,Z,Z,Z⟩ (fun fr F H m s t=>?_);obtain ⟨i,⟨I,b⟩,rfl,rfl,rfl⟩:=t;refine Ul 1 [0,1,7,8,9] Z<|Uo (fun f=>?_) fun f=>?_
 ·have h:i<l.length:=by simpa using f
  obtain ⟨x,c⟩:∃ x,l[i]?=some x:=⟨l[i],aj h⟩;refine Ul 2 [0,1,5,7,8] Z<|Um 3 Z fun R j=>UD e.m_ U10 om_ (ci c) fl_ fun J u=>Un u U8<|Uy (n x (QF c) _ mup) U7<|Ur [0,1,5,7,8,16] j Z<|Uo (fun k=>?_) fun k=>?_
  ·have w:a x=true:=k;exact Ul 2 [4] Z<|Ut U2<|⟨by rw [om c w b,RR],Z⟩
  have z:a x=false:=k;refine Uq fun R j=>Uw _ U7<|C4 1 [0,1,7,8] j Z<|UA (m':=l.length-(i+1)) om_ s (hn_ [0,1,7,8] Z) ⟨i+1,⟨by omega,fun y hy=>by
   rw [Q5,c] at hy;rcases QX.1 hy with hy | hy
   ·exact b y hy
   simp only [R5,Q3] at hy;subst hy;exact z⟩,Z,Z,Z⟩
 have h:i=l.length:=by
  have:¬ i<l.length:=by simpa using f
  omega
 exact Ul 1 [4] Z<|Ut U2<|⟨by rw [h,QV] at b;rw [lX b],Z⟩
theorem IM (a b:Str):((⟨a.toArray⟩:ByteArray).data.toList == (⟨b.toArray⟩:ByteArray).data.toList)=decide (a=b):=by
 show (a == b)=_;by_cases h:a=b <;> simp [h]
theorem HF (C:Mem)(b:Nat)(u:Str)(x:Lay)(c:C b=some (.cells ⟨[ai u]⟩ 9 (0,0))):Gives cx.P 160 [.agg ⟨zj x⟩,.pointer (some ⟨b,0,none⟩)] C (.bool (isU u x)):=by
 exact Uv func160 8 U3 fun w0=>Uq fun R a=>UF U6 fun d=>C4 1 [1,2] a Z<|Um 1 Z fun R a=>Uu af U9<|Un (PtrTo.block (Mem.get c mup) _) U8<|C4 2 [3] a Z<|Ut U2<|⟨by unfold isU;rw [<- IM],Z⟩
theorem zG (C:Mem)(b:Nat)(u:Str)(x:Lay)(c:C b=some (.cells ⟨[ai u]⟩ 9 (0,0))):Gives cx.P 163 [.agg ⟨zj x⟩,.pointer (some ⟨b,0,none⟩)] C (.bool (isU u x)):=by
 exact Uv func163 8 U3 fun w0=>Uq fun R a=>UF U6 fun d=>C4 1 [1,2] a Z<|Um 1 Z fun R a=>Uu af U9<|Un (PtrTo.block (Mem.get c mup) _) U8<|C4 2 [3] a Z<|Ut U2<|⟨by unfold isU;rw [<- IM],Z⟩
theorem Cl (C:Mem)(v:Value)(l:List Lay)(u:Str)(c:Sl C 3 v (l.map zj)):Gives cx.P 106 [v,ai u] C (.int .i64 (kA (isU u) l 0)):=by
 exact Uv func106 8 U3 fun w0=>Uq fun R a=>UF U6 fun b=>C4 1 [0,3] a Z<|G.freeze 0 Z fun _ _ d=>Um 2 Z fun R a=>Uy (lW _ _ l 160 [.pointer (some ⟨b,0,none⟩)] (isU u) c.m_ Z (fun x _ D e=>HF D b u x (e _ _ (Mem.get d mup)))) U7<|C4 1 [4] a Z<|Ut U2<|⟨Z,Z⟩
theorem kp (C:Mem)(v:Value)(l:List Lay)(u:Str)(c:Sl C 3 v (l.map zj)):Gives cx.P 109 [v,ai u] C (.int .i64 (kA (isU u) l 0)):=by
 exact Uv func109 8 U3 fun w0=>Uq fun R a=>UF U6 fun b=>C4 1 [0,3] a Z<|G.freeze 0 Z fun _ _ d=>Um 2 Z fun R a=>Uy (lW _ _ l 163 [.pointer (some ⟨b,0,none⟩)] (isU u) c.m_ Z (fun x _ D e=>zG D b u x (e _ _ (Mem.get d mup)))) U7<|C4 1 [4] a Z<|Ut U2<|⟨Z,Z⟩
theorem ua (h:QB 22 q):(qtx q).length<=999998:=Q0 (bG h dc_) dc_
theorem Dp (h:QB 22 q):(qtx q).length<=1000000:=Q0 (bG h dc_) dc_
theorem J1 (C:Mem)(d:Tabs C)(x:Lay)(e:Oj x):Gives cx.P 104 [.agg ⟨zj x⟩] C (.int .i64 0):=by
 obtain ⟨u,f,c⟩:=x;obtain ⟨h1,h2,h3⟩:=e;simp only at h1 h2 h3;clear h3;have g:(vx c).length<=999998:=by
  cases c with
  | none=>decide
  | some q=>exact ua (h2 q rfl)
 refine Uv func104 17 U3 fun w0=>Uq fun R a=>UF U6 fun h=>C4 1 [1] a Z<|Um 1 Z fun R a=>Uu af U9<|Uy (dY _ d.m_ (qtx f) (ua h1)) U7<|C4 2 [1,3] a Z<|Uo (fun h3=>?_) fun h3=>?_
 ·exfalso;rw [xC h1] at h3;exact absurd h3 dc_
 refine Um 1 Z fun R a=>Uu af U9<|Us 3 Z<|Uu af U9<|UU (fun _=>(dY _ d.m_ (vx c) g)) U9<|Up U6<|UM U8<|C4 1 [3] a Z<|Uo (fun b=>?_) fun b=>?_
 ·exfalso;simp only [] at b;cases c with
  | none=>exact absurd b dc_
  | some q =>
   rw [show vx (some q)=qtx q from rfl,xC (h2 q rfl)] at b;simp at b
 exact Ul 1 [2] Z<|Ut U2<|⟨Z,Z⟩
end Go.Proofs.YthnpijdjlddpmaaGreatDoor
