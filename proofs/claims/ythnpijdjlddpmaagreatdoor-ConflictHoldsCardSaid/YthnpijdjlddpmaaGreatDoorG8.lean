/- Laws that the proofs of this seat share, part 8. -/
import Derived.Test.YthnpijdjlddpmaaGreatDoorG7
import Derived.Test.YthnpijdjlddpmaaGreatDoorShelf
set_option maxHeartbeats 4000000
namespace Go.Proofs.YthnpijdjlddpmaaGreatDoor
open Go.Proofs.Tryz
open Go Go.Jog
set_option maxRecDepth 100000
variable {C:Mem}{a b c:Rat}{cyc:List Nat}{fs:List Rat}{i k:Nat}{l:List Pt}{m n:Nat}{p:Pt}{pts:List Pt}{q:Rat}{t:Tri}{tris:List Tri}{α:Type}
theorem JF {m:Oi}{s:iL}:(dm m (s.2,s.1)).isSome=!kw (m.map (·.1)) s:=by
 unfold kw OE;rw [Bool.not_not];cases h:dm m (s.2,s.1) with
 | none=>rw [cE] at h;simp [h]
 | some v =>
  have:=S4 (f:=(·.1)) (fW h);simp only [Option.isSome_some];exact (Q0 this).symm
theorem JC (C:Mem)(v1 v2:Value)(b:Nat)(m:Oi)(o:C b=some (aO qt m))(hn:(m.map (·.1)).Nodup)(Q:∀ s∈m.map (·.1),0<=s.1)(aF:m.length<=1000000) :
  Pur cx.P 154 [.agg ⟨[v1,v2]⟩,.map (some b)] C fun u D=>∃ v,u=.tuple #[v,.bool (decide (wH (m.map (·.1))≠[]))]/\Sl D 1 v ((wH (m.map (·.1))).map lZ):=by
 have aG:maxLen<=9223372036854775807:=by simp [maxLen]
 have S:=fun s:iL=>JF (m:=m) (s:=s);obtain ⟨c,K⟩:∃ c,m.map (·.1)=c:=⟨_,rfl⟩;rw [K] at hn Q ⊢;simp only [K] at S;have al:c.length=m.length:=by rw [<- K];simp
 refine Uv func154 93 U3 fun w0=>Ur fun R d=>UG U6 fun b2=>C4 2 [1] d Z<|Ur fun R d=>D.makeMap keyZ Z Z Z Z fl_ fun n=>C4 1 [1,6] d Z<|Um 1 [1,6,7] Z<|Un 1 Z fun R d=>WV kI2.enc (Mem.get o mup) Z Z Z Z Z Z Z fl_ fun F=>Ut [1,6,7,19] d Z<|Vf 2 Z<|G.loop (fun fr C' x T=>∃ (seen:List Nat)(f:Int),(seen.Nodup/\(∀ j∈seen,j<c.length)/\((fe c seen).map (·.1)).Nodup/\lP (fe c seen) f)/\fr=[(1,[],.map (some b)),(6,[],.map (some n)),(7,[],.int .i64 f),(19,[],.pointer (some ⟨F,0,none⟩))]/\x=[.obj F (bA b m.length seen),.obj n (aO keyZ.enc (uj (fe c seen)))]/\T=c.length-seen.length) (hn_ [1,6,7,19] Z) ⟨[], -1,⟨List.nodup_nil,by simp,by simp [fe],.inl ⟨Z,Z⟩⟩,Z,Z,Z⟩ (fun fr aH aI m _ U=>?_);obtain ⟨seen,f,⟨an,ao,L,M⟩,rfl,rfl,rfl⟩:=U;refine Ur fun R d=>WE kI2.enc (q:=0) (Mem.get o mup) Z Z Z Z Z Z fl_ fun ap aK N aq=>C4 1 [1,6,7,19,21] d Z<|Up (fun H=>?_) fun H=>?_
 ·obtain ⟨aL,j,hj,az,rfl⟩:ap=true/\∃ j,j<m.length/\j ∉ seen/\N=seen++[j]:=by
   rcases aq with ⟨h1,_⟩ | h1
   ·rw [h1] at H;cases H
   exact h1
  rw [<- al] at hj;obtain ⟨⟨s,bv⟩,hs⟩:∃ p,m[j]?=some p:=⟨m[j]'om_,aj om_⟩;have ar:c[j]?=some s:=by rw [<- K,QI,hs];rfl
  have I:(seen++[j]).Nodup:=by
   rw [Sw];exact ⟨an,by simp,fun a V b o e=>by rw [Q4.1 o] at e;subst e;exact az V⟩
  have A:∀ i∈seen++[j],i<c.length:=fun i W=>by
   rcases QW.1 W with h | h
   ·exact ao i h
   rw [Q4.1 h];exact hj
  have aM:(seen++[j]).length<=c.length:=by
   have:=List.Nodup.length_le_of_subset I (l₂:=List.range c.length) (fun i W=>QZ.2 (A i W));simpa using this
  have aN:(seen++[j]).length=seen.length+1:=by simp
  have g:=De ar (seen:=seen);have aA:0<=s.1:=Q s (PN ar);refine Ur fun R d=>WY kI2.enc (Mem.get o mup) hs af Z Z Z Z Z Z Z<|Uq U6<|UI U5 fun b8=>Uy (j:=0) U12<|Ut [1,6,7,8,19] d Z<|Un 1 Z fun R d=>UN (1) U9 ag U2<|Uw af U9<|UN (0) U9 ag U2<|Uw af U9<|UH [.int .i64 s.2,.int .i64 s.1] U8<|WF kI2 (fun _=>(Mem.get o mup)) Z Z Z Z Z Z Z Z Z (pO _ (dm m (s.2,s.1))) Z Z<|C4 5 [1,6,7,8,10,19] d Z<|Um 1 [1,6,7,8,19,34] Z<|Up (fun X=>?_) fun X=>?_
  ·have Y:kw c s=false:=by
    have h:(dm m (s.2,s.1)).isSome=true:=X;rw [S] at h;simpa using h
   rw [Y] at g;simp only [Ry,RU,Q8] at g;refine Vf 0 Z<|UF (L':=[.obj F (bA b m.length (seen++[j])),.obj n (aO keyZ.enc (uj (fe c (seen++[j]))))]) (by rw [g];rfl)<|UB (m':=c.length-(seen++[j]).length) om_ mup (hn_ [1,6,7,19] Z) ⟨seen++[j],f,⟨I,A,by rw [g];exact L,by rw [g];exact M⟩,Z,Z,Z⟩
  have Y:kw c s=true:=by
   have h:(dm m (s.2,s.1)).isSome=false:=X;rw [S] at h;simpa using h
  rw [Y] at g;simp only [Su] at g;refine Un 1 Z fun R d=>UN (0) U9 ag U2<|Uw af U9<|VJ keyZ ac Z Z Z Z Z Z Z Z kr_ Z (pO _ (dm (uj (fe c seen)) s.1)) Z Z<|C4 5 [1,6,7,8,12,19] d Z<|Um 1 [1,6,7,8,19,42] Z<|Up (fun aa=>?_) fun aa=>?_
  ·have z:(dm (uj (fe c seen)) s.1).isSome=true:=aa;rw [ib] at z;have ab:EE c=none:=by
    cases l:dm (fe c seen) s.1 with
    | none=>rw [l] at z;cases z
    | some q=>exact Dw (B:=fe c seen) (s:=s) (t:=(s.1,q)) (by rw [<- g];exact yt hn I A) (by rw [<- g];exact Fq A) (fW l) rfl
   have J:wH c=[]:=by unfold wH;rw [ab];rfl
   refine Um 2 [4,5] Z<|UA (G.dropAll (UP U3 ?_));exact ⟨Z,.slice none 0 0,by rw [J];rfl,by rw [J];exact Sl.nil _ _⟩
  have z:(dm (uj (fe c seen)) s.1).isSome=false:=aa;have ad:dm (fe c seen) s.1=none:=by
   rw [ib] at z;cases l:dm (fe c seen) s.1 with
   | none=>rfl
   | some q=>rw [l] at z;cases z
  have au:((fe c (seen++[j])).map (·.1)).Nodup:=by
   rw [g,Rk,Sw];refine ⟨L,by simp,fun a V b o e=>?_⟩;rw [List.map_singleton,Q4] at o;subst o;subst e;exact (cE.1 ad) V
  have O:=pV M s aA;refine Un 1 Z fun R d=>UN (0) U9 ag U2<|Uw af U9<|UN (1) U9 ag U2<|Uw af U9<|D.mapUpdate keyZ (j:=2) Z Z Z Z Z Z Z Z Z Z kr_<|Ut [1,6,7,8,19] d Z<|Un 3 Z fun R d=>UN (0) U9 ag U2<|Uw ae U9<|Us 2 Z<|UU U8<|Ut [1,6,7,8,19,55] d Z<|Up (fun ah=>?_) fun ah=>?_
  ·have ai:f<0∨s.1<f:=by simpa using ah
   rw [aJ ai] at O;refine Ur fun R d=>UN (0) U9 ag U2<|Uw ae U9<|C4 1 [1,6,7,19] d Z<|Vf 1 Z<|G.perm (L':=[.obj F (bA b m.length (seen++[j])),.obj n (aO keyZ.enc (uj (fe c (seen++[j]))))]) (by
    rw [g,<- BB ad];exact List.Perm.swap _ _ _) ?_
   refine UB (m':=c.length-(seen++[j]).length) om_ mup (hn_ [1,6,7,19] Z) ⟨seen++[j],s.1,⟨I,A,au,by rw [g];exact O⟩,Z,Z,Z⟩
  have ai:¬ (f<0∨s.1<f):=by simpa using ah
  rw [aB ai] at O;refine Vf 1 Z<|G.perm (L':=[.obj F (bA b m.length (seen++[j])),.obj n (aO keyZ.enc (uj (fe c (seen++[j]))))]) (by
   rw [g,<- BB ad];exact List.Perm.swap _ _ _) ?_
  refine UB (m':=c.length-(seen++[j]).length) om_ mup (hn_ [1,6,7,19] Z) ⟨seen++[j],f,⟨I,A,au,by rw [g];exact O⟩,Z,Z,Z⟩
 obtain ⟨aP,rfl,av⟩:ap=false/\N=seen/\∀ j,j<m.length->j∈seen:=by
  rcases aq with h1 | ⟨h1,_⟩
  ·exact h1
  rw [h1] at H;cases H
 rw [<- al] at av;have hp:(fe c N).Perm (c.filter (kw c)):=(wc an ao av).filter _;obtain ⟨B,g⟩:∃ B,fe c N=B:=⟨_,rfl⟩;rw [g] at hp L M;have hO:=JD hp L Q M;have aQ:B.length<=c.length:=by rw [hp.length_eq];exact RT _ _
 refine Um 1 [6,7,13] Z<|Um 2 [6,7,13,14] Z<|Vf 0 Z<|G.nilArr 3 1<|UF (L':=[.arr (.slice none 0 0) 3 1 0 [],.obj n (aO keyZ.enc (uj B))]) (by rw [g];rfl)<|G.loop (fun fr C' x T=>∃ (out:List Int)(w:Value)(p:Int),(out.length<=B.length/\iM B f (B.length-out.length) p out=EE c)/\fr=[(6,[],.map (some n)),(7,[],.int .i64 f),(13,[],w),(14,[],.int .i64 p)]/\x=[.arr w 3 1 out.length (out.map (Value.int .i64)),.obj n (aO keyZ.enc (uj B))]/\T=B.length-out.length) (hn_ [6,7,13,14] Z) ⟨[],_,f,⟨QK _,hO.symm⟩,Z,Z,Z⟩ (fun fr aR aS m _ U=>?_);obtain ⟨out,w,p,⟨aT,E⟩,rfl,rfl,rfl⟩:=U;refine Xk af (fun Aw cw hw aV aW aX=>?_);subst hw;refine UO [(3,1)] Z fun R d=>Us 3 Z<|Wn keyZ.enc ae Z Z Z Z Z Z Z Z Z<|C4 1 [6,7,13,14,63] d Z<|Up (fun ak=>?_) fun ak=>?_
 ·have aY:out.length<B.length:=by
   simp only [QR,BC] at ak;omega
  obtain ⟨r,hr⟩:∃ r,B.length-out.length=r+1:=⟨B.length-out.length-1,by omega⟩;rw [hr] at E;refine Un 2 Z fun R d=>VJ keyZ ae Z Z Z Z Z Z Z Z kr_ Z (pO _ (dm (uj B) p)) Z Z<|C4 5 [6,7,13,14,16] d Z<|Un 10 Z fun R d=>UM U8<|UU U8<|Ut [6,7,13,14,84] d Z<|Up (fun k=>?_) fun k=>?_
  ·have ab:EE c=none:=by
    rw [<- E];refine CQ ?_;rw [ib] at k;cases l:dm B p with
    | none=>exact .inl rfl
    | some q =>
     rw [l] at k;simp only [R8,Option.isSome_some,Bool.not_true,Bool.false_or,QU,Sn,QR] at k;exact .inr ⟨k.1,fun e=>by rw [e] at k;simp at k⟩
   have J:wH c=[]:=by unfold wH;rw [ab];rfl
   refine Um 2 [4,5] Z<|UA (G.dropAll (UP U3 ?_));exact ⟨Z,.slice none 0 0,by rw [J];rfl,by rw [J];exact Sl.nil _ _⟩
  obtain ⟨q,l⟩:∃ q,dm B p=some q:=by
   rw [ib] at k;cases l:dm B p with
   | some q=>exact ⟨q,rfl⟩
   | none=>rw [l] at k;simp at k
  have aC:¬ (p=f/\out≠[]):=by
   rintro ⟨e1,e2⟩;rw [ib,l] at k;have:=Ru.2 e2;simp [e1] at k;exact e2 k
  rw [CP l aC] at E;have aZ:(out++[p]).length=out.length+1:=by simp
  refine Un 2 Z fun R d=>UJ [lZ p] U12 fun a0 _ _ aD=>D.append (j:=0) U11 aD Z aw (by simp only [aU];omega) fl_ fun ax=>C4 1 [6,7,13,14] d Z<|Un 2 Z fun R d=>VJ keyZ ae Z Z Z Z Z Z Z Z kr_ Z (by rw [ib,l];rfl:kR _ false (dm (uj B) p)=.int .i64 q) Z Z<|C4 1 [6,7,13,14] d Z<|UF (L':=[.arr ax 3 1 (out++[p]).length ((out++[p]).map (Value.int .i64)),.obj n (aO keyZ.enc (uj B))]) (by simp [lZ])<|UB (m':=B.length-(out++[p]).length) om_ mup (hn_ [6,7,13,14] Z) ⟨out++[p],ax,q,⟨by omega,by rw [show B.length-(out++[p]).length=r by omega];exact E⟩,Z,Z,Z⟩
 have a1:B.length<=out.length:=by
  simp only [Q2,BC] at ak;omega
 have ay:wH c=out:=by
  rw [show B.length-out.length=0 by omega] at E;unfold wH;rw [<- E];rfl
 refine Um 6 [4,5] Z<|UF (L':=[.arr (.slice Aw out.length cw) 3 1 out.length (out.map lZ).flatten,.obj n (aO keyZ.enc (uj B))]) (by rw [show (out.map lZ).flatten=out.map (Value.int .i64) from er _ _])<|G.freezeArr 0 (out.map lZ) rfl rfl (by intro r hr;obtain ⟨y,_,rfl⟩:=QM.1 hr;rfl) am fun Cg hg aE=>UA (G.dropAll (UP U3 ?_));refine ⟨Z,_, ?_,by rw [ay];exact aE⟩;rw [ay];have:decide ((out.length:Int) > 0)=decide (out≠[]):=by
  rw [Rv,<- Ru];omega
 rw [<- this]
def rC (pts:List Pt)(cyc:List Nat)(i:Nat):Pt:=pts.getD (cyc.getD (i % cyc.length) 0) (0,0)
def upB (p q:Pt):Bool:=decide (p.2<q.2) || (decide (p.2=q.2) && decide (p.1<q.1))
def Kf (pts:List Pt)(cyc:List Nat)(i:Nat):Bool:=!upB (rC pts cyc i) (rC pts cyc (i+1)) && upB (rC pts cyc (i+1)) (rC pts cyc (i+1+1))
def wU (pts:List Pt)(cyc:List Nat)(i:Nat):Bool:=decide (0<=dG (rC pts cyc i) (rC pts cyc (i+1)) (rC pts cyc (i+2)))
def JI (pts:List Pt)(cyc:List Nat):Bool:=(List.range cyc.length).all (wU pts cyc) && decide (((List.range cyc.length).filter (Kf pts cyc)).length=1)
structure OnceC (C:Mem)(b2 b3 b5:Nat)(pts:List Pt)(cyc:List Nat):Prop where
 ex:∃ v1 v2,C b2=some (.cells ⟨[v1,v2]⟩ 36 (0,0))/\Sl C 2 v1 (pts.map gp)
 ey:∃ cv,C b3=some (.cells ⟨[cv]⟩ 50 (0,0))/\Sl C 1 cv (cyc.map aL)
 ez:C b5=some (.cells ⟨[.int .i64 (cyc.length:Nat)]⟩ 3 (0,0))
 ne:0<cyc.length
 ins:∀ z∈cyc,z<pts.length
 q:∀ p∈pts,QP 1 p
theorem OnceC.mono {C D:Mem}{b c d:Nat}{e:List Pt}{f:List Nat}(h:OnceC C b c d e f)(a:C.le D):OnceC D b c d e f:=by
 obtain ⟨g,i,h1,h2⟩:=h.ex;obtain ⟨j,h3,h4⟩:=h.ey;exact ⟨⟨g,i,a _ _ h1,h2.mono a⟩,⟨j,a _ _ h3,h4.mono a⟩,a _ _ h.ez,h.ne,h.ins,h.q⟩
theorem OnceC.m_ {D:Mem}{a b c:Nat}(h:OnceC C a b c pts cyc)(d:C.le D:=by exact mup):OnceC D a b c pts cyc:=OnceC.mono h d
theorem LW (h:0<cyc.length)(b:∀ z∈cyc,z<pts.length)(i:Nat):∃ z,cyc[i % cyc.length]?=some z/\pts[z]?=some (rC pts cyc i):=by
 have a:=Rs i h;refine ⟨cyc[i % cyc.length],aj a, ?_⟩;have c:=b _ (RE a);simp [rC,aj a,aj c]
theorem LV (h:0<cyc.length)(a:∀ z∈cyc,z<pts.length)(b:∀ p∈pts,QP 1 p)(i:Nat):QP 1 (rC pts cyc i):=by
 obtain ⟨z,_,h2⟩:=LW h a i;exact b _ (PN h2)
theorem pp (C:Mem)(e f c:Nat)(b:List Pt)(a:List Nat)(h:OnceC C e f c b a)(i:Nat) :
  Gives cx.P 228 [.int .i64 i,.pointer (some ⟨e,0,none⟩),.pointer (some ⟨f,0,none⟩),.pointer (some ⟨c,0,none⟩)] C (ptV (rC b a i)):=by
 obtain ⟨q,r,g,h1⟩:=h.ex;obtain ⟨s,k,h3⟩:=h.ey;have l:=h.ez;have t:=h.ne;obtain ⟨z,m,n⟩:=LW h.ne h.ins i;obtain ⟨u,v,rfl,w,x,_⟩:=id h1;obtain ⟨y,A,rfl,B,D,_⟩:=id h3;simp only [ax] at h1 h3 g k;refine Uv func228 16 U3 fun w0=>Ur fun R d=>UI U5 fun c=>Ut [0,1,2,3,5] d Z<|UK [0,1,2,3,4,5,6,7,8,9,10] [] Z kr_ fun R E d=>Uq U6<|Uo (PtrTo.block (Mem.get g mup) _) U8<|Uo (PtrTo.block (Mem.get k mup) _) U8<|Uq U6<|Uo (PtrTo.block (Mem.get l mup) _) U8<|Vl (i) (a.length) U6 om_ U2<|UE h3.m_ U10 om_ (by rw [QI,show ((i % a.length:Nat):Int).toNat=i % a.length from Z,m];rfl:(a.map aL)[((i % a.length:Nat):Int).toNat]?=some (aL z)) fl_ fun F o=>Uo o U8<|UE h1.m_ U10 om_ (by rw [QI,show ((z:Nat):Int).toNat=z from Z,n];rfl:(b.map gp)[((z:Nat):Int).toNat]?=some (gp (rC b a i))) fl_ fun G p=>Uo p U8<|Uy (j:=0) U12<|Ut [5] d Z<|UA (Vj af U4 ?_);exact ⟨Z,Z⟩
def fn1V (b2 b3 b5:Nat):Value:=.func (.func 228) #[] #[.pointer (some ⟨b2,0,none⟩),.pointer (some ⟨b3,0,none⟩),.pointer (some ⟨b5,0,none⟩)]
theorem HF (a b:Rat):decide (EH a b > 0)=decide (b<a):=by
 unfold EH;by_cases h1:a<b
 ·have:¬ b<a:=by grind
  simp [h1,this]
 by_cases h2:b<a <;> simp [h1,h2]
theorem NW (a b:Rat):(EH a b == 0)=decide (b=a):=by
 unfold EH;by_cases h1:a<b
 ·have:¬ b=a:=by grind
  simp [h1,this]
 by_cases h2:b<a
 ·have:¬ b=a:=by grind
  simp [h1,h2,this]
 have:b=a:=by grind
 subst this;simp [h1]
theorem Ld (C:Mem)(k:Tabs C)(c d e l:Nat)(a:List Pt)(b:List Nat)(h:OnceC C c d e a b)(f:C l=some (.cells ⟨[fn1V c d e]⟩ 318 (0,0)))(i:Nat)(n:i<=1000000) :
  Gives cx.P 229 [.int .i64 i,.pointer (some ⟨l,0,none⟩)] C (.bool (upB (rC a b i) (rC a b (i+1)))):=by
 have g:=fun i=>LV h.ne h.ins h.q i;unfold fn1V at f;refine Uv func229 34 U3 fun w0=>Um 1 [0,1] Z<|UK [0,1,2,3,4,5,6,7,8,9,10] [(3,1),(7,1),(9,1)] Z kr_ fun R m j=>Uo (PtrTo.block (Mem.get f mup) _) U8<|Uq U6<|Ux _ U7<|UV (fun _=>(pp _ c d e a b h.m_ (i+1))) U9<|VF U12<|Uo (PtrTo.block (Mem.get f mup) _) U8<|Uq U6<|UV (fun _=>(pp _ c d e a b h.m_ i)) U9<|VF U12<|UL (fun _=>(kM _ k.m_ (rC a b (i+1)).2 (rC a b i).2 1 dc_ dc_ (g (i+1)).2 (g i).2)) U9<|C4 1 [0,1,4] j Z<|UK [0,1,2,3,4,5,6,7,8,9,10,11,12,13,14,15,16,17,18,19] [] Z kr_ fun R m j=>Us 6 Z<|UQ U6 (fun _=>PtrTo.block (Mem.get f mup) _) U3<|Uq U6<|Ux _ U7<|UV (fun _=>(pp _ c d e a b h.m_ (i+1))) U9<|VF U12<|UQ U6 (fun _=>PtrTo.block (Mem.get f mup) _) U3<|Uq U6<|UV (fun _=>(pp _ c d e a b h.m_ i)) U9<|VF U12<|UL (fun _=>(kM _ k.m_ (rC a b (i+1)).1 (rC a b i).1 1 dc_ dc_ (g (i+1)).1 (g i).1)) U9<|Uq U6<|UM U8<|UU U8<|C4 1 [3] j Z<|Uu U2<|⟨?_,Z⟩;rw [HF,NW,HF];rfl
theorem Fl (q:Rat):decide (eU q.num<0)=!decide (0<=q):=by
 rw [<- decide_not,Rv,<- Rat.num_nonneg];rcases ep q.num with h | h | h <;> omega
theorem Nc (C:Mem)(r:Tabs C)(s B D:Value)(b:List Pt)(a:List Nat)(I:Sl C 2 s (b.map gp))(t:Sl C 1 D (a.map aL))(J:0<a.length)(K:∀ z∈a,z<b.length)(L:∀ p∈b,QP 1 p)(W:a.length<=100000) :
  Gives cx.P 155 [.agg ⟨[s,B]⟩,D] C (.bool (JI b a)):=by
 obtain ⟨X,Y,rfl,aa,ab,_⟩:=id t;simp only [ax] at t ⊢;refine Uv func155 46 U3 fun w0=>Ur fun R c=>UG U6 fun e=>UG U6 fun f=>C4 1 [2,3] c Z<|Ur fun R c=>Uw af U9<|Uq U6<|UI U5 fun g=>Uy (j:=0) U12<|Ut [2,3,5] c Z<|Un 1 Z fun R c=>UI U5 fun o=>Uy (j:=0) U12<|Ut [5,6] c Z<|G.freeze 0 Z fun _ _ h=>G.freeze 0 Z fun _ _ E=>G.freeze 0 Z fun _ _ M=>G.freeze 0 Z (fun N _ O=>?_);have d:OnceC N e f g b a:=⟨⟨s,B,O,I.mono mup⟩,⟨_,Mem.get M mup,t.mono mup⟩,Mem.get E mup,J,K,L⟩;have u:=fun i=>LV d.ne d.ins d.q i;refine Um 2 [5,6,7] Z<|Um 1 [5,6,7,8] Z<|Ur fun R c=>Uo (PtrTo.block (Mem.get E mup) _) U8<|C4 1 [6,7,8,14,15] c Z<|G.loop (fun fr C' Q S=>∃ (i k:Nat),(i<=a.length/\(List.range i).all (wU b a)=true/\((List.range i).filter (Kf b a)).length=k)/\fr=[(6,[],.pointer (some ⟨o,0,none⟩)),(7,[],.func (.func 229) #[] #[.pointer (some ⟨o,0,none⟩)]),(8,[],.int .i64 k),(14,[],.int .i64 a.length),(15,[],.int .i64 i)]/\Q=[]/\S=a.length-i) (hn_ [6,7,8,14,15] Z) ⟨0,0,⟨QK _,Z,Z⟩,Z,Z,Z⟩ (fun fr ac ad m F T=>?_);obtain ⟨i,k,⟨hi,v,l⟩,rfl,rfl,rfl⟩:=T;refine Um 1 [6,7,8,14,15,16] Z<|Up (fun w=>?_) fun w=>?_
 ·have x:i<a.length:=by simpa using w
  have ae:k<=i:=by
   rw [<- l];exact Q1 (RT _ _) am
  refine Um 2 [6,7,8,9,14,15] Z<|UK [0,1,2,3,4,5,6,7,8,9,10,11,12] [(2,1),(6,1),(10,1),(11,1)] Z kr_ fun R hB c=>Uo (PtrTo.block (Mem.get h mup) _) U8<|Uq U6<|UV (fun _=>(pp _ e f g b a d.m_ i)) U9<|Uo (PtrTo.block (Mem.get h mup) _) U8<|Uq U6<|Ux _ U7<|UV (fun _=>(pp _ e f g b a d.m_ (i+1))) U9<|Uo (PtrTo.block (Mem.get h mup) _) U8<|Uq U6<|Ux _ U7<|UV (fun _=>(pp _ e f g b a d.m_ (i+2))) U9<|UL (fun _=>(oI _ r.m_ (rC b a i) (rC b a (i+1)) (rC b a (i+2)) 1 dc_ dc_ (u i) (u (i+1)) (u (i+2)))) U9<|C4 1 [6,7,8,9,14,15,30] c Z<|Up (fun n=>?_) fun n=>?_
  ·have U:wU b a i=false:=by
    rw [Fl] at n;simpa [wU] using n
   refine Um 1 [4] Z<|Uu U2<|⟨?_,Z⟩;have:(List.range a.length).all (wU b a)=false:=Tv.2 ⟨i,QZ.2 x,by rw [U];decide⟩;unfold JI;rw [this];rfl
  have V:wU b a i=true:=by
   rw [Fl] at n;simpa [wU] using n
  have H:(List.range (i+1)).all (wU b a)=true:=by rw [RL,T8,v];simp [V]
  refine Un 2 Z fun R c=>UC (Ld _ r.m_ e f g o b a d.m_ (Mem.get h mup) i om_) U7 fl_<|Us 4 Z<|Ux _ U7<|UL (fun _=>(Ld _ r.m_ e f g o b a d.m_ (Mem.get h mup) (i+1) om_)) U9<|UM U8<|Ut [6,7,8,14,15,40] c Z<|Up (fun y=>?_) fun y=>?_
  ·have A:Kf b a i=true:=y;refine Un 1 Z fun R c=>Ux _ U7<|C4 1 [6,7,8,14,15] c Z<|Ur fun R c=>Ux _ U7<|C4 1 [6,7,8,14,15] c Z<|UB (m':=a.length-(i+1)) om_ F (hn_ [6,7,8,14,15] Z) ⟨i+1,k+1,⟨by omega,H,by rw [RL,Sh,QO,l];simp [A]⟩,Z,Z,Z⟩
  have A:Kf b a i=false:=y;refine Ur fun R c=>Ux _ U7<|C4 1 [6,7,8,14,15] c Z<|UB (m':=a.length-(i+1)) om_ F (hn_ [6,7,8,14,15] Z) ⟨i+1,k,⟨by omega,H,by rw [RL,Sh,QO,l];simp [A]⟩,Z,Z,Z⟩
 have x:i=a.length:=by
  have:¬ i<a.length:=by simpa using w
  omega
 refine Um 3 [4] Z<|Uu U2<|⟨?_,Z⟩;rw [x] at v l;unfold JI;rw [v,l,TW];congr 1;rw [Ub,QR];simp;omega
/-! The sides of triangles, in order. -/
def rk (t:Tri):List iL:=[oV t 0,oV t 1,oV t 2]
def cW (tris:List Tri):List iL:=tris.flatMap rk
theorem AT (t:Tri)(a:k<3):(rk t)[k]?=some (oV t k):=by
 rcases (by omega:k=0∨k=1∨k=2) with rfl | rfl | rfl <;> rfl
theorem pD (m:Oi)(i:Nat)(t:Tri):∀ k,k<=3->(m.map (·.1)++(rk t).take k).Nodup->(ED m i t k).map (·.1)=m.map (·.1)++(rk t).take k
 | 0,_,_=>by simp [ED]
 | k+1,e,a=>by
  have h3:=AT t (show k<3 by omega);rw [Q5,h3,R5,<- Ra] at a ⊢;have b:=(Sw.1 a);have c:=pD m i t k om_ b.1;have d:dm (ED m i t k) (oV t k)=none:=by
   rw [cE,c];intro h;exact b.2.2 _ h _ am Z
  rw [ED,jQ d,Rk,c];rfl
theorem oT (h:tris[n]?=some t):cW (tris.take (n+1))=cW (tris.take n)++rk t:=by
 unfold cW;rw [Q5,h,List.flatMap_append];simp
theorem rL (h:(cW tris).Nodup)(n:Nat):(cW (tris.take n)).Nodup:=by
 have:cW tris=cW (tris.take n)++cW (tris.drop n):=by
  unfold cW;rw [<- List.flatMap_append,RN]
 rw [this] at h;exact (Sw.1 h).1
theorem gD {a:List Tri}(h:(cW a).Nodup):∀ n,n<=a.length->(yg a n).map (·.1)=cW (a.take n)
 | 0,_=>by simp [yg,cW]
 | n+1,d=>by
  have b:a[n]?=some a[n]:=aj om_;have h1:=rL h (n+1);rw [oT b] at h1 ⊢;have c:=gD h n om_;rw [yg,al,b];show (ED (yg a n) n a[n] 3).map (·.1)=_;rw [pD _ _ _ 3 (QG _) (by rw [c];exact h1),c];rfl
theorem Du (h:(cW tris).Nodup)(i:Nat)(t:Tri)(k:Nat)(a:tris[i]?=some t)(c:k<3):dm (ED (yg tris i) i t k) (oV t k)=none:=by
 have d:=(aE.1 a).1;have h1:=rL h (i+1);rw [oT a] at h1;have b:=gD h i om_;have h3:=AT t c;have h2:(cW (tris.take i)++(rk t).take (k+1)).Nodup:=by
  refine List.Nodup.sublist (List.Sublist.append (List.Sublist.refl _) (List.take_sublist _ _)) h1
 rw [Q5,h3,R5,<- Ra] at h2;have h4:=Sw.1 h2;rw [cE,pD _ _ _ k om_ (by rw [b];exact h4.1),b];intro h5;exact h4.2.2 _ h5 _ am Z
theorem vB {B:List iL}{d:Int}:∀ (k:Nat)(p:Int)(out r:List Int),iM B d k p out=some r->(∀ z∈out,z∈B.map (·.1))->∀ z∈r,z∈B.map (·.1)
 | 0,p,out,r,h,b=>by simp only [iM,Rc] at h;subst h;exact b
 | k+1,p,out,r,h,b=>by
  simp only [iM] at h;cases c:dm B p with
  | none=>rw [c] at h;cases h
  | some q =>
   rw [c] at h;simp only at h;split at h
   ·cases h
   refine vB k q _ r h (fun z a=>?_);rcases QW.1 a with a | a
   ·exact b z a
   rw [Q4.1 a];exact S4 (f:=(·.1)) (fW c)
theorem vC {B:List iL}{b:Int}:∀ (k:Nat)(p:Int)(out r:List Int),iM B b k p out=some r->r.length=out.length+k
 | 0,p,out,r,h=>by simp only [iM,Rc] at h;subst h;rfl
 | k+1,p,out,r,h=>by
  simp only [iM] at h;cases a:dm B p with
  | none=>rw [a] at h;cases h
  | some q =>
   rw [a] at h;simp only at h;split at h
   ·cases h
   have:=vC k q _ r h;simp at this;omega
theorem Bx {c:List iL}:∀ z∈wH c,z∈c.map (·.1):=by
 intro z a;unfold wH at a;cases b:EE c with
 | none=>rw [b] at a;simp at a
 | some r =>
  rw [b] at a;simp only [R0] at a;unfold EE at b;split at b
  ·have:=vB _ _ _ _ b am z a;obtain ⟨s,hs,rfl⟩:=QM.1 this;exact S4 (f:=(·.1)) (SH.1 hs).1
  cases b
theorem JE (a:List iL):(wH a).length<=a.length:=by
 unfold wH;cases b:EE a with
 | none=>simp
 | some r =>
  unfold EE at b;split at b
  ·have:=vC _ _ _ _ b;have h2:=RT (kw a) a;simp at this ⊢;omega
  cases b
def rG (n:Nat)(t:Tri):Prop:=t.1<n/\t.2.1<n/\t.2.2<n
theorem I2 (h:rG n t):∀ s∈rk t,0<=s.1/\s.1.toNat<n:=by
 obtain ⟨h1,h2,h3⟩:=h;intro s hs;simp only [rk,QT,RV,S9] at hs;rcases hs with rfl | rfl | rfl <;> simp [oV,EZ] <;> omega
theorem oU (h:∀ t∈tris,rG n t):∀ s∈cW tris,0<=s.1/\s.1.toNat<n:=by
 intro s hs;obtain ⟨t,a,hs⟩:=List.mem_flatMap.1 hs;exact I2 (h t a) s hs
theorem rQ (a:List Tri):(cW a).length=3*a.length:=by
 induction a with
 | nil=>rfl
 | cons t l b =>
  have:cW (t::l)=rk t++cW l:=rfl;rw [this,QO,b];simp [rk];omega
def fL (tris:List Tri):List Nat:=(wH (cW tris)).map Int.toNat
theorem Eg (h:∀ t∈tris,rG n t):∀ z∈fL tris,z<n:=by
 intro z a;obtain ⟨y,hy,rfl⟩:=QM.1 a;obtain ⟨s,hs,rfl⟩:=QM.1 (Bx y hy);exact (oU h s hs).2
theorem zB (h:∀ t∈tris,rG n t):(wH (cW tris)).map lZ=(fL tris).map aL:=by
 unfold fL;rw [Rx];refine List.map_congr_left (fun y hy=>?_);obtain ⟨s,hs,rfl⟩:=QM.1 (Bx y hy);have:=(oU h s hs).1;show lZ s.1=aL s.1.toNat;unfold lZ aL;rw [Int.toNat_of_nonneg this]
/-! Sets of ints as maps. -/
def If (ks:List Int):List (Int × Value):=ks.map fun z=>(z,.bool true)
def PC (ks:List Int)(z:Int):List Int:=if z∈ks then ks else ks++[z]
theorem Ja (a:List Int):(If a).length=a.length:=by simp [If]
theorem wP:∀ {ks:List Int}{z:Int},fQ (If ks) z (.bool true)=If (PC ks z)
 | [],z=>by simp [If,fQ,PC]
 | k::ks,z=>by
  have a:=wP (ks:=ks) (z:=z);unfold If at a ⊢;simp only [Rb,fQ];by_cases e:k=z
  ·subst e;simp [PC]
  have b:¬ z=k:=fun h=>e h.symm;rw [aB e,a];unfold PC;by_cases h:z∈ks
  ·simp [h]
  simp [h,b]
def Mj (ks:List Int)(t:Tri):Nat->List Int
 | 0=>ks
 | k+1=>PC (Mj ks t k) (EZ t k)
def vI (tris:List Tri):Nat->List Int
 | 0=>[]
 | n+1=>Mj (vI tris n) (tris.getD n (0,0,0)) 3
theorem Hc (t:Tri)(a:k<3):(kH t)[k]?=some (.int .i64 (EZ t k)):=by
 rcases (by omega:k=0∨k=1∨k=2) with rfl | rfl | rfl <;> rfl
theorem Ef (h:decide (wH (cW tris)≠[])=true):0<(fL tris).length:=by
 unfold fL;rw [ax];exact Ru.2 (QF h)
theorem HQ (a:List Tri):decide (wH (cW a)≠[])=decide (fL a≠[]):=by
 rw [Rv];unfold fL;simp
def nl (pts:List Pt)(tris:List Tri):Bool:=decide (fL tris≠[]) && (decide ((vI tris tris.length).length=pts.length) && JI pts (fL tris))
theorem tI (C:Mem)(J:Tabs C)(x y:Value)(c:List Pt)(a:List Tri)(K:a≠[])(k:Sl C 2 x (c.map gp))(g:Sl C 3 y (a.map kH))(d:(cW a).Nodup)(l:∀ t∈a,rG c.length t)(L:∀ p∈c,QP 1 p)(z:a.length<=10000) :
  Gives cx.P 101 [.agg ⟨[x,y]⟩] C (.bool (nl c a)):=by
 obtain ⟨V,W,rfl,M,X,_⟩:=id k;obtain ⟨A2,c2,rfl,N,Y,_⟩:=id g;have aa:maxLen<=9223372036854775807:=by simp [maxLen]
 simp only [ax] at k g M N ⊢;refine Uv func101 55 U3 fun w0=>Ur fun R b=>UG U6 fun A=>C4 1 [1] b Z<|G.freeze 0 Z fun _ B e=>Ur fun R b=>Uo (PtrTo.block (Mem.get e mup) _) U8<|UW (F6 _ _ _ a K g.m_ (Du d)) U7 (fun ab _ _ O=>?_);obtain ⟨n,rfl,Q⟩:=O;refine C4 5 [1,3,4] b Z<|Um 2 [1,3,18] Z<|Up (fun E=>?_) fun E=>?_
 ·exact absurd E dc_
 refine Ur fun R b=>D.makeMap keyZ Z Z Z Z fl_ fun f=>C4 1 [1,3,5] b Z<|Un 1 Z fun R b=>Uo (PtrTo.block (Mem.get e mup) _) U8<|C4 2 [1,3,5,21,22,23] b Z<|G.loop (fun fr C' h o=>∃ (i:Nat),(i<=a.length)/\fr=[(1,[],.pointer (some ⟨A,0,none⟩)),(3,[],.map (some n)),(5,[],.map (some f)),(21,[],.slice A2 a.length c2),(22,[],.int .i64 a.length),(23,[],.int .i64 i)]/\h=[.obj f (aO keyZ.enc (If (vI a i)))]/\o=a.length-i) (hn_ [1,3,5,21,22,23] Z) ⟨0,QK _,Z,Z,Z⟩ (fun fr ac ad m _ q=>?_);obtain ⟨i,hi,rfl,rfl,rfl⟩:=q;refine Um 1 [1,3,5,21,22,23,24] Z<|Up (fun r=>?_) fun r=>?_
 ·have u:i<a.length:=by simpa using r
  obtain ⟨t,F⟩:∃ t,a[i]?=some t:=⟨a[i],aj u⟩;refine Ur fun R b=>UE g.m_ U10 om_ (by rw [QI,F];rfl:(a.map kH)[i]?=some (kH t)) fl_ fun ae S=>Uo S U8<|UI U5 fun b7=>Uy (j:=0) U12<|Ut [1,3,5,7,21,22,23] b Z<|Ur fun R b=>Uw af U9<|C4 1 [1,3,5,21,22,23,27,28] b Z<|Vf 0 Z<|G.loop (fun fr C' h o=>∃ (j:Nat),(j<=3)/\fr=[(1,[],.pointer (some ⟨A,0,none⟩)),(3,[],.map (some n)),(5,[],.map (some f)),(21,[],.slice A2 a.length c2),(22,[],.int .i64 a.length),(23,[],.int .i64 i),(27,[],.agg ⟨kH t⟩),(28,[],.int .i64 j)]/\h=[.obj f (aO keyZ.enc (If (Mj (vI a i) t j)))]/\o=3-j) (hn_ [1,3,5,21,22,23,27,28] Z) ⟨0,QK _,Z,Z,Z⟩ (fun fr ag ah m B q=>?_);obtain ⟨j,hj,rfl,rfl,rfl⟩:=q;refine Um 1 [1,3,5,21,22,23,27,28,29] Z<|Up (fun v=>?_) fun v=>?_
  ·have w:j<3:=by
    simp only [QR] at v;omega
   refine Ur fun R b=>Vp U11 (fun _=>⟨by omega,by omega,Hc t w⟩) U2<|C4 1 [1,3,5,9,21,22,23,27,28] b Z<|Un 2 Z fun R b=>D.mapUpdate keyZ (j:=0) Z Z Z Z Z Z Z Z Z Z kr_<|Ut [1,3,5,21,22,23,27,28] b Z<|Ur fun R b=>Ux _ U7<|C4 1 [1,3,5,21,22,23,27,28] b Z ?_;rw [wP];refine UB (m':=3-(j+1)) om_ B (hn_ [1,3,5,21,22,23,27,28] Z) ⟨j+1,om_,Z,Z,Z⟩
  have w:j=3:=by
   simp only [Q2] at v;omega
  subst w;refine Ur fun R b=>Ux _ U7<|C4 1 [1,3,5,21,22,23] b Z<|UF (L':=[.obj f (aO keyZ.enc (If (vI a (i+1))))]) (by rw [vI,al,F];rfl)<|UB (m':=a.length-(i+1)) om_ mup (hn_ [1,3,5,21,22,23] Z) ⟨i+1,om_,Z,Z,Z⟩
 have u:i=a.length:=by
  have:¬ i<a.length:=by simpa using r
  omega
 subst u;refine Ur fun R b=>Uo (PtrTo.block (Mem.get e mup) _) U8<|Uq U6<|US (JC _ _ _ n (yg a a.length) (Mem.get Q mup) (by rw [gD d _ (QG _),QV];exact d) (by rw [gD d _ (QG _),QV];exact fun s T=>(oU l s T).1) (by have:=congrArg List.length (gD d _ (QG _));rw [QV,rQ,ax] at this;omega)) U7 fl_ (fun ai _ _ H=>?_);rw [gD d _ (QG _),QV] at H;obtain ⟨bv,rfl,I⟩:=H;rw [zB l] at I;refine C4 5 [1,5,10,11] b Z<|UO [(3,1)] Z fun R b=>Us 3 Z<|Wn keyZ.enc af Z Z Z Z Z Z Z Z Z<|Uq U6<|UQ U6 (fun _=>PtrTo.block (Mem.get e mup) _) U3<|Us 2 Z<|UM U8<|Uq U6<|UQ U6 (fun _=>PtrTo.block (Mem.get e mup) _) U3<|Uq U6<|UL (fun U=>(Nc _ J.m_ _ _ bv c (fL a) k.m_ I.m_ (by exact Ef (SC.1 (show (decide (wH (cW a)≠[]) && _)=true/\True from U).1).1) (Eg l) L (by have:=JE (cW a);rw [rQ] at this;unfold fL;rw [ax];omega))) U9<|UM U8<|C4 1 [2] b Z<|Uu U2<|⟨?_,Z⟩;have z:(((If (vI a a.length)).length:Int) == (c.length:Int))=decide ((vI a a.length).length=c.length):=by
  rw [Ja,Ub,Sn,QR];omega
 unfold nl;rw [<- HQ,<- z,<- Bool.and_assoc]
noncomputable def kP2:KeyP cx.P 58 (Str × Str):=Qn rfl rfl rfl dc_ dc_ rfl rfl kr_
def ptK (p:Pt):Str × Str:=(qtx p.1,qtx p.2)
theorem MQ {q:Pt}(h:ptK p=ptK q):p=q:=by
 have h1:=iG (congrArg (·.1) h);have h2:=iG (congrArg (·.2) h);exact Prod.ext h1 h2
def JQ (l:List Pt):List ((Str × Str) × Value):=l.map fun p=>(ptK p,.bool true)
theorem BI (h:p ∉ l):dm (JQ l) (ptK p)=none:=by
 rw [cE];unfold JQ;rw [Rx];intro hm;obtain ⟨q,a,b⟩:=QM.1 hm;exact h (MQ b ▸ a)
theorem Nm (h:p ∉ l):fQ (JQ l) (ptK p) (.bool true)=JQ (l++[p]):=by
 rw [jQ (BI h)];simp [JQ]
def om (n:Nat)(X:Nat->Nat->Bool):Bool:=(List.range n).any fun i=>(List.range i).any fun k=>X i k
def yG (pts:List Pt)(tris:List Tri)(X:Nat->Nat->Bool):Int:=if tris=[] then 13 else if nl pts tris then 0 else if om tris.length X then 26 else 25
structure MeshOk (pts:List Pt)(tris:List Tri):Prop where
 q:∀ p∈pts,QP 1 p
 nd:pts.Nodup
 ins:∀ t∈tris,rG pts.length t
 pos:∀ t∈tris,0<dG (pts.getD t.1 (0,0)) (pts.getD t.2.1 (0,0)) (pts.getD t.2.2 (0,0))
 sides:(cW tris).Nodup
 lt:tris.length<=800
 lp:pts.length<=400
theorem pn (h:i<pts.length):pts[i]?=some (pts.getD i (0,0)):=by
 rw [al,aj h];rfl
theorem Bm (h:i<pts.length):pts.getD i (0,0)∈pts:=PN (pn h)
def mC (t:Tri)(j:Nat):Nat:=if j=0 then t.1 else if j=1 then t.2.1 else t.2.2
theorem OC (t:Tri)(j:Nat):EZ t j=(mC t j:Nat):=by
 unfold EZ mC;split
 ·rfl
 split <;> rfl
theorem eT (h:rG n t)(j:Nat):mC t j<n:=by
 obtain ⟨h1,h2,h3⟩:=h;unfold mC;split
 ·exact h1
 split <;> assumption
theorem OK (q:Rat):decide (eU q.num<=0)=!decide (0<q):=by
 have h1:=Bi q;have h2:q.num=0 ↔ q=0:=TJ;rw [<- decide_not,Rv];have h3:¬ 0<q ↔ (q<0∨q=0):=by grind
 rw [h3,<- h1,<- h2];rcases ep q.num with h | h | h <;> omega
theorem Gt (C:Mem)(F:Tabs C)(H I:Value)(c:List Pt)(b:List Tri)(X:Nat->Nat->Bool)(r:Sl C 2 H (c.map gp))(x:Sl C 3 I (b.map kH))(d:MeshOk c b)
  (U:b≠[]->nl c b=false->∀ D:Mem,C.le D->∀ i k:Nat,i<b.length->k<i->Gives cx.P 102 [.agg ⟨[H,I]⟩,.int .i64 i,.int .i64 k] D (.bool (X i k))) :
  Gives cx.P 66 [.agg ⟨[H,I]⟩] C (.int .i64 (yG c b X)):=by
 obtain ⟨A1,c1,rfl,ah,az,_⟩:=id r;obtain ⟨A2,c2,rfl,ai,aA,_⟩:=id x;have aC:maxLen<=9223372036854775807:=by simp [maxLen]
 have aD:=d.lt;have aF:=d.lp;simp only [ax] at r x ah ai U ⊢;refine Uv func66 105 U3 fun w0=>Ur fun R a=>UG U6 fun u=>C4 1 [1] a Z<|G.freeze 0 Z fun _ _ f=>Un 1 Z fun R a=>Uo (PtrTo.block (Mem.get f mup) _) U8<|C4 3 [1,12] a Z<|Up (fun y=>?_) fun y=>?_
 ·have h0:b=[]:=by
   have h:((b.length:Nat):Int)=0:=by simpa using y
   exact Rq om_
  exact Um 1 [2] Z<|Uu U2<|⟨by unfold yG;rw [aJ h0],Z⟩
 have h0:b≠[]:=by
  intro e;rw [e] at y;exact absurd y dc_
 refine Un 1 Z fun R a=>Uo (PtrTo.block (Mem.get f mup) _) U8<|Us 4 Z<|UQ U6 (fun _=>PtrTo.block (Mem.get f mup) _) U3<|Us 2 Z<|UU U8<|C4 1 [1,17] a Z<|Up (fun V=>?_) fun V=>?_
 ·exfalso;simp only [Sr,QR] at V;omega
 refine Ur fun R a=>Wm kP2 Z Z Z Z fl_ fun J=>C4 1 [1,3] a Z<|Un 1 Z fun R a=>Uo (PtrTo.block (Mem.get f mup) _) U8<|C4 2 [1,3,30,31,32] a Z<|G.loop (fun fr C' g l=>∃ (i:Nat),(i<=c.length)/\fr=[(1,[],.pointer (some ⟨u,0,none⟩)),(3,[],.map (some J)),(30,[],.slice A1 c.length c1),(31,[],.int .i64 c.length),(32,[],.int .i64 i)]/\g=[.obj J (aO D3 (JQ (c.take i)))]/\l=c.length-i) (hn_ [1,3,30,31,32] Z) ⟨0,QK _,Z,Z,Z⟩ (fun fr aG aH m _ n=>?_);obtain ⟨i,hi,rfl,rfl,rfl⟩:=n;refine Um 1 [1,3,30,31,32,33] Z<|Up (fun W=>?_) fun W=>?_
 ·have o:i<c.length:=by simpa using W
  obtain ⟨p,z⟩:∃ p,c[i]?=some p:=⟨c[i],aj o⟩;have A:=d.q p (PN z);have Y:p ∉ c.take i:=by
   intro hm;obtain ⟨j,v⟩:=Sg hm;rw [Ri] at v;split at v
   ·rename_i aI;have h3:=(aE.1 v);have h4:=(aE.1 z);have:=(List.getElem_inj d.nd).1 (h3.2.trans h4.2.symm);omega
   cases v
  have ak:JQ (c.take (i+1))=JQ (c.take i++[p]):=by rw [Q5,z];rfl
  refine Ur fun R a=>UE r.m_ U10 om_ (by rw [QI,z];rfl:(c.map gp)[i]?=some (gp p)) fl_ fun aK al=>Uo al U8<|UI U5 fun b5=>Uy (j:=0) U12<|Ut [1,3,5,30,31,32] a Z<|Ur fun R a=>Uw af U9<|UC (iy _ F.m_ (qtx p.1) (qtx p.2) (by have:=bG A.1 dc_;omega) (by have:=bG A.2 dc_;omega)) U7 fl_<|C4 1 [1,3,5,30,31,32,38] a Z<|Up (fun K=>?_) fun K=>?_
  ·exfalso;rw [bP (A.1.le dc_),bP (A.2.le dc_)] at K;exact absurd K dc_
  refine Un 1 Z fun R a=>Uw af U9<|We kP2 ae Z Z Z Z Z Z Z Z Z (congrArg (kR (.bool false) false) (BI Y)) Z Z<|Ut [1,3,5,30,31,32,41] a Z<|Up (fun aa=>?_) fun aa=>?_
  ·exact absurd aa dc_
  refine Un 1 Z fun R a=>Uw af U9<|Wd kP2 (j:=1) (key:=ptK p) Z Z Z Z Z Z Z Z Z Z<|Ut [1,3,30,31,32] a Z<|Ur fun R a=>Ux _ U7<|C4 1 [1,3,30,31,32] a Z<|Vf 1 Z<|UF (L':=[.obj J (aO D3 (JQ (c.take (i+1))))]) (by rw [ak,<- Nm Y];rfl)<|UB (m':=c.length-(i+1)) om_ mup (hn_ [1,3,30,31,32] Z) ⟨i+1,om_,Z,Z,Z⟩
 refine Un 1 Z fun R a=>Uo (PtrTo.block (Mem.get f mup) _) U8<|C4 2 [1,46,47,48] a Z<|G.dropAll<|G.loop (fun fr C' g l=>∃ (i:Nat),(i<=b.length)/\fr=[(1,[],.pointer (some ⟨u,0,none⟩)),(46,[],.slice A2 b.length c2),(47,[],.int .i64 b.length),(48,[],.int .i64 i)]/\g=[]/\l=b.length-i) (hn_ [1,46,47,48] Z) ⟨0,QK _,Z,Z,Z⟩ (fun fr aL aM m _ n=>?_);obtain ⟨i,hi,rfl,rfl,rfl⟩:=n;refine Um 1 [1,46,47,48,49] Z<|Up (fun L=>?_) fun L=>?_
 ·have o:i<b.length:=by simpa using L
  obtain ⟨t,ht⟩:∃ t,b[i]?=some t:=⟨b[i],aj o⟩;have ab:=PN ht;have s:=d.ins t ab;have am:=d.pos t ab;refine Ur fun R a=>UE x.m_ U10 om_ (by rw [QI,ht];rfl:(b.map kH)[i]?=some (kH t)) fl_ fun aN an=>Uo an U8<|UI U5 fun b7=>Uy (j:=0) U12<|Ut [1,7,46,47,48] a Z<|Ur fun R a=>Uw af U9<|C4 1 [1,7,46,47,48,52,53] a Z<|G.loop (fun fr C' g l=>∃ (j:Nat),(j<=3)/\fr=[(1,[],.pointer (some ⟨u,0,none⟩)),(7,[],.pointer (some ⟨b7,0,none⟩)),(46,[],.slice A2 b.length c2),(47,[],.int .i64 b.length),(48,[],.int .i64 i),(52,[],.agg ⟨kH t⟩),(53,[],.int .i64 j)]/\g=[.obj b7 (.cells ⟨kH t⟩ 108 (0,0))]/\l=3-j) (hn_ [1,7,46,47,48,52,53] Z) ⟨0,QK _,Z,Z,Z⟩ (fun fr aP aQ m ao n=>?_);obtain ⟨j,v,rfl,rfl,rfl⟩:=n;refine Um 1 [1,7,46,47,48,52,53,54] Z<|Up (fun M=>?_) fun M=>?_
  ·have ap:j<3:=by
    simp only [QR] at M;omega
   have aR:=eT s j;refine Ur fun R a=>Vp U11 (fun _=>⟨by omega,by omega,(show (kH t)[((j:Nat):Int).toNat]?=some (.int .i64 ((mC t j:Nat):Int)) from by rw [<- OC];exact Hc t ap)⟩) U2<|C4 1 [1,7,9,46,47,48,52,53] a Z<|Un 5 Z fun R a=>UQ U6 (fun _=>PtrTo.block (Mem.get f mup) _) U3<|Us 2 Z<|UU U8<|Ut [1,7,46,47,48,52,53,64] a Z<|Up (fun ac=>?_) fun ac=>?_
   ·exfalso;simp only [Sr,QR] at ac;omega
   refine Ur fun R a=>Ux _ U7<|C4 1 [1,7,46,47,48,52,53] a Z<|UB (m':=3-(j+1)) om_ ao (hn_ [1,7,46,47,48,52,53] Z) ⟨j+1,om_,Z,Z,Z⟩
  clear M;refine UK [0,1,2,3,4,5,6,7,8,9,10,11,12,13,14,15,16,17,18,19] [(18,1)] Z kr_ fun R hB a=>Uq U6<|Uo (PtrTo.block (Mem.get f mup) _) U8<|UN (0) U9 ag U2<|Uw af U9<|UE r.m_ U10 om_ (by rw [QI,show (((t.1:Nat):Int)).toNat=t.1 from Z,pn s.1];rfl:(c.map gp)[(((t.1:Nat):Int)).toNat]?=some (gp (c.getD t.1 (0,0)))) fl_ fun aS aq=>Uo aq U8<|Uq U6<|Uo (PtrTo.block (Mem.get f mup) _) U8<|UN (1) U9 ag U2<|Uw af U9<|UE r.m_ U10 om_ (by rw [QI,show (((t.2.1:Nat):Int)).toNat=t.2.1 from Z,pn s.2.1];rfl:(c.map gp)[(((t.2.1:Nat):Int)).toNat]?=some (gp (c.getD t.2.1 (0,0)))) fl_ fun aT ar=>Uo ar U8<|Uq U6<|Uo (PtrTo.block (Mem.get f mup) _) U8<|UN (2) U9 ag U2<|Uw af U9<|UE r.m_ U10 om_ (by rw [QI,show (((t.2.2:Nat):Int)).toNat=t.2.2 from Z,pn s.2.2];rfl:(c.map gp)[(((t.2.2:Nat):Int)).toNat]?=some (gp (c.getD t.2.2 (0,0)))) fl_ fun aU au=>Uo au U8<|UL (fun _=>(oI _ F.m_ (c.getD t.1 (0,0)) (c.getD t.2.1 (0,0)) (c.getD t.2.2 (0,0)) 1 dc_ dc_ (d.q _ (Bm s.1)) (d.q _ (Bm s.2.1)) (d.q _ (Bm s.2.2)))) U9<|C4 1 [1,46,47,48,85] a Z<|Up (fun N=>?_) fun N=>?_
  ·exfalso;rw [OK,Q0 am] at N;exact absurd N dc_
  refine Ur fun R a=>Ux _ U7<|C4 1 [1,46,47,48] a Z<|G.dropAll<|UB (m':=b.length-(i+1)) om_ mup (hn_ [1,46,47,48] Z) ⟨i+1,om_,Z,Z,Z⟩
 clear L;refine Ur fun R a=>Uo (PtrTo.block (Mem.get f mup) _) U8<|UC (tI _ F.m_ _ _ c b h0 r.m_ x.m_ d.sides d.ins d.q om_) U7 fl_<|Ut [1,88] a Z<|Up (fun O=>?_) fun O=>?_
 ·have w:nl c b=true:=O;exact Um 1 [2] Z<|Uu U2<|⟨by unfold yG;rw [aB h0,aJ w],Z⟩
 have w:nl c b=false:=O;refine Un 1 Z fun R a=>Uo (PtrTo.block (Mem.get f mup) _) U8<|C4 2 [1,91,92] a Z<|G.loop (fun fr C' g l=>∃ (i:Nat),(i<=b.length/\om i X=false)/\fr=[(1,[],.pointer (some ⟨u,0,none⟩)),(91,[],.int .i64 b.length),(92,[],.int .i64 i)]/\g=[]/\l=b.length-i) (hn_ [1,91,92] Z) ⟨0,⟨QK _,Z⟩,Z,Z,Z⟩ (fun fr aV aW m _ n=>?_);obtain ⟨i,⟨aX,B⟩,rfl,rfl,rfl⟩:=n;refine Um 1 [1,91,92,93] Z<|Up (fun Q=>?_) fun Q=>?_
 ·have o:i<b.length:=by simpa using Q
  refine Um 2 [1,10,91,92] Z<|Um 2 [1,10,91,92,95,96] Z<|G.loop (fun fr C' g l=>∃ (k:Nat),(k<=i/\(List.range k).any (fun k=>X i k)=false)/\fr=[(1,[],.pointer (some ⟨u,0,none⟩)),(10,[],.int .i64 i),(91,[],.int .i64 b.length),(92,[],.int .i64 i),(95,[],.int .i64 i),(96,[],.int .i64 k)]/\g=[]/\l=i-k) (hn_ [1,10,91,92,95,96] Z) ⟨0,⟨QK _,Z⟩,Z,Z,Z⟩ (fun fr aY aZ m av n=>?_);obtain ⟨k,⟨a0,ad⟩,rfl,rfl,rfl⟩:=n;refine Um 1 [1,10,91,92,95,96,97] Z<|Up (fun S=>?_) fun S=>?_
  ·have E:k<i:=by simpa using S
   refine Um 2 [1,10,11,91,92,95,96] Z<|Ur fun R a=>Uo (PtrTo.block (Mem.get f mup) _) U8<|Us 2 Z<|Uz (U h0 w _ mup i k o E) U7<|Ut [1,10,91,92,95,96,102] a Z<|Up (fun T=>?_) fun T=>?_
   ·have aw:X i k=true:=T;have hc:om b.length X=true:=S5.2 ⟨i,QZ.2 o,S5.2 ⟨k,QZ.2 E,aw⟩⟩;exact Um 1 [2] Z<|Uu U2<|⟨by unfold yG;rw [aB h0,w,aB dc_,aJ hc],Z⟩
   have ay:X i k=false:=T;refine Ur fun R a=>Ux _ U7<|C4 1 [1,10,91,92,95,96] a Z<|UB (m':=i-(k+1)) om_ av (hn_ [1,10,91,92,95,96] Z) ⟨k+1,⟨by omega,by rw [RL,List.any_append,ad];simp [ay]⟩,Z,Z,Z⟩
  have E:k=i:=by
   have:¬ k<i:=by simpa using S
   omega
  subst E;refine Ur fun R a=>Ux _ U7<|C4 1 [1,91,92] a Z<|UB (m':=b.length-(k+1)) om_ mup (hn_ [1,91,92] Z) ⟨k+1,⟨by omega,by unfold om at B ⊢;rw [RL,List.any_append,B];simp [ad]⟩,Z,Z,Z⟩
 have o:i=b.length:=by
  have:¬ i<b.length:=by simpa using Q
  omega
 refine Um 1 [2] Z<|Uu U2<|⟨?_,Z⟩;rw [o] at B;unfold yG;rw [aB h0,w,aB dc_,B];rfl
structure Good (pts:List Pt)(tris:List Tri):Prop where
 ok:MeshOk pts tris
 ne:tris≠[]
 whole:nl pts tris=true
structure MeshIn (C:Mem)(mv:Value)(pts:List Pt)(tris:List Tri):Prop where
 ex:∃ v1 v2,mv=.agg ⟨[v1,v2]⟩/\Sl C 2 v1 (pts.map gp)/\Sl C 3 v2 (tris.map kH)
theorem MeshIn.mono {C D:Mem}{a:Value}{b:List Pt}{c:List Tri}(h:MeshIn C a b c)(d:C.le D):MeshIn D a b c:=by
 obtain ⟨e,f,h1,h2,h3⟩:=h.ex;exact ⟨e,f,h1,h2.mono d,h3.mono d⟩
theorem MeshIn.m_ {D:Mem}{a:Value}(h:MeshIn C a pts tris)(b:C.le D:=by exact mup):MeshIn D a pts tris:=MeshIn.mono h b
def nox:Nat->Nat->Bool:=fun _ _=>false
theorem jV (C:Mem)(f:Tabs C)(d:Value)(a:List Pt)(b:List Tri)(g:MeshIn C d a b)(c:Good a b):Gives cx.P 66 [d] C (.int .i64 0):=by
 obtain ⟨i,j,rfl,h1,h2⟩:=g.ex;have h:=Gt C f i j a b nox h1 h2 c.ok (fun _ h3=>by rw [c.whole] at h3;cases h3);have e:yG a b nox=0:=by unfold yG;rw [aB c.ne,aJ c.whole]
 rwa [e] at h
def cor (pts:List Pt)(t:Tri)(j:Nat):Pt:=pts.getD (mC t j) (0,0)
def yM (pts:List Pt)(p:Pt)(t:Tri):Bool:=decide (0<=dG (cor pts t 0) (cor pts t 1) p) && decide (0<=dG (cor pts t 1) (cor pts t 2) p) && decide (0<=dG (cor pts t 2) (cor pts t 0) p)
def lO (pts:List Pt)(tris:List Tri)(p:Pt):List Nat:=(List.range tris.length).filter fun i=>yM pts p (tris.getD i (0,0,0))
theorem nC (h:MeshOk pts tris)(a:t∈tris)(j:Nat):QP 1 (cor pts t j):=h.q _ (Bm (eT (h.ins t a) j))
theorem QP.le {k m:Nat}{p:Pt}(h:QP k p)(a:k<=m):QP m p:=⟨h.1.le a,h.2.le a⟩
theorem sU (C:Mem)(d:Value)(a:List Pt)(b:List Tri)(f:MeshIn C d a b)(g:MeshOk a b)(i:Nat)(t:Tri)(e:b[i]?=some t) :
  Gives cx.P 156 [d,.int .i64 i] C (NS (cor a t 0) (cor a t 1) (cor a t 2)):=by
 obtain ⟨h,j,rfl,h1,h2⟩:=f.ex;have c:=g.ins t (PN e);exact D8 C h j a b i t _ _ _ h1 h2 e (pn c.1) (pn c.2.1) (pn c.2.2)
theorem FG (h:QP k p)(a:k<=1000):(qtx p.1).length<=999998/\(qtx p.2).length<=999998:=by
 have h1:=bG (h.1.le (Ta k)) om_;have h2:=bG (h.2.le (Ta k)) om_;exact ⟨by omega,by omega⟩
def PtR (p:Pt):Prop:=aW (qtx p.1)=true/\aW (qtx p.2)=true
theorem ix (C:Mem)(c:Tabs C)(p:Pt)(a:QP 23 p)(b:PtR p):Gives cx.P 99 [ptV p] C (.int .i64 0):=by
 have h:=iy C c (qtx p.1) (qtx p.2) (FG a dc_).1 (FG a dc_).2;rw [b.1,b.2] at h;exact h
theorem pP (C:Mem)(f:Tabs C)(A:Value)(c:List Pt)(a:List Tri)(p:Pt)(B:MeshIn C A c a)(E:Good c a)(F:QP 23 p)(g:PtR p) :
  Pur cx.P 149 [A,ptV p] C fun u D=>∃ v,u=.tuple #[v,.int .i64 0]/\Sl D 1 v ((lO c a p).map aL):=by
 have d:=E.ok;have V:=d.lt;have W:maxLen<=9223372036854775807:=by simp [maxLen]
 have h:=B;obtain ⟨X,Y,rfl,h1,h2⟩:=id B.ex;obtain ⟨A1,c1,rfl,aa,ab,_⟩:=id h1;obtain ⟨A2,c2,rfl,ac,ad,_⟩:=id h2;simp only [ax] at h1 h2 h ⊢;refine Uv func149 34 U3 fun w0=>Ur fun R b=>UG U6 fun N=>UG U6 fun O=>C4 2 [2,3] b Z<|G.freeze 1 Z fun _ _ k=>G.freeze 0 Z fun _ _ H=>Ur fun R b=>Uo (PtrTo.block (Mem.get k mup) _) U8<|Uz (jV _ f.m_ _ c a h.m_ E) U7<|C4 1 [2,3,6] b Z<|Um 2 [2,3,6,12] Z<|Up (fun I=>?_) fun I=>?_
 ·exact absurd I dc_
 refine Ur fun R b=>Uo (PtrTo.block (Mem.get H mup) _) U8<|Uz (ix _ f.m_ p F g) U7<|C4 1 [2,3,16] b Z<|Up (fun J=>?_) fun J=>?_
 ·exact absurd J dc_
 refine Um 1 [2,3,7] Z<|Un 1 Z fun R b=>Uo (PtrTo.block (Mem.get k mup) _) U8<|C4 2 [2,3,7,19,20] b Z<|G.nilArr 3 1<|G.loop (fun fr C' K Q=>∃ (i:Nat)(out:List Nat)(w:Value),(i<=a.length/\out=(List.range i).filter (fun i=>yM c p (a.getD i (0,0,0))))/\fr=[(2,[],.pointer (some ⟨N,0,none⟩)),(3,[],.pointer (some ⟨O,0,none⟩)),(7,[],w),(19,[],.int .i64 a.length),(20,[],.int .i64 i)]/\K=[.arr w 3 1 out.length (out.map aL).flatten]/\Q=a.length-i) (hn_ [2,3,7,19,20] Z) ⟨0,[],_,⟨QK _,Z⟩,Z,Z,Z⟩ (fun fr ae af m _ S=>?_);obtain ⟨i,out,w,⟨hi,e⟩,rfl,rfl,rfl⟩:=S;refine Um 1 [2,3,7,19,20,21] Z<|Up (fun l=>?_) fun l=>?_
 ·have n:i<a.length:=by simpa using l
  obtain ⟨t,o⟩:∃ t,a[i]?=some t:=⟨a[i],aj n⟩;have q:=PN o;have L:a.getD i (0,0,0)=t:=by rw [al,o];rfl
  have ag:out.length<=i:=by
   rw [e];exact Q1 (RT _ _) am
  refine Um 2 [2,3,7,8,19,20] Z<|UK [0,1,2,3,4] [(2,1),(4,1)] Z kr_ fun R hB b=>Uo (PtrTo.block (Mem.get k mup) _) U8<|Uq U6<|UV (fun _=>(sU _ _ c a h.m_ d i t o)) U9<|Uo (PtrTo.block (Mem.get H mup) _) U8<|UL (fun _=>(GR _ f.m_ (cor c t 0) (cor c t 1) (cor c t 2) p 23 dc_ dc_ ((nC d q 0).le dc_) ((nC d q 1).le dc_) ((nC d q 2).le dc_) F)) U9<|Ut [2,3,7,8,19,20,27] b Z<|Up (fun s=>?_) fun s=>?_
  ·have x:yM c p t=true:=s;have z:(List.range (i+1)).filter (fun i=>yM c p (a.getD i (0,0,0)))=out++[i]:=by rw [RL,Sh,<- e,List.filter_cons,L,x];rfl
   refine Un 2 Z fun R b=>UJ [aL i] U12 fun ah _ _ T=>D.append (j:=0) U11 T Z aw (by simp only [aU];omega) fl_ fun M=>C4 1 [2,3,7,19,20] b Z<|Ur fun R b=>Ux _ U7<|C4 1 [2,3,7,19,20] b Z<|UF (L':=[.arr M 3 1 (out++[i]).length ((out++[i]).map aL).flatten]) (by simp [aL])<|UB (m':=a.length-(i+1)) om_ mup (hn_ [2,3,7,19,20] Z) ⟨i+1,out++[i],M,⟨by omega,z.symm⟩,Z,Z,Z⟩
  have x:yM c p t=false:=s;have z:(List.range (i+1)).filter (fun i=>yM c p (a.getD i (0,0,0)))=out:=by rw [RL,Sh,<- e,List.filter_cons,L,x];simp
  refine Ur fun R b=>Ux _ U7<|C4 1 [2,3,7,19,20] b Z<|UB (m':=a.length-(i+1)) om_ mup (hn_ [2,3,7,19,20] Z) ⟨i+1,out,w,⟨by omega,z.symm⟩,Z,Z,Z⟩
 have n:i=a.length:=by
  have:¬ i<a.length:=by simpa using l
  omega
 refine Um 3 [4,5] Z<|G.freezeArr 0 (out.map aL) rfl rfl (by intro r g;obtain ⟨y,_,rfl⟩:=QM.1 g;rfl) am fun Cg hg U=>UA (G.dropAll (UP U3 ?_));refine ⟨Z,_,Z, ?_⟩;rw [n] at e;unfold lO;rw [<- e];exact U
theorem qG (C:Mem)(g:Tabs C)(d:Value)(a:List Pt)(b:List Tri)(p:Pt)(e:MeshIn C d a b)(h:Good a b)(i:QP 23 p)(j:PtR p) :
  Gives cx.P 97 [d,ptV p] C (.tuple #[.bool (decide (lO a b p≠[])),.int .i64 0]):=by
 have k:=e;obtain ⟨n,o,rfl,h1,h2⟩:=id e.ex;refine Uv func97 18 U3 fun w0=>Ur fun R c=>UG U6 fun q=>UG U6 fun r=>C4 2 [2,3] c Z<|Ur fun R c=>Uw ae U9<|Uw af U9<|UW (pP _ g.m_ _ a b p k.m_ h i j) U7 (fun s _ _ l=>?_);obtain ⟨t,rfl,m⟩:=l;obtain ⟨u,v,f,_⟩:=id m;rw [ax] at f;subst f;refine C4 5 [6,7] c Z<|Um 6 [4,5] Z<|UA (G.dropAll (UP U3 ?_));refine ⟨?_,Z⟩;have:decide (((lO a b p).length:Int) > 0)=decide (lO a b p≠[]):=by
  rw [Rv,<- Ru];omega
 rw [<- this]
theorem zx (C:Mem)(j:Tabs C)(d:Value)(c:List Pt)(b:List Tri)(i:Nat)(e:MeshIn C d c b)(k:Good c b)(l:i<b.length) :
  Gives cx.P 273 [d,.int .i64 i] C (.int .i64 0):=by
 have f:=e;obtain ⟨m,n,rfl,h1,h2⟩:=id e.ex;obtain ⟨A2,c2,rfl,o,p,_⟩:=id h2;simp only [ax] at h1 h2 f ⊢;refine Uv func273 20 U3 fun w0=>Ur fun R a=>UG U6 fun q=>C4 1 [1,2] a Z<|Ur fun R a=>Uw af U9<|Uz (jV _ j.m_ _ c b f.m_ k) U7<|C4 1 [1,2,5] a Z<|Um 2 [1,2,5,9] Z<|Up (fun g=>?_) fun g=>?_
 ·exact absurd g dc_
 refine Un 5 Z fun R a=>Uw af U9<|Us 2 Z<|UU U8<|Ut [19] a Z<|Up (fun h=>?_) fun h=>?_
 ·exfalso;simp only [Sr,QR] at h;omega
 exact Um 1 [4] Z<|Uu U2<|⟨Z,Z⟩
def wgt (pts:List Pt)(t:Tri)(p:Pt)(j:Nat):Rat:=dG p (cor pts t ((j+1) % 3)) (cor pts t ((j+2) % 3)) / dG (cor pts t 0) (cor pts t 1) (cor pts t 2)
theorem jU (a:MeshOk pts tris)(b:t∈tris):dG (cor pts t 0) (cor pts t 1) (cor pts t 2)≠0:=by
 have h:=a.pos t b;intro e;have c:dG (pts.getD t.1 (0,0)) (pts.getD t.2.1 (0,0)) (pts.getD t.2.2 (0,0))=0:=e;rw [c] at h;exact absurd h dc_
theorem Fj (C:Mem)(g:Tabs C)(x:Value)(c:List Pt)(h:List Tri)(p:Pt)(i:Nat)(t:Tri)(y:MeshIn C x c h)(z:Good c h)(l:QP 23 p)(O:PtR p)(o:h[i]?=some t)(q:∀ j,QB 22 (wgt c t p j)) :
  Gives cx.P 239 [x,.int .i64 i,ptV p] C (.tuple #[.agg ⟨[ai (qtx (wgt c t p 0)),ai (qtx (wgt c t p 1)),ai (qtx (wgt c t p 2))]⟩,.int .i64 0]):=by
 have r:=z.ok;have A:=PN o;have Q:=(aE.1 o).1;have B:=y;obtain ⟨v1,v2,rfl,h1,h2⟩:=id y.ex;have e:=fun j=>(nC r A j).le (show 1<=23 by decide);have s:=jU r A;have u:∀ a b,QP 23 a->QP 23 b->QB 189 (dG p a b):=fun a b S T=>(zI l S T).le dc_;have v:QB 189 (dG (cor c t 0) (cor c t 1) (cor c t 2)):=(zI (e 0) (e 1) (e 2)).le dc_;refine Uv func239 69 U3 fun w0=>Ur fun R d=>UG U6 fun b3=>UG U6 fun U=>UI U5 fun D=>C4 1 [1,3,5,6] d Z<|G.freeze 2 Z fun _ _ E=>G.freeze 1 Z fun _ _ n=>Ur fun R d=>Uo (PtrTo.block (Mem.get E mup) _) U8<|Uq U6<|Uz (zx _ g.m_ _ c h i B.m_ z Q) U7<|C4 1 [1,3,5,6,8] d Z<|Um 2 [1,3,5,6,8,18] Z<|Up (fun F=>?_) fun F=>?_
 ·exact absurd F dc_
 refine Ur fun R d=>Uo (PtrTo.block (Mem.get n mup) _) U8<|Uz (ix _ g.m_ p l O) U7<|C4 1 [1,3,5,6,23] d Z<|Up (fun H=>?_) fun H=>?_
 ·exact absurd H dc_
 refine Ur fun R d=>Uo (PtrTo.block (Mem.get E mup) _) U8<|Uq U6<|Uz (sU _ _ c h B.m_ r i t o) U7<|UI U5 fun V=>Uy (j:=0) U12<|Ut [5,6,9] d Z<|G.freeze 0 Z fun _ _ f=>Ur fun R d=>UI U5 fun I=>Ut [5,6,9,10] d Z<|Um 1 [5,6,9,10,28] Z<|G.loop (fun fr C' W X=>∃ (j:Nat),(j<=3)/\fr=[(5,[],.pointer (some ⟨U,0,none⟩)),(6,[],.pointer (some ⟨D,0,none⟩)),(9,[],.pointer (some ⟨V,0,none⟩)),(10,[],.pointer (some ⟨I,0,none⟩)),(28,[],.int .i64 j)]/\W=[.obj I (.cells ⟨(List.range 3).map fun k=>if k<j then ai (qtx (wgt c t p k)) else ai []⟩ 328 (0,0)),.obj D (.cells ⟨[ai [],ai [],ai []]⟩ 328 (0,0))]/\X=3-j) (hn_ [5,6,9,10,28] Z) ⟨0,QK _,Z,Z,Z⟩ (fun fr aa ab m _ Y=>?_);obtain ⟨j,hj,rfl,rfl,rfl⟩:=Y;refine Um 1 [5,6,9,10,28,29] Z<|Up (fun w=>?_) fun w=>?_
 ·have J:j<3:=by
   simp only [QR] at w;omega
  rcases (by omega:j=0∨j=1∨j=2) with rfl | rfl | rfl
  ·refine Um 2 [5,6,9,10,11,28] Z<|UK [0,1,2,3,4,5,6,7,8,9,10,11,12,13,14,15,16,17,18,19,20,21,22,23,24,25] [(12,1),(19,1),(20,1)] Z kr_ fun R K d=>Uq U6<|Uo (PtrTo.block (Mem.get n mup) _) U8<|Uq U6<|Ux _ U7<|Vx U6 om_ om_ U2<|UN (_) U9 ag U2<|Uo (bkT f 2) U8<|Uq U6<|Ux _ U7<|Vx U6 om_ om_ U2<|UN (_) U9 ag U2<|Uo (bkT f 2) U8<|UL (fun _=>(kZ _ g.m_ p (cor c t ((0+1) % 3)) (cor c t ((0+2) % 3)) 23 dc_ dc_ l (e _) (e _))) U9<|UN (0) U9 ag U2<|Uo (bkT f 2) U8<|UN (2) U9 ag U2<|Uo (bkT f 2) U8<|UN (4) U9 ag U2<|Uo (bkT f 2) U8<|UL (fun _=>(kZ _ g.m_ (cor c t 0) (cor c t 1) (cor c t 2) 23 dc_ dc_ (e 0) (e 1) (e 2))) U9<|UL (fun _=>(jb _ g.m_ _ _ 189 dc_ dc_ (u _ _ (e _) (e _)) v s)) U9<|Us 3 Z<|UN (_) U9 ag U2<|Uy (j:=0) U12<|Ut [5,6,9,10,11,28] d Z<|Un 1 Z fun R d=>UN (_) U9 ag U2<|Uw af U9<|Uz (tU _ g.m_ (wgt c t p 0) (q 0)) U7<|C4 5 [5,6,9,10,13,28] d Z<|Um 2 [5,6,9,10,13,28,64] Z<|Up (fun L=>?_) fun L=>?_
   ·exact absurd L dc_
   refine Ur fun R d=>Ux _ U7<|C4 1 [5,6,9,10,28] d Z<|UB (m':=2) om_ mup (hn_ [5,6,9,10,28] Z) ⟨1,by decide,Z,Z,Z⟩
  ·refine Um 2 [5,6,9,10,11,28] Z<|UK [0,1,2,3,4,5,6,7,8,9,10,11,12,13,14,15,16,17,18,19,20,21,22,23,24,25] [(12,1),(19,1),(20,1)] Z kr_ fun R K d=>Uq U6<|Uo (PtrTo.block (Mem.get n mup) _) U8<|Uq U6<|Ux _ U7<|Vx U6 om_ om_ U2<|UN (_) U9 ag U2<|Uo (bkT f 2) U8<|Uq U6<|Ux _ U7<|Vx U6 om_ om_ U2<|UN (_) U9 ag U2<|Uo (bkT f 2) U8<|UL (fun _=>(kZ _ g.m_ p (cor c t ((1+1) % 3)) (cor c t ((1+2) % 3)) 23 dc_ dc_ l (e _) (e _))) U9<|UN (0) U9 ag U2<|Uo (bkT f 2) U8<|UN (2) U9 ag U2<|Uo (bkT f 2) U8<|UN (4) U9 ag U2<|Uo (bkT f 2) U8<|UL (fun _=>(kZ _ g.m_ (cor c t 0) (cor c t 1) (cor c t 2) 23 dc_ dc_ (e 0) (e 1) (e 2))) U9<|UL (fun _=>(jb _ g.m_ _ _ 189 dc_ dc_ (u _ _ (e _) (e _)) v s)) U9<|Us 3 Z<|UN (_) U9 ag U2<|Uy (j:=0) U12<|Ut [5,6,9,10,11,28] d Z<|Un 1 Z fun R d=>UN (_) U9 ag U2<|Uw af U9<|Uz (tU _ g.m_ (wgt c t p 1) (q 1)) U7<|C4 5 [5,6,9,10,13,28] d Z<|Um 2 [5,6,9,10,13,28,64] Z<|Up (fun M=>?_) fun M=>?_
   ·exact absurd M dc_
   refine Ur fun R d=>Ux _ U7<|C4 1 [5,6,9,10,28] d Z<|UB (m':=1) om_ mup (hn_ [5,6,9,10,28] Z) ⟨2,by decide,Z,Z,Z⟩
  refine Um 2 [5,6,9,10,11,28] Z<|UK [0,1,2,3,4,5,6,7,8,9,10,11,12,13,14,15,16,17,18,19,20,21,22,23,24,25] [(12,1),(19,1),(20,1)] Z kr_ fun R K d=>Uq U6<|Uo (PtrTo.block (Mem.get n mup) _) U8<|Uq U6<|Ux _ U7<|Vx U6 om_ om_ U2<|UN (_) U9 ag U2<|Uo (bkT f 2) U8<|Uq U6<|Ux _ U7<|Vx U6 om_ om_ U2<|UN (_) U9 ag U2<|Uo (bkT f 2) U8<|UL (fun _=>(kZ _ g.m_ p (cor c t ((2+1) % 3)) (cor c t ((2+2) % 3)) 23 dc_ dc_ l (e _) (e _))) U9<|UN (0) U9 ag U2<|Uo (bkT f 2) U8<|UN (2) U9 ag U2<|Uo (bkT f 2) U8<|UN (4) U9 ag U2<|Uo (bkT f 2) U8<|UL (fun _=>(kZ _ g.m_ (cor c t 0) (cor c t 1) (cor c t 2) 23 dc_ dc_ (e 0) (e 1) (e 2))) U9<|UL (fun _=>(jb _ g.m_ _ _ 189 dc_ dc_ (u _ _ (e _) (e _)) v s)) U9<|Us 3 Z<|UN (_) U9 ag U2<|Uy (j:=0) U12<|Ut [5,6,9,10,11,28] d Z<|Un 1 Z fun R d=>UN (_) U9 ag U2<|Uw af U9<|Uz (tU _ g.m_ (wgt c t p 2) (q 2)) U7<|C4 5 [5,6,9,10,13,28] d Z<|Um 2 [5,6,9,10,13,28,64] Z<|Up (fun N=>?_) fun N=>?_
  ·exact absurd N dc_
  refine Ur fun R d=>Ux _ U7<|C4 1 [5,6,9,10,28] d Z<|UB (m':=0) om_ mup (hn_ [5,6,9,10,28] Z) ⟨3,by decide,Z,Z,Z⟩
 have J:j=3:=by
  simp only [Q2] at w;omega
 subst J;refine Ur fun R d=>Uw af U9<|Uy (j:=1) U12<|C4 1 [6,7] d Z<|UA (Vw af U5 ?_);exact ⟨Z,Z⟩
theorem ce {f:α->List Value}{l:List α}{x:α}(h:l[i]?=some x):(l.map f)[i]?=some (f x):=by rw [QI,h];rfl
def BY (n:Nat)(l:List Str):Int:=if l.length=n then qK (l.all aW) else 5
theorem xC (C:Mem)(y:Tabs C)(z v A:Value)(b:List Pt)(f:List Tri)(l:List Str)(B:MeshIn C z b f)(D:Good b f)(g:Sl C 1 v [[A]])(k:Sl C 1 A (l.map nM))(N:∀ s∈l,s.length<=999998) :
  Gives cx.P 103 [z,v] C (.int .i64 (BY b.length l)):=by
 have E:=B;have Y:=D.ok.lp;obtain ⟨v1,v2,rfl,h1,h2⟩:=id B.ex;obtain ⟨A1,c1,rfl,aa,ab,_⟩:=id h1;obtain ⟨F,H,rfl,ac,ad,_⟩:=id g;obtain ⟨n,o,rfl,O,ae,_⟩:=id k;have af:maxLen<=9223372036854775807:=by simp [maxLen]
 simp only [ax,aU] at h1 g k E O ⊢;refine Uv func103 41 U3 fun w0=>Ur fun R a=>UG U6 fun I=>C4 1 [1,2] a Z<|G.freeze 0 Z fun _ _ J=>Ur fun R a=>Uo (PtrTo.block (Mem.get J mup) _) U8<|Uz (jV _ y.m_ _ b f E.m_ D) U7<|C4 1 [1,2,5] a Z<|Um 2 [1,2,5,14] Z<|Up (fun K=>?_) fun K=>?_
 ·exact absurd K dc_
 refine Um 3 [2,16,17,18] Z<|G.loop (fun fr C' p q=>∃ (i:Nat),(i<=1/\(i=1->l.length=b.length/\l.all aW=true))/\fr=[(2,[],.pointer (some ⟨I,0,none⟩)),(16,[],.slice F 1 H),(17,[],.int .i64 1),(18,[],.int .i64 i)]/\p=[]/\q=1-i) (hn_ [2,16,17,18] Z) ⟨0,⟨QK _,fun h=>absurd h dc_⟩,Z,Z,Z⟩ (fun fr ag ah m _ r=>?_);obtain ⟨i,⟨hi,Q⟩,rfl,rfl,rfl⟩:=r;refine Um 1 [2,16,17,18,19] Z<|Up (fun t=>?_) fun t=>?_
 ·obtain rfl:i=0:=by
   simp only [QR] at t;omega
  refine Ur fun R a=>UE g.m_ U10 om_ (rfl:([[.slice n l.length o]]:List (List Value))[0]?=some [.slice n l.length o]) fl_ fun ai S=>Uo S U8<|C4 1 [2,7,16,17,18] a Z<|Un 3 Z fun R a=>Uo (PtrTo.block (Mem.get J mup) _) U8<|C4 2 [2,7,16,17,18,27] a Z<|Up (fun d=>?_) fun d=>?_
  ·have T:l.length≠b.length:=by
    intro e;rw [e] at d;simp at d
   exact Um 1 [4] Z<|Uu U2<|⟨by unfold BY;rw [aB T],Z⟩
  have L:l.length=b.length:=by
   have h:((l.length:Nat):Int)=(b.length:Nat):=by simpa using d
   omega
  refine Um 3 [2,16,17,18,28,29,30] Z<|G.loop (fun fr C' p q=>∃ (j:Nat),(j<=l.length/\(l.take j).all aW=true)/\fr=[(2,[],.pointer (some ⟨I,0,none⟩)),(16,[],.slice F 1 H),(17,[],.int .i64 1),(18,[],.int .i64 0),(28,[],.slice n l.length o),(29,[],.int .i64 l.length),(30,[],.int .i64 j)]/\p=[]/\q=l.length-j) (hn_ [2,16,17,18,28,29,30] Z) ⟨0,⟨QK _,by simp⟩,Z,Z,Z⟩ (fun fr ak al m U r=>?_);obtain ⟨j,⟨hj,u⟩,rfl,rfl,rfl⟩:=r;refine Um 1 [2,16,17,18,28,29,30,31] Z<|Up (fun w=>?_) fun w=>?_
  ·have x:j<l.length:=by simpa using w
   obtain ⟨s,hs⟩:∃ s,l[j]?=some s:=⟨l[j],aj x⟩;refine Ur fun R a=>UE k.m_ U10 om_ (ce hs) fl_ fun am V=>Uo V U8<|C4 1 [2,9,16,17,18,28,29,30] a Z<|Un 1 Z fun R a=>Uz (dW _ y.m_ s (N s (PN hs))) U7<|C4 1 [2,10,16,17,18,28,29,30] a Z<|Um 2 [2,10,16,17,18,28,29,30,37] Z<|Up (fun c=>?_) fun c=>?_
   ·have M:aW s=false:=by
     rcases gS (aW s) with ⟨h1,h2⟩ | ⟨h1,h2⟩
     ·rw [h1] at c;exact absurd c dc_
     exact h2
    refine Um 2 [4] Z<|Uu U2<|⟨?_,Z⟩;unfold BY;rw [aJ L,M,show l.all aW=false from Tv.2 ⟨s,PN hs,by rw [M];decide⟩]
   have W:aW s=true:=by
    rcases gS (aW s) with ⟨h1,h2⟩ | ⟨h1,h2⟩
    ·exact h2
    rw [h1] at c;exact absurd c dc_
   refine Ur fun R a=>Ux _ U7<|C4 1 [2,16,17,18,28,29,30] a Z<|UB (m':=l.length-(j+1)) om_ U (hn_ [2,16,17,18,28,29,30] Z) ⟨j+1,⟨by omega,by rw [Q5,hs,T8,u];simp [W]⟩,Z,Z,Z⟩
  have x:j=l.length:=by
   have:¬ j<l.length:=by simpa using w
   omega
  refine Ur fun R a=>Ux _ U7<|C4 1 [2,16,17,18] a Z<|UB (m':=0) om_ mup (hn_ [2,16,17,18] Z) ⟨1,⟨QG _,fun _=>⟨L,by rw [x,QV] at u;exact u⟩⟩,Z,Z,Z⟩
 have X:i=1:=by
  simp only [Q2] at t;omega
 refine Um 1 [4] Z<|Uu U2<|⟨?_,Z⟩;obtain ⟨h3,h4⟩:=Q X;unfold BY;rw [aJ h3,h4];rfl
theorem uD (C:Mem)(h:Tabs C)(e f:Value)(a:List Pt)(b:List Tri)(l:List Str)(g:MeshIn C e a b)(i:Good a b)(c:Sl C 1 f (l.map nM))(j:∀ s∈l,s.length<=999998) :
  Gives cx.P 67 [e,f] C (.int .i64 (BY a.length l)):=by
 have k:=g;obtain ⟨p,q,rfl,h1,h2⟩:=id g.ex;obtain ⟨m,n,rfl,r,t,_⟩:=id c;simp only [ax] at c ⊢;exact Uv func67 9 U3 fun w0=>Ur fun R d=>UG U6 fun u=>C4 1 [1,2] d Z<|Ur fun R d=>Uw af U9<|Uq U6<|UJ [[.slice m l.length n]] U12 fun v _ _ o=>Uz (xC _ h.m_ _ _ _ a b l k.m_ i o.m_ c.m_ j) U7<|C4 1 [4] d Z<|Uu U2<|⟨Z,Z⟩
def fa (q:Rat):List Value:=[ai (qtx q)]
def fz (fs:List Rat)(t:Tri)(j:Nat):Rat:=fs.getD (mC t j) 0
def zm (pts:List Pt)(fs:List Rat)(t:Tri)(j:Nat):List Value:=gp (cor pts t j)++fa (fz fs t j)
theorem G6 (h:i<fs.length):fs[i]?=some (fs.getD i 0):=by
 rw [al,aj h];rfl
theorem yZ (C:Mem)(r s:Value)(b:List Pt)(l:List Tri)(c:List Rat)(z:MeshIn C r b l)(A:MeshOk b l)(e:Sl C 1 s (c.map fa))(n:c.length=b.length)(i:Nat)(t:Tri)(o:l[i]?=some t) :
  Gives cx.P 298 [r,s,.int .i64 i] C (.agg ⟨zm b c t 0++zm b c t 1++zm b c t 2⟩):=by
 have d:=A.ins t (PN o);obtain ⟨M,N,rfl,h1,h2⟩:=id z.ex;obtain ⟨O,Q,rfl,B,S,_⟩:=id h1;obtain ⟨A2,c2,rfl,D,T,_⟩:=id h2;obtain ⟨E,F,rfl,U,V,_⟩:=id e;have W:maxLen<=9223372036854775807:=by simp [maxLen]
 simp only [ax] at h1 h2 e B D ⊢;have X:=(aE.1 o).1;refine Uv func298 32 U3 fun w0=>?_;refine Ur fun R a=>?_;refine UG U6 (fun H=>?_);refine UI U5 (fun u=>?_);refine Ut [1,2,3,6] a Z ?_;refine G.freeze 1 Z (fun _ _ h=>?_);refine Un 1 Z fun R a=>?_;refine Uo (PtrTo.block (Mem.get h mup) _) U8 ?_;refine Uq U6 ?_;refine UE h2.m_ U10 om_ (ce o) fl_ (fun Y I=>?_);refine Uo I U8 ?_;refine C4 1 [1,3,6,13,14] a Z ?_;refine G.loop (fun fr C' J K=>∃ (j:Nat),(j<=3)/\fr=[(1,[],.slice E c.length F),(3,[],.pointer (some ⟨H,0,none⟩)),(6,[],.pointer (some ⟨u,0,none⟩)),(13,[],.agg ⟨kH t⟩),(14,[],.int .i64 j)]/\J=[.obj u (.cells ⟨(List.range 3).flatMap fun k=>if k<j then zm b c t k else [ai [],ai [],ai []]⟩ 391 (0,0))]/\K=3-j) (hn_ [1,3,6,13,14] Z) ⟨0,QK _,Z,Z,Z⟩ (fun fr aa ab m p L=>?_);obtain ⟨j,hj,rfl,rfl,rfl⟩:=L;refine Um 1 [1,3,6,13,14,15] Z ?_;refine Up (fun q=>?_) fun q=>?_
 ·have v:j<3:=by
   simp only [QR] at q;omega
  rcases (by omega:j=0∨j=1∨j=2) with rfl | rfl | rfl
  ·refine Un 1 Z fun R a=>?_;refine Vp U11 ag U2 ?_;refine C4 2 [1,3,6,7,8,13,14] a Z ?_;refine UK [0,1,2,3,4,5,6,7,8,9,10,11,12] [] Z kr_ (fun R w a=>?_);refine Us 2 Z ?_;refine Uo (PtrTo.block (Mem.get h mup) _) U8 ?_;refine Uq U6 ?_;refine UE h1.m_ U10 om_ (ce (pn (eT d 0))) fl_ (fun x f=>?_);refine Uo f U8 ?_;refine Us 2 Z ?_;refine UE e.m_ U10 om_ (ce (G6 (n ▸ eT d 0))) fl_ (fun y g=>?_);refine Uo g U8 ?_;refine UH (zm b c t 0) U8 ?_;refine UN (_) U9 ag U2 ?_;refine Uy (j:=0) U12 ?_;refine Ut [1,3,6,13,14] a Z ?_;refine Ur fun R a=>?_;refine Ux _ U7 ?_;refine C4 1 [1,3,6,13,14] a Z ?_;refine UB (m':=2) om_ p (hn_ [1,3,6,13,14] Z) ⟨1,by decide,Z,Z,Z⟩
  ·refine Un 1 Z fun R a=>?_;refine Vp U11 ag U2 ?_;refine C4 2 [1,3,6,7,8,13,14] a Z ?_;refine UK [0,1,2,3,4,5,6,7,8,9,10,11,12] [] Z kr_ (fun R w a=>?_);refine Us 2 Z ?_;refine Uo (PtrTo.block (Mem.get h mup) _) U8 ?_;refine Uq U6 ?_;refine UE h1.m_ U10 om_ (ce (pn (eT d 1))) fl_ (fun x f=>?_);refine Uo f U8 ?_;refine Us 2 Z ?_;refine UE e.m_ U10 om_ (ce (G6 (n ▸ eT d 1))) fl_ (fun y g=>?_);refine Uo g U8 ?_;refine UH (zm b c t 1) U8 ?_;refine UN (_) U9 ag U2 ?_;refine Uy (j:=0) U12 ?_;refine Ut [1,3,6,13,14] a Z ?_;refine Ur fun R a=>?_;refine Ux _ U7 ?_;refine C4 1 [1,3,6,13,14] a Z ?_;refine UB (m':=1) om_ p (hn_ [1,3,6,13,14] Z) ⟨2,by decide,Z,Z,Z⟩
  refine Un 1 Z fun R a=>?_;refine Vp U11 ag U2 ?_;refine C4 2 [1,3,6,7,8,13,14] a Z ?_;refine UK [0,1,2,3,4,5,6,7,8,9,10,11,12] [] Z kr_ (fun R w a=>?_);refine Us 2 Z ?_;refine Uo (PtrTo.block (Mem.get h mup) _) U8 ?_;refine Uq U6 ?_;refine UE h1.m_ U10 om_ (ce (pn (eT d 2))) fl_ (fun x f=>?_);refine Uo f U8 ?_;refine Us 2 Z ?_;refine UE e.m_ U10 om_ (ce (G6 (n ▸ eT d 2))) fl_ (fun y g=>?_);refine Uo g U8 ?_;refine UH (zm b c t 2) U8 ?_;refine UN (_) U9 ag U2 ?_;refine Uy (j:=0) U12 ?_;refine Ut [1,3,6,13,14] a Z ?_;refine Ur fun R a=>?_;refine Ux _ U7 ?_;refine C4 1 [1,3,6,13,14] a Z ?_;refine UB (m':=0) om_ p (hn_ [1,3,6,13,14] Z) ⟨3,by decide,Z,Z,Z⟩
 have v:j=3:=by
  simp only [Q2] at q;omega
 subst v;refine Ur fun R a=>?_;refine Uw af U9 ?_;refine Uy (j:=0) U12 ?_;refine Ut [6] a Z ?_;refine UA (Vj af U4 ?_);exact ⟨Z,Z⟩
/-! Finer bounds. -/
theorem jB (c:QB k a)(d:QB m b):QB (k+m) (a*b):=by
 rw [gA];refine fV (Nat.mul_ne_zero a.den_nz b.den_nz) ?_ ?_
 ·rw [Se,Ts];exact Si c.1 d.1
 rw [Ts];exact Si c.2 d.2
theorem vg (c:QB k a)(d:QB m b):QB (k+m+1) (a+b):=by
 rw [gC];have e:B9 ^ (k+m+1)=B9 ^ k*B9 ^ m*B9:=by rw [RY,Ts]
 have f:(a.num*b.den).natAbs<B9 ^ k*B9 ^ m:=by rw [Se,Rt];exact Si c.1 d.2
 have g:(b.num*a.den).natAbs<B9 ^ k*B9 ^ m:=by rw [Se,Rt,Rw];exact Si c.2 d.1
 have h:a.den*b.den<B9 ^ k*B9 ^ m:=Si c.2 d.2;have i:2*(B9 ^ k*B9 ^ m)<=B9 ^ k*B9 ^ m*B9:=by
  rw [Rw];exact R6 _ dc_
 refine fV (Nat.mul_ne_zero a.den_nz b.den_nz) ?_ ?_
 ·rw [e];have:=Ti (a.num*b.den) (b.num*a.den);omega
 rw [e];omega
theorem eY (c:QB k a)(d:QB m b):QB (k+m+1) (a-b):=by
 rw [Ug];exact vg c (fZ d)
theorem QB_one:QB 1 1:=⟨by decide,by decide⟩
theorem QB_zero:QB 1 0:=⟨by decide,by decide⟩
def eE (a b c d:Rat):Rat:=a*d-b*c
theorem qm (C:Mem)(e:Tabs C)(a b c d:Rat)(k:Nat)(f:0<k)(m:k<=2000)(g:QB k a)(h:QB k b)(i:QB k c)(j:QB k d):Gives cx.P 299 [ai (qtx a),ai (qtx b),ai (qtx c),ai (qtx d)] C (ai (qtx (eE a b c d))):=by
 exact Uv func299 16 U3 fun w0=>Um 1 [0,1,2,3] Z<|Un 2 Z fun R l=>UC (dy _ e.m_ a d k f om_ g j) U7 fl_<|Us 2 Z<|UC (dy _ e.m_ b c k f om_ h i) U7 fl_<|UC (ek _ e.m_ (a*d) (b*c) (k+k) om_ om_ (qV g j) (qV h i)) U7 fl_<|C4 1 [8] l Z<|Uu U2<|⟨Z,Z⟩
theorem kh {d:Rat}(e:QB k a)(f:QB k b)(g:QB k c)(h:QB k d):QB (4*k+1) (eE a b c d):=(eY (jB e h) (jB f g)).le om_
def oR (c0 c1 c2:Pt)(z0 z1 z2:Rat):Pt :=
 ((1 / eE (c1.1-c0.1) (c1.2-c0.2) (c2.1-c0.1) (c2.2-c0.2))*eE (z1-z0) (c1.2-c0.2) (z2-z0) (c2.2-c0.2),
 (1 / eE (c1.1-c0.1) (c1.2-c0.2) (c2.1-c0.1) (c2.2-c0.2))*eE (c1.1-c0.1) (z1-z0) (c2.1-c0.1) (z2-z0))
def dP (pts:List Pt)(fs:List Rat)(t:Tri):Pt:=oR (cor pts t 0) (cor pts t 1) (cor pts t 2) (fz fs t 0) (fz fs t 1) (fz fs t 2)
theorem NB (a:MeshOk pts tris)(b:fs.length=pts.length)(c:∀ q∈fs,QB k q)(d:t∈tris)(j:Nat):QB k (fz fs t j) :=
 c _ (PN (G6 (b ▸ eT (a.ins t d) j)))
theorem vT (d:MeshOk pts tris)(g:fs.length=pts.length)(h:∀ q∈fs,QB k q)(e:t∈tris):QP (8*k+39) (dP pts fs t):=by
 have a:=fun j=>nC d e j;have f:=fun j=>NB d g h e j;have b:∀ i j,QB 3 ((cor pts t i).1-(cor pts t j).1):=fun i j=>(eY (a i).1 (a j).1).le dc_;have hy:∀ i j,QB 3 ((cor pts t i).2-(cor pts t j).2):=fun i j=>(eY (a i).2 (a j).2).le dc_;have c:∀ i j,QB (2*k+1) (fz fs t i-fz fs t j):=fun i j=>(eY (f i) (f j)).le om_;have hm:QB 13 (eE ((cor pts t 1).1-(cor pts t 0).1) ((cor pts t 1).2-(cor pts t 0).2) ((cor pts t 2).1-(cor pts t 0).1) ((cor pts t 2).2-(cor pts t 0).2)):=(kh (k:=3) (b 1 0) (hy 1 0) (b 2 0) (hy 2 0)).le dc_;have l:eE ((cor pts t 1).1-(cor pts t 0).1) ((cor pts t 1).2-(cor pts t 0).2) ((cor pts t 2).1-(cor pts t 0).1) ((cor pts t 2).2-(cor pts t 0).2)≠0:=jU d e;have h1:QB 26 _:=(ms (k:=13) (QB_one.le dc_) hm l).le dc_;have m:QB (4*(2*k+3)+1) (eE (fz fs t 1-fz fs t 0) ((cor pts t 1).2-(cor pts t 0).2) (fz fs t 2-fz fs t 0) ((cor pts t 2).2-(cor pts t 0).2)):=kh (k:=2*k+3) ((c 1 0).le om_) ((hy 1 0).le om_) ((c 2 0).le om_) ((hy 2 0).le om_);have n:QB (4*(2*k+3)+1) (eE ((cor pts t 1).1-(cor pts t 0).1) (fz fs t 1-fz fs t 0) ((cor pts t 2).1-(cor pts t 0).1) (fz fs t 2-fz fs t 0)):=kh (k:=2*k+3) ((b 1 0).le om_) ((c 1 0).le om_) ((b 2 0).le om_) ((c 2 0).le om_);exact ⟨(jB h1 m).le om_,(jB h1 n).le om_⟩
theorem xj (C:Mem)(d:Tabs C)(r s:Value)(a:List Pt)(n:List Tri)(b:List Rat)(k:Nat)(u:0<k)(K:k<=100)(v:MeshIn C r a n)(o:MeshOk a n)(D:Sl C 1 s (b.map fa))(w:b.length=a.length)(E:∀ q∈b,QB k q)(i:Nat)(t:Tri)(x:n[i]?=some t) :
  Gives cx.P 276 [r,s,.int .i64 i] C (ptV (dP a b t)):=by
 have p:=PN x;have F:=v;obtain ⟨L,M,rfl,h1,h2⟩:=id v.ex;have e:=fun j=>nC o p j;have m:=fun j=>NB o w E p j;have g:∀ i j,QB 3 ((cor a t i).1-(cor a t j).1):=fun i j=>(eY (e i).1 (e j).1).le dc_;have hy:∀ i j,QB 3 ((cor a t i).2-(cor a t j).2):=fun i j=>(eY (e i).2 (e j).2).le dc_;have l:∀ i j,QB (2*k+1) (fz b t i-fz b t j):=fun i j=>(eY (m i) (m j)).le om_;have y:QB 13 (eE ((cor a t 1).1-(cor a t 0).1) ((cor a t 1).2-(cor a t 0).2) ((cor a t 2).1-(cor a t 0).1) ((cor a t 2).2-(cor a t 0).2)):=(kh (k:=3) (g 1 0) (hy 1 0) (g 2 0) (hy 2 0)).le dc_;have z:eE ((cor a t 1).1-(cor a t 0).1) ((cor a t 1).2-(cor a t 0).2) ((cor a t 2).1-(cor a t 0).1) ((cor a t 2).2-(cor a t 0).2)≠0:=jU o p;have A:QB 26 (1 / eE ((cor a t 1).1-(cor a t 0).1) ((cor a t 1).2-(cor a t 0).2) ((cor a t 2).1-(cor a t 0).1) ((cor a t 2).2-(cor a t 0).2)):=(ms (k:=13) (QB_one.le dc_) y z).le dc_;have H:QB (8*k+26) (eE (fz b t 1-fz b t 0) ((cor a t 1).2-(cor a t 0).2) (fz b t 2-fz b t 0) ((cor a t 2).2-(cor a t 0).2)):=(kh (k:=2*k+3) ((l 1 0).le om_) ((hy 1 0).le om_) ((l 2 0).le om_) ((hy 2 0).le om_)).le om_;have I:QB (8*k+26) (eE ((cor a t 1).1-(cor a t 0).1) (fz b t 1-fz b t 0) ((cor a t 2).1-(cor a t 0).1) (fz b t 2-fz b t 0)):=(kh (k:=2*k+3) ((g 1 0).le om_) ((l 1 0).le om_) ((g 2 0).le om_) ((l 2 0).le om_)).le om_;refine Uv func276 98 U3 fun w0=>?_;refine Ur fun R c=>?_;refine UG U6 (fun N=>?_);refine UI U5 (fun O=>?_);refine Ut [1,2,3,6] c Z ?_;refine Ur fun R c=>?_;refine Uw ae U9 ?_;refine Us 2 Z ?_;refine Uz (yZ _ _ _ a n b F.m_ o D.m_ w i t x) U7 ?_;refine UI U5 (fun Q=>?_);refine Uy (j:=0) U12 ?_;refine Ut [6,7] c Z ?_;refine G.freeze 0 Z (fun J _ f=>?_);refine UK [0,1,2,3,4,5,6,7,8,9,10,11,12,13,14,15,16,17,18,19] [(8,1),(17,1)] Z kr_ (fun R B c=>?_);refine UN (3) U9 ag U2 ?_;refine Us 2 Z ?_;refine Uo (bkT f 1) U8 ?_;refine UN (0) U9 ag U2 ?_;refine Us 2 Z ?_;refine Uo (bkT f 1) U8 ?_;refine UL (fun _=>(ek _ d.m_ (cor a t 1).1 (cor a t 0).1 1 dc_ dc_ (e 1).1 (e 0).1)) U9 ?_;refine UN (3) U9 ag U2 ?_;refine Us 2 Z ?_;refine Uo (bkT f 1) U8 ?_;refine UN (0) U9 ag U2 ?_;refine Us 2 Z ?_;refine Uo (bkT f 1) U8 ?_;refine UL (fun _=>(ek _ d.m_ (cor a t 1).2 (cor a t 0).2 1 dc_ dc_ (e 1).2 (e 0).2)) U9 ?_;refine C4 2 [6,7,8,9] c Z ?_;refine UK [0,1,2,3,4,5,6,7,8,9,10,11,12,13,14,15,16,17,18,19] [(8,1),(17,1)] Z kr_ (fun R B c=>?_);refine UN (6) U9 ag U2 ?_;refine Us 2 Z ?_;refine Uo (bkT f 1) U8 ?_;refine UN (0) U9 ag U2 ?_;refine Us 2 Z ?_;refine Uo (bkT f 1) U8 ?_;refine UL (fun _=>(ek _ d.m_ (cor a t 2).1 (cor a t 0).1 1 dc_ dc_ (e 2).1 (e 0).1)) U9 ?_;refine UN (6) U9 ag U2 ?_;refine Us 2 Z ?_;refine Uo (bkT f 1) U8 ?_;refine UN (0) U9 ag U2 ?_;refine Us 2 Z ?_;refine Uo (bkT f 1) U8 ?_;refine UL (fun _=>(ek _ d.m_ (cor a t 2).2 (cor a t 0).2 1 dc_ dc_ (e 2).2 (e 0).2)) U9 ?_;refine C4 2 [6,7,8,9,10,11] c Z ?_;refine UK [0,1,2,3,4,5,6,7,8,9,10,11,12,13,14,15] [(6,1),(13,1)] Z kr_ (fun R B c=>?_);refine UN (3) U9 ag U2 ?_;refine Uq U6 ?_;refine Uo (bkT f 1) U8 ?_;refine UN (0) U9 ag U2 ?_;refine Uq U6 ?_;refine Uo (bkT f 1) U8 ?_;refine UL (fun _=>(ek _ d.m_ (fz b t 1) (fz b t 0) k u om_ (m 1) (m 0))) U9 ?_;refine UN (6) U9 ag U2 ?_;refine Uq U6 ?_;refine Uo (bkT f 1) U8 ?_;refine UN (0) U9 ag U2 ?_;refine Uq U6 ?_;refine Uo (bkT f 1) U8 ?_;refine UL (fun _=>(ek _ d.m_ (fz b t 2) (fz b t 0) k u om_ (m 2) (m 0))) U9 ?_;refine C4 2 [6,8,9,10,11,12,13] c Z ?_;refine Um 1 [6,8,9,10,11,12,13,14] Z ?_;refine Un 5 Z fun R c=>?_;refine UC (qm _ d.m_ _ _ _ _ 3 dc_ dc_ (g 1 0) (hy 1 0) (g 2 0) (hy 2 0)) U7 fl_ ?_;refine UC (by have h:=jb J d.m_ 1 _ 13 dc_ dc_ (QB_one.le dc_) y z;rw [dA] at h;exact h) U7 fl_ ?_;refine C4 5 [6,8,9,10,11,12,13,14,15] c Z ?_;refine Un 6 Z fun R c=>?_;refine UC (qm _ d.m_ (fz b t 1-fz b t 0) ((cor a t 1).2-(cor a t 0).2) (fz b t 2-fz b t 0) ((cor a t 2).2-(cor a t 0).2) (2*k+3) om_ om_ ((l 1 0).le om_) ((hy 1 0).le om_) ((l 2 0).le om_) ((hy 2 0).le om_)) U7 fl_ ?_;refine UC (dy _ d.m_ _ _ (8*k+26) om_ om_ (A.le om_) H) U7 fl_ ?_;refine Us 6 Z ?_;refine UC (qm _ d.m_ ((cor a t 1).1-(cor a t 0).1) (fz b t 1-fz b t 0) ((cor a t 2).1-(cor a t 0).1) (fz b t 2-fz b t 0) (2*k+3) om_ om_ ((g 1 0).le om_) ((l 1 0).le om_) ((g 2 0).le om_) ((l 2 0).le om_)) U7 fl_ ?_;refine UC (dy _ d.m_ _ _ (8*k+26) om_ om_ (A.le om_) I) U7 fl_ ?_;refine UH (gp (dP a b t)) U8 ?_;refine Uy (j:=0) U12 ?_;refine Ut [6] c Z ?_;refine UA (Vj af U4 ?_);exact ⟨Z,Z⟩
def Ie (l:List Rat):Rat:=l.foldl (·+·) 0
theorem E6 (l:List Rat)(q:Rat):Ie (l++[q])=Ie l+q:=by unfold Ie;rw [List.foldl_append];rfl
theorem MF (C:Mem)(g:Tabs C)(v:Value)(l:List Rat)(k:Nat)(h:0<k)(j:k<=10000)(b:Sl C 1 v (l.map fa))(n:∀ q∈l,QB k q)(o:∀ i,QB k (Ie (l.take i))) :
  Gives cx.P 312 [v] C (ai (qtx (Ie l))):=by
 obtain ⟨p,c0,rfl,r,z,_⟩:=id b;have A:maxLen<=9223372036854775807:=by simp [maxLen]
 simp only [ax] at b r ⊢;refine Uv func312 17 U3 fun w0=>Um 1 [0] Z<|Um 1 [0,3] Z<|Um 3 [3,6,7,8] Z<|G.loop (fun fr C' t u=>∃ (i:Nat)(s:Str),(i<=l.length/\s=qtx (Ie (l.take i)))/\fr=[(3,[],ai s),(6,[],.slice p l.length c0),(7,[],.int .i64 l.length),(8,[],.int .i64 i)]/\t=[]/\u=l.length-i) (hn_ [3,6,7,8] Z) ⟨0,[48],⟨QK _,qtx_zero.symm⟩,Z,Z,Z⟩ (fun fr B D m w x=>?_);obtain ⟨i,s,⟨E,f⟩,rfl,rfl,rfl⟩:=x;refine Um 1 [3,6,7,8,9] Z<|Up (fun c=>?_) fun c=>?_
 ·have d:i<l.length:=by simpa using c
  obtain ⟨q,e⟩:∃ q,l[i]?=some q:=⟨l[i],aj d⟩;subst f;refine Ur fun R a=>UE b.m_ U10 om_ (ce e) fl_ fun F y=>Uo y U8<|C4 1 [3,5,6,7,8] a Z<|Un 2 Z fun R a=>Uz (jd _ g.m_ (Ie (l.take i)) q k h j (o i) (n q (PN e))) U7<|C4 1 [3,6,7,8] a Z<|Ur fun R a=>Ux _ U7<|C4 1 [3,6,7,8] a Z<|UB (m':=l.length-(i+1)) om_ w (hn_ [3,6,7,8] Z) ⟨i+1,_,⟨by omega,by rw [Q5,e,R5,E6]⟩,Z,Z,Z⟩
 have d:i=l.length:=by
  have:¬ i<l.length:=by simpa using c
  omega
 exact Um 2 [2] Z<|Uu U2<|⟨by rw [f,d,QV],Z⟩
def Dy (q:Rat):Value:=if aW (qtx q) then .tuple #[ai (qtx q),.int .i64 0] else .tuple #[ai [],.int .i64 4]
theorem G8 (C:Mem)(b:Tabs C)(q:Rat)(c:(qtx q).length<=999998):Gives cx.P 296 [ai (qtx q)] C (Dy q):=by
 refine Uv func296 8 U3 fun w0=>Um 2 [0] Z<|Un 1 Z fun R d=>Uz (dW _ b.m_ _ c) U7<|C4 1 [0,6] d Z<|Up (fun a=>?_) fun a=>?_
 ·have e:aW (qtx q)=false:=by
   rcases gS (aW (qtx q)) with ⟨h1,h2⟩ | ⟨h1,h2⟩
   ·rw [h1] at a;exact absurd a dc_
   exact h2
  refine Um 2 [2,3] Z<|UA (G.dropAll (UP U3 ?_));exact ⟨by unfold Dy;rw [e];rfl,Z⟩
 have f:aW (qtx q)=true:=by
  rcases gS (aW (qtx q)) with ⟨h1,h2⟩ | ⟨h1,h2⟩
  ·exact h2
  rw [h1] at a;exact absurd a dc_
 refine Um 3 [2,3] Z<|UA (G.dropAll (UP U3 ?_));exact ⟨by unfold Dy;rw [f];rfl,Z⟩
def onQ (pts:List Pt)(fs:List Rat)(t:Tri)(p:Pt):Rat:=Ie [fz fs t 0,(dP pts fs t).1*(p.1-(cor pts t 0).1),(dP pts fs t).2*(p.2-(cor pts t 0).2)]
theorem LC (n:k<=23)(a:MeshOk pts tris)(c:fs.length=pts.length)(d:∀ q∈fs,QB k q)(b:t∈tris)(e:QP 23 p):QB 600 (onQ pts fs t p)/\(∀ i,QB 600 (Ie ([fz fs t 0,(dP pts fs t).1*(p.1-(cor pts t 0).1),(dP pts fs t).2*(p.2-(cor pts t 0).2)].take i)))/\QB 600 (fz fs t 0)/\QB 600 ((dP pts fs t).1*(p.1-(cor pts t 0).1))/\QB 600 ((dP pts fs t).2*(p.2-(cor pts t 0).2)):=by
 have hs:=vT a c d b;have f:=nC a b 0;have g:=NB a c d b 0;have h1:QB 248 ((dP pts fs t).1*(p.1-(cor pts t 0).1)):=(jB hs.1 (eY e.1 f.1)).le om_;have h2:QB 248 ((dP pts fs t).2*(p.2-(cor pts t 0).2)):=(jB hs.2 (eY e.2 f.2)).le om_;have h:QB 25 (0+fz fs t 0):=(vg QB_zero g).le om_;have j:QB 274 (0+fz fs t 0+(dP pts fs t).1*(p.1-(cor pts t 0).1)):=(vg h h1).le om_;have l:QB 523 (0+fz fs t 0+(dP pts fs t).1*(p.1-(cor pts t 0).1)+(dP pts fs t).2*(p.2-(cor pts t 0).2)):=(vg j h2).le om_;refine ⟨l.le dc_,fun i=>?_,g.le om_,h1.le dc_,h2.le dc_⟩;rcases (by omega:i=0∨i=1∨i=2∨3<=i) with rfl | rfl | rfl | m
 ·exact QB_zero.le dc_
 ·exact h.le dc_
 ·exact j.le dc_
 rw [Rr (by simpa using m)];exact l.le dc_
theorem Mq (e:QB k a)(f:QB k b)(g:QB k c):∀ q∈[a,b,c],QB k q:=by
 intro q d;simp only [QT,RV,S9] at d;rcases d with rfl | rfl | rfl <;> assumption
theorem Qj (C:Mem)(d:Tabs C)(u v:Value)(a:List Pt)(g:List Tri)(c:List Rat)(k:Nat)(E:0<k)(F:k<=23)(w:MeshIn C u a g)(e:MeshOk a g)(h:Sl C 1 v (c.map fa))(l:c.length=a.length)(r:∀ q∈c,QB k q)(i:Nat)(t:Tri)(m:g[i]?=some t)(p:Pt)(f:QP 23 p) :
  Gives cx.P 297 [u,v,.int .i64 i,ptV p] C (ai (qtx (onQ a c t p))):=by
 have n:=PN m;have x:=e.ins t n;have y:=w;have z:=h;obtain ⟨X,Y,rfl,h1,h2⟩:=id w.ex;obtain ⟨A1,c1,rfl,H,aa,_⟩:=id h1;obtain ⟨A2,c2,rfl,I,ab,_⟩:=id h2;obtain ⟨A4,c4,rfl,ac,ad,_⟩:=id h;have ae:maxLen<=9223372036854775807:=by simp [maxLen]
 simp only [ax] at h1 h2 h z y H I ⊢;have af:=(aE.1 m).1;have o:=nC e n 0;obtain ⟨ag,J,K,L,M⟩:=LC F e l r n f;have hs:=vT e l r n;have N:QB 25 (p.1-(cor a t 0).1):=(eY f.1 o.1).le dc_;have O:QB 25 (p.2-(cor a t 0).2):=(eY f.2 o.2).le dc_;refine Uv func297 49 U3 fun w0=>Ur fun R b=>UG U6 fun b4=>UG U6 fun b7=>C4 1 [1,2,4,7] b Z<|G.freeze 1 Z fun _ _ s=>Ur fun R b=>Uo (PtrTo.block (Mem.get s mup) _) U8<|Us 2 Z<|UC (xj _ d.m_ _ _ a g c k E om_ y.m_ e z.m_ l r i t m) U7 fl_<|UI U5 fun b9=>Uy (j:=0) U12<|Ut [1,2,4,7,9] b Z<|Un 1 Z fun R b=>Uo (PtrTo.block (Mem.get s mup) _) U8<|Uq U6<|UE h2.m_ U10 om_ (ce m) fl_ fun ah Q=>VX U9 (fun _=>Q) (fun _=>⟨by omega,om_⟩) fl_ Z (fun aj S=>?_);have T:=S trivial;exact Uo T U8<|C4 1 [1,4,7,9,10] b Z<|Un 1 Z fun R b=>Uo (PtrTo.block (Mem.get s mup) _) U8<|Uq U6<|UE h1.m_ U10 om_ (ce (pn x.1)) fl_ fun ak U=>Uo U U8<|UI U5 fun al=>Uy (j:=0) U12<|Ut [1,7,9,10,11] b Z<|G.freeze 0 Z fun _ _ A=>G.freeze 0 Z fun _ _ B=>G.freeze 0 Z fun _ _ D=>UK [0,1,2,3,4,5,6,7,8,9,10,11,12,13,14,15,16,17,18,19,20,21,22] [(10,1),(11,1),(18,1),(19,1),(21,1)] Z kr_ fun R hB b=>Us 2 Z<|UE h.m_ U10 om_ (ce (G6 (l ▸ x.1))) fl_ fun am V=>Uo V U8<|Uq U6<|Uo (bkT B 1) U8<|Uq U6<|Uo (bkT D 1) U8<|Uq U6<|Uo (bkT A 1) U8<|UL (fun _=>(ek _ d.m_ p.1 (cor a t 0).1 23 dc_ dc_ f.1 (o.1.le dc_))) U9<|UL (fun _=>(dy _ d.m_ _ _ 300 dc_ dc_ (hs.1.le om_) (N.le dc_))) U9<|Uq U6<|Uo (bkT B 1) U8<|Uq U6<|Uo (bkT D 1) U8<|Uq U6<|Uo (bkT A 1) U8<|UL (fun _=>(ek _ d.m_ p.2 (cor a t 0).2 23 dc_ dc_ f.2 (o.2.le dc_))) U9<|UL (fun _=>(dy _ d.m_ _ _ 300 dc_ dc_ (hs.2.le om_) (O.le dc_))) U9<|UJ ([fz c t 0,(dP a c t).1*(p.1-(cor a t 0).1),(dP a c t).2*(p.2-(cor a t 0).2)].map fa) U12 fun an _ _ W=>UL (fun _=>(MF _ d.m_ _ _ 600 dc_ dc_ W.m_ (Mq K L M) J)) U9<|C4 1 [8] b Z<|Uu U2<|⟨Z,Z⟩
def EQ (pts:List Pt)(tris:List Tri)(fs:List Rat)(p:Pt):Value:=match lO pts tris p with
 | []=>.tuple #[ai [],.int .i64 28]
 | i::_=>Dy (onQ pts fs (tris.getD i (0,0,0)) p)
theorem xN (h:∀ q∈fs,aW (qtx q)=true):(fs.map qtx).all aW=true:=by
 rw [Q3];intro s hs;obtain ⟨q,a,rfl⟩:=QM.1 hs;exact h q a
theorem zf (a:List Rat):a.map fa=(a.map qtx).map nM:=by rw [Rx];rfl
theorem wt (b:k<=100)(h:∀ q∈fs,QB k q):∀ s∈fs.map qtx,s.length<=999998:=by
 intro s hs;obtain ⟨q,a,rfl⟩:=QM.1 hs;have:=bG ((h q a).le (Ta k)) om_;omega
theorem xB (C:Mem)(i:Tabs C)(c v d:Value)(b:List Pt)(f:List Tri)(a:List Rat)(j:MeshIn C c b f)(l:Good b f)(m:Sl C 1 v [[d]])(g:Sl C 1 d (a.map fa))(n:a.length=b.length)(r:k<=23)(o:∀ q∈a,QB k q)(p:∀ q∈a,aW (qtx q)=true) :
  Gives cx.P 103 [c,v] C (.int .i64 0):=by
 rw [zf] at g;have h:=xC C i c v d b f (a.map qtx) j l m g (wt om_ o);have e:BY b.length (a.map qtx)=0:=by unfold BY;rw [aJ (by simpa using n),xN p];rfl
 rwa [e] at h
theorem Pg (h:i∈lO pts tris p):∃ t,tris[i]?=some t/\tris.getD i (0,0,0)=t/\yM pts p t=true:=by
 unfold lO at h;rw [SH,QZ] at h;obtain ⟨h1,h2⟩:=h;obtain ⟨t,a⟩:∃ t,tris[i]?=some t:=⟨tris[i],aj h1⟩;have b:tris.getD i (0,0,0)=t:=by rw [al,a,R0]
 rw [b] at h2;exact ⟨t,a,b,h2⟩
theorem O9 (h:QB 600 q):(qtx q).length<=999998:=Q1 (bG h dc_) dc_
theorem Iw (C:Mem)(e:Tabs C)(x y:Value)(a:List Pt)(c:List Tri)(b:List Rat)(k:Nat)(I:0<k)(j:k<=23)(z:MeshIn C x a c)(l:Good a c)(f:Sl C 1 y (b.map fa))(m:b.length=a.length)(n:∀ q∈b,QB k q)(J:∀ q∈b,aW (qtx q)=true)(p:Pt)(o:QP 23 p)(K:PtR p) :
  Gives cx.P 275 [x,y,ptV p] C (EQ a c b p):=by
 have A:=l.ok;have s:=z;obtain ⟨X,Y,rfl,h1,h2⟩:=id z.ex;obtain ⟨L,M,rfl,aa,ab,_⟩:=id f;simp only [ax] at f ⊢;have ac:maxLen<=9223372036854775807:=by simp [maxLen]
 refine Uv func275 40 U3 fun w0=>Ur fun R d=>UG U6 fun b3=>UG U6 fun b5=>C4 2 [1,3,5] d Z<|G.freeze 1 Z fun _ _ u=>G.freeze 0 Z fun _ _ B=>Ur fun R d=>Uo (PtrTo.block (Mem.get u mup) _) U8<|Uq U6<|UJ [[.slice L b.length M]] U12 fun ad _ _ N=>Uz (xB _ e.m_ _ _ _ a c b s.m_ l N.m_ f.m_ m j n J) U7<|C4 1 [1,3,5,8] d Z<|Um 2 [1,3,5,8,16] Z<|Up (fun D=>?_) fun D=>?_
 ·exact absurd D dc_
 refine Ur fun R d=>Uo (PtrTo.block (Mem.get u mup) _) U8<|Uo (PtrTo.block (Mem.get B mup) _) U8<|UW (pP _ e.m_ _ a c p s.m_ l o K) U7 (fun ae _ _ O=>?_);obtain ⟨wv,rfl,v⟩:=O;obtain ⟨Aw,cw,E,_⟩:=id v;rw [ax] at E;subst E;refine C4 5 [1,3,5,9,10] d Z<|Um 2 [1,3,5,9,10,25] Z<|Up (fun F=>?_) fun F=>?_
 ·exact absurd F dc_
 refine Um 3 [1,3,5,9,29] Z<|Up (fun g=>?_) fun g=>?_
 ·have Q:lO a c p=[]:=by
   have h:(((lO a c p).length:Nat):Int)=0:=by simpa using g
   exact Rq om_
  refine Um 2 [6,7] Z<|UA (G.dropAll (UP U3 ?_));exact ⟨by unfold EQ;rw [Q];rfl,Z⟩
 obtain ⟨i,r,w⟩:∃ i r,lO a c p=i::r:=by
  cases S:lO a c p with
  | nil=>rw [S] at g;exact absurd g dc_
  | cons i r=>exact ⟨i,r,rfl⟩
 obtain ⟨t,H,T,_⟩:=Pg (pts:=a) (tris:=c) (p:=p) (i:=i) (by rw [w];simp);have U:=LC j A m n (PN H) o;have V:EQ a c b p=Dy (onQ a b t p):=by unfold EQ;rw [w];show Dy (onQ a b (c.getD i (0,0,0)) p)=_;rw [T]
 rw [w] at v ⊢;refine UK [0,1,2,3,4,5,6,7,8,9,10,11] [(6,1),(7,1)] Z kr_ fun R hB d=>Uo (PtrTo.block (Mem.get u mup) _) U8<|Us 2 Z<|UE v.m_ U10 om_ (rfl:(List.map aL (i::r))[0]?=some (aL i)) fl_ fun af W=>Uo W U8<|Uo (PtrTo.block (Mem.get B mup) _) U8<|UV (fun _=>(Qj _ e.m_ _ _ a c b k I j s.m_ A f.m_ m n i t H p o)) U9<|UV (fun _=>(G8 _ e.m_ _ (O9 U.1))) U9 ?_;rw [show Dy (onQ a b t p)=.tuple #[if aW (qtx (onQ a b t p)) then ai (qtx (onQ a b t p)) else ai [],.int .i64 (if aW (qtx (onQ a b t p)) then 0 else 4)] by unfold Dy;split <;> rfl];refine C4 4 [6,7] d Z<|UA (G.dropAll (UP U3 ?_));refine ⟨?_,Z⟩;rw [V];unfold Dy;split <;> rfl
theorem O0 (h:QP 22 p):PtR p:=⟨bP h.1,bP h.2⟩
theorem tQ (C:Mem)(f:Tabs C)(l m:Value)(c:List Pt)(d:List Tri)(b:List Rat)(k:Nat)(z:0<k)(A:k<=23)(n:MeshIn C l c d)(o:Good c d)(e:Sl C 1 m (b.map fa))(p:b.length=c.length)(r:∀ q∈b,QB k q)(B:∀ q∈b,aW (qtx q)=true)(i:Nat)(t:Tri)(s:d[i]?=some t)(u:QP 22 (dP c b t)) :
  Gives cx.P 244 [l,m,.int .i64 i] C (.tuple #[ptV (dP c b t),.int .i64 0]):=by
 have D:=o.ok;have g:=n;have I:=(aE.1 s).1;obtain ⟨J,K,rfl,h1,h2⟩:=id n.ex;obtain ⟨A2,c2,rfl,L,M,_⟩:=id h2;obtain ⟨E,F,rfl,N,O,_⟩:=id e;simp only [ax] at e h2 g ⊢;have Q:maxLen<=9223372036854775807:=by simp [maxLen]
 refine Uv func244 37 U3 fun w0=>Ur fun R a=>UG U6 fun S=>UI U5 fun T=>C4 1 [1,2,3,6] a Z<|G.freeze 1 Z fun _ _ h=>Ur fun R a=>Uo (PtrTo.block (Mem.get h mup) _) U8<|Uq U6<|UJ [[.slice E b.length F]] U12 fun U _ _ H=>Uz (xB _ f.m_ _ _ _ c d b g.m_ o H.m_ e.m_ p A r B) U7<|C4 1 [1,2,3,6,8] a Z<|Um 2 [1,2,3,6,8,15] Z<|Up (fun v=>?_) fun v=>?_
 ·exact absurd v dc_
 refine Un 5 Z fun R a=>UQ U6 (fun _=>PtrTo.block (Mem.get h mup) _) U3<|Us 2 Z<|UU U8<|Ut [1,2,3,6,26] a Z<|Up (fun w=>?_) fun w=>?_
 ·exfalso;simp only [Sr,QR] at w;omega
 refine Ur fun R a=>Uo (PtrTo.block (Mem.get h mup) _) U8<|Us 2 Z<|UC (xj _ f.m_ _ _ c d b k z om_ g.m_ D e.m_ p r i t s) U7 fl_<|UI U5 fun V=>Uy (j:=0) U12<|Ut [6,9] a Z<|G.freeze 0 Z fun _ _ x=>Ur fun R a=>Uo (PtrTo.block (Mem.get x mup) _) U8<|UC (ix _ f.m_ _ (u.le dc_) (O0 u)) U7 fl_<|C4 1 [6,9,34] a Z<|Up (fun y=>?_) fun y=>?_
 ·exact absurd y dc_
 refine Ur fun R a=>Uo (PtrTo.block (Mem.get x mup) _) U8<|Uy (j:=0) U12<|C4 1 [6,7] a Z<|UA (Vw af U5 ?_);exact ⟨Z,Z⟩
def ku {α:Type}(p:α->Bool):List α->Nat->Int
 | [],_=>-1
 | x::l,k=>if p x then (k:Nat) else ku p l (k+1)
theorem od {a:Type}{p:a->Bool}:∀ {l:List a}{i k:Nat}{x:a},l[i]?=some x->p x=true->(∀ y∈l.take i,p y=false)->ku p l k=((k+i:Nat):Int)
 | y::l,0,k,x,h,b,_=>by
  simp only [List.getElem?_cons_zero,Rc] at h;subst h;simp [ku,b]
 | y::l,i+1,k,x,h,b,c=>by
  simp only [SP] at h;have hy:p y=false:=c y am;have:=od (k:=k+1) h b (fun z d=>c z (by simp [d]));simp only [ku,hy,Ry,RU,this];omega
theorem lT {a:Type}{p:a->Bool}:∀ {l:List a}{k:Nat},(∀ y∈l,p y=false)->ku p l k=-1
 | [],_,_=>rfl
 | y::l,k,h=>by
  simp only [ku,h y aK,Ry,RU];exact lT fun z b=>h z (QQ _ b)
theorem mT (p:α->Bool)(l:List α):(ku p l 0=-1/\∀ y∈l,p y=false)∨∃ (i:Nat)(x:α),ku p l 0=(i:Nat)/\l[i]?=some x/\p x=true/\∀ y∈l.take i,p y=false:=by
 by_cases h:∀ y∈l,p y=false
 ·exact .inl ⟨lT h,h⟩
 right;have d:∀ (l:List α),(¬ ∀ y∈l,p y=false)->∃ (i:Nat)(x:α),l[i]?=some x/\p x=true/\∀ y∈l.take i,p y=false:=by
  intro l;induction l with
  | nil=>intro h;exact absurd (fun y hy=>(by cases hy)) h
  | cons a l e =>
   intro h;by_cases b:p a=true
   ·exact ⟨0,a,Z,b,by simp⟩
   have c:p a=false:=by simpa using b
   obtain ⟨i,x,h1,h2,h3⟩:=e (fun h2=>h (fun y hy=>by
    rcases QT.1 hy with rfl | hy
    ·exact c
    exact h2 y hy))
   refine ⟨i+1,x,by simpa using h1,h2,fun y hy=>?_⟩;rw [List.take_succ_cons] at hy;rcases QT.1 hy with rfl | hy
   ·exact c
   exact h3 y hy
 obtain ⟨i,x,h1,h2,h3⟩:=d l h;exact ⟨i,x,by rw [od h1 h2 h3,RR],h1,h2,h3⟩
structure Lay where
 unit:Str
 min:Rat
 max:Option Rat
def vw:Option Rat->Str
 | none=>[]
 | some q=>qtx q
def zh (x:Lay):List Value:=[ai x.unit,ai (qtx x.min),ai (vw x.max)]
def isU (u:Str)(x:Lay):Bool:=decide (x.unit=u)
def Oj (x:Lay):Prop:=QB 22 x.min/\(∀ q,x.max=some q->QB 22 q)/\x.unit.length<=999998
theorem pF (m:Option Rat):(!((⟨(vw m).toArray⟩:ByteArray).data.toList == (⟨#[]⟩:ByteArray).data.toList))=m.isSome:=by
 cases m with
 | none=>rfl
 | some q =>
  have:=FM q;show (!(qtx q == []))=true;cases h:qtx q with
  | nil=>rw [h] at this;simp at this
  | cons a l=>rfl
theorem lS (C:Mem)(v:Value)(l:List Lay)(g:Nat)(d:List Value)(a:Lay->Bool)(e:Sl C 3 v (l.map zh))(_A:Jog.Enters cx.P g=true)
  (n:∀ x∈l,∀ D:Mem,C.le D->Gives cx.P g (.agg ⟨zh x⟩::d) D (.bool (a x))) :
  Gives cx.P 159 [v,.func (.func g) #[] ⟨d⟩] C (.int .i64 (ku a l 0)):=by
 obtain ⟨o,c0,rfl,p,B,_⟩:=id e;have E:maxLen<=9223372036854775807:=by simp [maxLen]
 simp only [ax] at e p ⊢;refine Uv func159 19 U3 fun w0=>Um 1 [0,1] Z<|Um 3 [0,1,7,8] Z<|G.loop (fun fr C' q r=>∃ (i:Nat),(i<=l.length/\∀ y∈l.take i,a y=false)/\fr=[(0,[],.slice o l.length c0),(1,[],.func (.func g) #[] ⟨d⟩),(7,[],.int .i64 l.length),(8,[],.int .i64 i)]/\q=[]/\r=l.length-i) (hn_ [0,1,7,8] Z) ⟨0,⟨QK _,by simp⟩,Z,Z,Z⟩ (fun fr F H m s t=>?_);obtain ⟨i,⟨I,b⟩,rfl,rfl,rfl⟩:=t;refine Um 1 [0,1,7,8,9] Z<|Up (fun f=>?_) fun f=>?_
 ·have h:i<l.length:=by simpa using f
  obtain ⟨x,c⟩:∃ x,l[i]?=some x:=⟨l[i],aj h⟩;refine Um 2 [0,1,5,7,8] Z<|Un 3 Z fun R j=>UE e.m_ U10 om_ (ce c) fl_ fun J u=>Uo u U8<|Uz (n x (PN c) _ mup) U7<|Ut [0,1,5,7,8,16] j Z<|Up (fun k=>?_) fun k=>?_
  ·have w:a x=true:=k;exact Um 2 [4] Z<|Uu U2<|⟨by rw [od c w b,RR],Z⟩
  have z:a x=false:=k;refine Ur fun R j=>Ux _ U7<|C4 1 [0,1,7,8] j Z<|UB (m':=l.length-(i+1)) om_ s (hn_ [0,1,7,8] Z) ⟨i+1,⟨by omega,fun y hy=>by
   rw [Q5,c] at hy;rcases QW.1 hy with hy | hy
   ·exact b y hy
   simp only [R5,Q4] at hy;subst hy;exact z⟩,Z,Z,Z⟩
 have h:i=l.length:=by
  have:¬ i<l.length:=by simpa using f
  omega
 exact Um 1 [4] Z<|Uu U2<|⟨by rw [h,QV] at b;rw [lT b],Z⟩
theorem IM (a b:Str):((⟨a.toArray⟩:ByteArray).data.toList == (⟨b.toArray⟩:ByteArray).data.toList)=decide (a=b):=by
 show (a == b)=_;by_cases h:a=b <;> simp [h]
theorem HD (C:Mem)(b:Nat)(u:Str)(x:Lay)(c:C b=some (.cells ⟨[ai u]⟩ 9 (0,0))):Gives cx.P 160 [.agg ⟨zh x⟩,.pointer (some ⟨b,0,none⟩)] C (.bool (isU u x)):=by
 exact Uv func160 8 U3 fun w0=>Ur fun R a=>UG U6 fun d=>C4 1 [1,2] a Z<|Un 1 Z fun R a=>Uw af U9<|Uo (PtrTo.block (Mem.get c mup) _) U8<|C4 2 [3] a Z<|Uu U2<|⟨by unfold isU;rw [<- IM],Z⟩
theorem zC (C:Mem)(b:Nat)(u:Str)(x:Lay)(c:C b=some (.cells ⟨[ai u]⟩ 9 (0,0))):Gives cx.P 163 [.agg ⟨zh x⟩,.pointer (some ⟨b,0,none⟩)] C (.bool (isU u x)):=by
 exact Uv func163 8 U3 fun w0=>Ur fun R a=>UG U6 fun d=>C4 1 [1,2] a Z<|Un 1 Z fun R a=>Uw af U9<|Uo (PtrTo.block (Mem.get c mup) _) U8<|C4 2 [3] a Z<|Uu U2<|⟨by unfold isU;rw [<- IM],Z⟩
theorem Ck (C:Mem)(v:Value)(l:List Lay)(u:Str)(c:Sl C 3 v (l.map zh)):Gives cx.P 106 [v,ai u] C (.int .i64 (ku (isU u) l 0)):=by
 exact Uv func106 8 U3 fun w0=>Ur fun R a=>UG U6 fun b=>C4 1 [0,3] a Z<|G.freeze 0 Z fun _ _ d=>Un 2 Z fun R a=>Uz (lS _ _ l 160 [.pointer (some ⟨b,0,none⟩)] (isU u) c.m_ Z (fun x _ D e=>HD D b u x (e _ _ (Mem.get d mup)))) U7<|C4 1 [4] a Z<|Uu U2<|⟨Z,Z⟩
theorem kg (C:Mem)(v:Value)(l:List Lay)(u:Str)(c:Sl C 3 v (l.map zh)):Gives cx.P 109 [v,ai u] C (.int .i64 (ku (isU u) l 0)):=by
 exact Uv func109 8 U3 fun w0=>Ur fun R a=>UG U6 fun b=>C4 1 [0,3] a Z<|G.freeze 0 Z fun _ _ d=>Un 2 Z fun R a=>Uz (lS _ _ l 163 [.pointer (some ⟨b,0,none⟩)] (isU u) c.m_ Z (fun x _ D e=>zC D b u x (e _ _ (Mem.get d mup)))) U7<|C4 1 [4] a Z<|Uu U2<|⟨Z,Z⟩
theorem tW (h:QB 22 q):(qtx q).length<=999998:=Q1 (bG h dc_) dc_
theorem Do (h:QB 22 q):(qtx q).length<=1000000:=Q1 (bG h dc_) dc_
theorem J1 (C:Mem)(d:Tabs C)(x:Lay)(e:Oj x):Gives cx.P 104 [.agg ⟨zh x⟩] C (.int .i64 0):=by
 obtain ⟨u,f,c⟩:=x;obtain ⟨h1,h2,h3⟩:=e;simp only at h1 h2 h3;clear h3;have g:(vw c).length<=999998:=by
  cases c with
  | none=>decide
  | some q=>exact tW (h2 q rfl)
 refine Uv func104 17 U3 fun w0=>Ur fun R a=>UG U6 fun h=>C4 1 [1] a Z<|Un 1 Z fun R a=>Uw af U9<|Uz (dW _ d.m_ (qtx f) (tW h1)) U7<|C4 2 [1,3] a Z<|Up (fun h3=>?_) fun h3=>?_
 ·exfalso;rw [xA h1] at h3;exact absurd h3 dc_
 refine Un 1 Z fun R a=>Uw af U9<|Us 3 Z<|Uw af U9<|UV (fun _=>(dW _ d.m_ (vw c) g)) U9<|Uq U6<|UM U8<|C4 1 [3] a Z<|Up (fun b=>?_) fun b=>?_
 ·exfalso;simp only [] at b;cases c with
  | none=>exact absurd b dc_
  | some q =>
   rw [show vw (some q)=qtx q from rfl,xA (h2 q rfl)] at b;simp at b
 exact Um 1 [2] Z<|Uu U2<|⟨Z,Z⟩
end Go.Proofs.YthnpijdjlddpmaaGreatDoor
