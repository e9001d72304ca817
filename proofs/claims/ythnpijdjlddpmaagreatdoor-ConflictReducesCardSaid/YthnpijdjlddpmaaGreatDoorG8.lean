/- Laws that the proofs of this seat share, part 8. -/
import Derived.Test.YthnpijdjlddpmaaGreatDoorG7
import Derived.Test.YthnpijdjlddpmaaGreatDoorShelf
set_option maxHeartbeats 4000000
namespace Go.Proofs.YthnpijdjlddpmaaGreatDoor
open Go.Proofs.Tryz
open Go Go.Jog
set_option maxRecDepth 100000
variable {C:Mem}{a b c:Rat}{cyc:List Nat}{fs:List Rat}{i k:Nat}{l:List Pt}{m n:Nat}{p:Pt}{pts:List Pt}{q:Rat}{t:Tri}{tris:List Tri}{α:Type}
theorem JO {m:Oy}{s:iL}:(dq m (s.2,s.1)).isSome=!kh (m.map (·.1)) s:=by
 unfold kh ON;rw [Bool.not_not];cases h:dq m (s.2,s.1) with
 | none=>rw [cH] at h;simp [h]
 | some v =>
  have:=Tf (f:=(·.1)) (ga h);simp only [Option.isSome_some];exact (Ra this).symm
theorem JK (C:Mem)(v1 v2:Value)(b:Nat)(m:Oy)(o:C b=some (aR qu m))(hn:(m.map (·.1)).Nodup)(Q:∀ s∈m.map (·.1),0<=s.1)(aF:m.length<=1000000) :
  Pur cx.P 154 [.agg ⟨[v1,v2]⟩,.map (some b)] C fun u D=>∃ v,u=.tuple #[v,.bool (decide (wE (m.map (·.1))≠[]))]/\Sl D 1 v ((wE (m.map (·.1))).map me):=by
 have aG:maxLen<=9223372036854775807:=by simp [maxLen]
 have S:=fun s:iL=>JO (m:=m) (s:=s);obtain ⟨c,K⟩:∃ c,m.map (·.1)=c:=⟨_,rfl⟩;rw [K] at hn Q ⊢;simp only [K] at S;have al:c.length=m.length:=by rw [<- K];simp
 refine UD func154 93 U3 fun w0=>Uz fun R d=>UQ U6 fun b2=>C4 2 [1] d Z<|Uz fun R d=>D.makeMap keyZ Z Z Z Z fl_ fun n=>C4 1 [1,6] d Z<|Uu 1 [1,6,7] Z<|Uv 1 Z fun R d=>WZ kI2.enc (Mem.get o mup) Z Z Z Z Z Z Z fl_ fun F=>UA [1,6,7,19] d Z<|Vo 2 Z<|G.loop (fun fr C' x T=>∃ (seen:List Nat)(f:Int),(seen.Nodup/\(∀ j∈seen,j<c.length)/\((fu c seen).map (·.1)).Nodup/\lR (fu c seen) f)/\fr=[(1,[],.map (some b)),(6,[],.map (some n)),(7,[],.int .i64 f),(19,[],.pointer (some ⟨F,0,none⟩))]/\x=[.obj F (bA b m.length seen),.obj n (aR keyZ.enc (ul (fu c seen)))]/\T=c.length-seen.length) (hn_ [1,6,7,19] Z) ⟨[], -1,⟨List.nodup_nil,by simp,by simp [fu],.inl ⟨Z,Z⟩⟩,Z,Z,Z⟩ (fun fr aH aI m _ U=>?_);obtain ⟨seen,f,⟨an,ao,L,M⟩,rfl,rfl,rfl⟩:=U;refine Uz fun R d=>WJ kI2.enc (q:=0) (Mem.get o mup) Z Z Z Z Z Z fl_ fun ap aJ N aq=>C4 1 [1,6,7,19,21] d Z<|Ux (fun H=>?_) fun H=>?_
 ·obtain ⟨aL,j,hj,aA,rfl⟩:ap=true/\∃ j,j<m.length/\j ∉ seen/\N=seen++[j]:=by
   rcases aq with ⟨h1,_⟩ | h1
   ·rw [h1] at H;cases H
   exact h1
  rw [<- al] at hj;obtain ⟨⟨s,bv⟩,hs⟩:∃ p,m[j]?=some p:=⟨m[j]'om_,aj om_⟩;have ar:c[j]?=some s:=by rw [<- K,QU,hs];rfl
  have I:(seen++[j]).Nodup:=by
   rw [Sy];exact ⟨an,by simp,fun a V b o e=>by rw [Rc.1 o] at e;subst e;exact aA V⟩
  have A:∀ i∈seen++[j],i<c.length:=fun i W=>by
   rcases Q6.1 W with h | h
   ·exact ao i h
   rw [Rc.1 h];exact hj
  have aM:(seen++[j]).length<=c.length:=by
   have:=List.Nodup.length_le_of_subset I (l₂:=List.range c.length) (fun i W=>Q9.2 (A i W));simpa using this
  have aN:(seen++[j]).length=seen.length+1:=by simp
  have g:=Dd ar (seen:=seen);have aB:0<=s.1:=Q s (QQ ar);refine Uz fun R d=>W7 kI2.enc (Mem.get o mup) hs af Z Z Z Z Z Z Z<|Uy U6<|UP U5 fun b8=>UG (j:=0) U12<|UA [1,6,7,8,19] d Z<|Uv 1 Z fun R d=>UV (1) U9 ag U2<|UE af U9<|UV (0) U9 ag U2<|UE af U9<|UO [.int .i64 s.2,.int .i64 s.1] U8<|WK kI2 (fun _=>(Mem.get o mup)) Z Z Z Z Z Z Z Z Z (pQ _ (dq m (s.2,s.1))) Z Z<|C4 5 [1,6,7,8,10,19] d Z<|Uu 1 [1,6,7,8,19,34] Z<|Ux (fun X=>?_) fun X=>?_
  ·have Y:kh c s=false:=by
    have h:(dq m (s.2,s.1)).isSome=true:=X;rw [S] at h;simpa using h
   rw [Y] at g;simp only [RH,R7,Rf] at g;refine Vo 0 Z<|UN (L':=[.obj F (bA b m.length (seen++[j])),.obj n (aR keyZ.enc (ul (fu c (seen++[j]))))]) (by rw [g];rfl)<|UH (m':=c.length-(seen++[j]).length) om_ mup (hn_ [1,6,7,19] Z) ⟨seen++[j],f,⟨I,A,by rw [g];exact L,by rw [g];exact M⟩,Z,Z,Z⟩
  have Y:kh c s=true:=by
   have h:(dq m (s.2,s.1)).isSome=false:=X;rw [S] at h;simpa using h
  rw [Y] at g;simp only [SL] at g;refine Uv 1 Z fun R d=>UV (0) U9 ag U2<|UE af U9<|VP keyZ ac Z Z Z Z Z Z Z Z kr_ Z (pQ _ (dq (ul (fu c seen)) s.1)) Z Z<|C4 5 [1,6,7,8,12,19] d Z<|Uu 1 [1,6,7,8,19,42] Z<|Ux (fun aa=>?_) fun aa=>?_
  ·have z:(dq (ul (fu c seen)) s.1).isSome=true:=aa;rw [hU] at z;have ab:EF c=none:=by
    cases l:dq (fu c seen) s.1 with
    | none=>rw [l] at z;cases z
    | some q=>exact Dz (B:=fu c seen) (s:=s) (t:=(s.1,q)) (by rw [<- g];exact yn hn I A) (by rw [<- g];exact Ft A) (ga l) rfl
   have J:wE c=[]:=by unfold wE;rw [ab];rfl
   refine Uu 2 [4,5] Z<|UJ (G.dropAll (UX U3 ?_));exact ⟨Z,.slice none 0 0,by rw [J];rfl,by rw [J];exact Sl.nil _ _⟩
  have z:(dq (ul (fu c seen)) s.1).isSome=false:=aa;have ad:dq (fu c seen) s.1=none:=by
   rw [hU] at z;cases l:dq (fu c seen) s.1 with
   | none=>rfl
   | some q=>rw [l] at z;cases z
  have au:((fu c (seen++[j])).map (·.1)).Nodup:=by
   rw [g,Ru,Sy];refine ⟨L,by simp,fun a V b o e=>?_⟩;rw [List.map_singleton,Rc] at o;subst o;subst e;exact (cH.1 ad) V
  have O:=pW M s aB;refine Uv 1 Z fun R d=>UV (0) U9 ag U2<|UE af U9<|UV (1) U9 ag U2<|UE af U9<|D.mapUpdate keyZ (j:=2) Z Z Z Z Z Z Z Z Z Z kr_<|UA [1,6,7,8,19] d Z<|Uv 3 Z fun R d=>UV (0) U9 ag U2<|UE ae U9<|UB 2 Z<|U1 U8<|UA [1,6,7,8,19,55] d Z<|Ux (fun ah=>?_) fun ah=>?_
  ·have ai:f<0∨s.1<f:=by simpa using ah
   rw [aW ai] at O;refine Uz fun R d=>UV (0) U9 ag U2<|UE ae U9<|C4 1 [1,6,7,19] d Z<|Vo 1 Z<|G.perm (L':=[.obj F (bA b m.length (seen++[j])),.obj n (aR keyZ.enc (ul (fu c (seen++[j]))))]) (by
    rw [g,<- By ad];exact List.Perm.swap _ _ _) ?_
   refine UH (m':=c.length-(seen++[j]).length) om_ mup (hn_ [1,6,7,19] Z) ⟨seen++[j],s.1,⟨I,A,au,by rw [g];exact O⟩,Z,Z,Z⟩
  have ai:¬ (f<0∨s.1<f):=by simpa using ah
  rw [az ai] at O;refine Vo 1 Z<|G.perm (L':=[.obj F (bA b m.length (seen++[j])),.obj n (aR keyZ.enc (ul (fu c (seen++[j]))))]) (by
   rw [g,<- By ad];exact List.Perm.swap _ _ _) ?_
  refine UH (m':=c.length-(seen++[j]).length) om_ mup (hn_ [1,6,7,19] Z) ⟨seen++[j],f,⟨I,A,au,by rw [g];exact O⟩,Z,Z,Z⟩
 obtain ⟨aO,rfl,av⟩:ap=false/\N=seen/\∀ j,j<m.length->j∈seen:=by
  rcases aq with h1 | ⟨h1,_⟩
  ·exact h1
  rw [h1] at H;cases H
 rw [<- al] at av;have hp:(fu c N).Perm (c.filter (kh c)):=(wc an ao av).filter _;obtain ⟨B,g⟩:∃ B,fu c N=B:=⟨_,rfl⟩;rw [g] at hp L M;have hO:=JL hp L Q M;have aP:B.length<=c.length:=by rw [hp.length_eq];exact R5 _ _
 refine Uu 1 [6,7,13] Z<|Uu 2 [6,7,13,14] Z<|Vo 0 Z<|G.nilArr 3 1<|UN (L':=[.arr (.slice none 0 0) 3 1 0 [],.obj n (aR keyZ.enc (ul B))]) (by rw [g];rfl)<|G.loop (fun fr C' x T=>∃ (out:List Int)(w:Value)(p:Int),(out.length<=B.length/\iM B f (B.length-out.length) p out=EF c)/\fr=[(6,[],.map (some n)),(7,[],.int .i64 f),(13,[],w),(14,[],.int .i64 p)]/\x=[.arr w 3 1 out.length (out.map (Value.int .i64)),.obj n (aR keyZ.enc (ul B))]/\T=B.length-out.length) (hn_ [6,7,13,14] Z) ⟨[],_,f,⟨QT _,hO.symm⟩,Z,Z,Z⟩ (fun fr aQ aS m _ U=>?_);obtain ⟨out,w,p,⟨aT,E⟩,rfl,rfl,rfl⟩:=U;refine Xp af (fun Aw cw hw aU aV aX=>?_);subst hw;refine UW [(3,1)] Z fun R d=>UB 3 Z<|Wu keyZ.enc ae Z Z Z Z Z Z Z Z Z<|C4 1 [6,7,13,14,63] d Z<|Ux (fun ak=>?_) fun ak=>?_
 ·have aY:out.length<B.length:=by
   simp only [QZ,Bz] at ak;omega
  obtain ⟨r,hr⟩:∃ r,B.length-out.length=r+1:=⟨B.length-out.length-1,by omega⟩;rw [hr] at E;refine Uv 2 Z fun R d=>VP keyZ ae Z Z Z Z Z Z Z Z kr_ Z (pQ _ (dq (ul B) p)) Z Z<|C4 5 [6,7,13,14,16] d Z<|Uv 10 Z fun R d=>UU U8<|U1 U8<|UA [6,7,13,14,84] d Z<|Ux (fun k=>?_) fun k=>?_
  ·have ab:EF c=none:=by
    rw [<- E];refine CQ ?_;rw [hU] at k;cases l:dq B p with
    | none=>exact .inl rfl
    | some q =>
     rw [l] at k;simp only [Su,Option.isSome_some,Bool.not_true,Bool.false_or,Q1,Sr,QZ] at k;exact .inr ⟨k.1,fun e=>by rw [e] at k;simp at k⟩
   have J:wE c=[]:=by unfold wE;rw [ab];rfl
   refine Uu 2 [4,5] Z<|UJ (G.dropAll (UX U3 ?_));exact ⟨Z,.slice none 0 0,by rw [J];rfl,by rw [J];exact Sl.nil _ _⟩
  obtain ⟨q,l⟩:∃ q,dq B p=some q:=by
   rw [hU] at k;cases l:dq B p with
   | some q=>exact ⟨q,rfl⟩
   | none=>rw [l] at k;simp at k
  have aC:¬ (p=f/\out≠[]):=by
   rintro ⟨e1,e2⟩;rw [hU,l] at k;have:=RD.2 e2;simp [e1] at k;exact e2 k
  rw [CP l aC] at E;have aZ:(out++[p]).length=out.length+1:=by simp
  refine Uv 2 Z fun R d=>UR [me p] U12 fun a0 _ _ aD=>D.append (j:=0) U11 aD Z ax (by simp only [aK];omega) fl_ fun aw=>C4 1 [6,7,13,14] d Z<|Uv 2 Z fun R d=>VP keyZ ae Z Z Z Z Z Z Z Z kr_ Z (by rw [hU,l];rfl:kN _ false (dq (ul B) p)=.int .i64 q) Z Z<|C4 1 [6,7,13,14] d Z<|UN (L':=[.arr aw 3 1 (out++[p]).length ((out++[p]).map (Value.int .i64)),.obj n (aR keyZ.enc (ul B))]) (by simp [me])<|UH (m':=B.length-(out++[p]).length) om_ mup (hn_ [6,7,13,14] Z) ⟨out++[p],aw,q,⟨by omega,by rw [show B.length-(out++[p]).length=r by omega];exact E⟩,Z,Z,Z⟩
 have a1:B.length<=out.length:=by
  simp only [Ri,Bz] at ak;omega
 have ay:wE c=out:=by
  rw [show B.length-out.length=0 by omega] at E;unfold wE;rw [<- E];rfl
 refine Uu 6 [4,5] Z<|UN (L':=[.arr (.slice Aw out.length cw) 3 1 out.length (out.map me).flatten,.obj n (aR keyZ.enc (ul B))]) (by rw [show (out.map me).flatten=out.map (Value.int .i64) from eA _ _])<|G.freezeArr 0 (out.map me) rfl rfl (by intro r hr;obtain ⟨y,_,rfl⟩:=QX.1 hr;rfl) am fun Cg hg aE=>UJ (G.dropAll (UX U3 ?_));refine ⟨Z,_, ?_,by rw [ay];exact aE⟩;rw [ay];have:decide ((out.length:Int) > 0)=decide (out≠[]):=by
  rw [RC,<- RD];omega
 rw [<- this]
def rA (pts:List Pt)(cyc:List Nat)(i:Nat):Pt:=pts.getD (cyc.getD (i % cyc.length) 0) (0,0)
def upB (p q:Pt):Bool:=decide (p.2<q.2) || (decide (p.2=q.2) && decide (p.1<q.1))
def Kr (pts:List Pt)(cyc:List Nat)(i:Nat):Bool:=!upB (rA pts cyc i) (rA pts cyc (i+1)) && upB (rA pts cyc (i+1)) (rA pts cyc (i+1+1))
def wR (pts:List Pt)(cyc:List Nat)(i:Nat):Bool:=decide (0<=dG (rA pts cyc i) (rA pts cyc (i+1)) (rA pts cyc (i+2)))
def JR (pts:List Pt)(cyc:List Nat):Bool:=(List.range cyc.length).all (wR pts cyc) && decide (((List.range cyc.length).filter (Kr pts cyc)).length=1)
structure OnceC (C:Mem)(b2 b3 b5:Nat)(pts:List Pt)(cyc:List Nat):Prop where
 ex:∃ v1 v2,C b2=some (.cells ⟨[v1,v2]⟩ 36 (0,0))/\Sl C 2 v1 (pts.map gt)
 ey:∃ cv,C b3=some (.cells ⟨[cv]⟩ 50 (0,0))/\Sl C 1 cv (cyc.map aM)
 ez:C b5=some (.cells ⟨[.int .i64 (cyc.length:Nat)]⟩ 3 (0,0))
 ne:0<cyc.length
 ins:∀ z∈cyc,z<pts.length
 q:∀ p∈pts,QP 1 p
theorem OnceC.mono {C D:Mem}{b c d:Nat}{e:List Pt}{f:List Nat}(h:OnceC C b c d e f)(a:C.le D):OnceC D b c d e f:=by
 obtain ⟨g,i,h1,h2⟩:=h.ex;obtain ⟨j,h3,h4⟩:=h.ey;exact ⟨⟨g,i,a _ _ h1,h2.mono a⟩,⟨j,a _ _ h3,h4.mono a⟩,a _ _ h.ez,h.ne,h.ins,h.q⟩
theorem OnceC.m_ {D:Mem}{a b c:Nat}(h:OnceC C a b c pts cyc)(d:C.le D:=by exact mup):OnceC D a b c pts cyc:=OnceC.mono h d
theorem Mh (h:0<cyc.length)(b:∀ z∈cyc,z<pts.length)(i:Nat):∃ z,cyc[i % cyc.length]?=some z/\pts[z]?=some (rA pts cyc i):=by
 have a:=Ry i h;refine ⟨cyc[i % cyc.length],aj a, ?_⟩;have c:=b _ (RP a);simp [rA,aj a,aj c]
theorem Mg (h:0<cyc.length)(a:∀ z∈cyc,z<pts.length)(b:∀ p∈pts,QP 1 p)(i:Nat):QP 1 (rA pts cyc i):=by
 obtain ⟨z,_,h2⟩:=Mh h a i;exact b _ (QQ h2)
theorem pr (C:Mem)(e f c:Nat)(b:List Pt)(a:List Nat)(h:OnceC C e f c b a)(i:Nat) :
  Gives cx.P 228 [.int .i64 i,.pointer (some ⟨e,0,none⟩),.pointer (some ⟨f,0,none⟩),.pointer (some ⟨c,0,none⟩)] C (ptV (rA b a i)):=by
 obtain ⟨q,r,g,h1⟩:=h.ex;obtain ⟨s,k,h3⟩:=h.ey;have l:=h.ez;have t:=h.ne;obtain ⟨z,m,n⟩:=Mh h.ne h.ins i;obtain ⟨u,v,rfl,w,x,_⟩:=id h1;obtain ⟨y,A,rfl,B,D,_⟩:=id h3;simp only [al] at h1 h3 g k;refine UD func228 16 U3 fun w0=>Uz fun R d=>UP U5 fun c=>UA [0,1,2,3,5] d Z<|US [0,1,2,3,4,5,6,7,8,9,10] [] Z kr_ fun R E d=>Uy U6<|Uw (PtrTo.block (Mem.get g mup) _) U8<|Uw (PtrTo.block (Mem.get k mup) _) U8<|Uy U6<|Uw (PtrTo.block (Mem.get l mup) _) U8<|Vt (i) (a.length) U6 om_ U2<|UK h3.m_ U10 om_ (by rw [QU,show ((i % a.length:Nat):Int).toNat=i % a.length from Z,m];rfl:(a.map aM)[((i % a.length:Nat):Int).toNat]?=some (aM z)) fl_ fun F o=>Uw o U8<|UK h1.m_ U10 om_ (by rw [QU,show ((z:Nat):Int).toNat=z from Z,n];rfl:(b.map gt)[((z:Nat):Int).toNat]?=some (gt (rA b a i))) fl_ fun G p=>Uw p U8<|UG (j:=0) U12<|UA [5] d Z<|UJ (Vm af U4 ?_);exact ⟨Z,Z⟩
def fn1V (b2 b3 b5:Nat):Value:=.func (.func 228) #[] #[.pointer (some ⟨b2,0,none⟩),.pointer (some ⟨b3,0,none⟩),.pointer (some ⟨b5,0,none⟩)]
theorem HP (a b:Rat):decide (sU a b > 0)=decide (b<a):=by
 unfold sU;by_cases h1:a<b
 ·have:¬ b<a:=by grind
  simp [h1,this]
 by_cases h2:b<a <;> simp [h1,h2]
theorem N9 (a b:Rat):(sU a b == 0)=decide (b=a):=by
 unfold sU;by_cases h1:a<b
 ·have:¬ b=a:=by grind
  simp [h1,this]
 by_cases h2:b<a
 ·have:¬ b=a:=by grind
  simp [h1,h2,this]
 have:b=a:=by grind
 subst this;simp [h1]
theorem Lu (C:Mem)(k:Tabs C)(c d e l:Nat)(a:List Pt)(b:List Nat)(h:OnceC C c d e a b)(f:C l=some (.cells ⟨[fn1V c d e]⟩ 318 (0,0)))(i:Nat)(n:i<=1000000) :
  Gives cx.P 229 [.int .i64 i,.pointer (some ⟨l,0,none⟩)] C (.bool (upB (rA a b i) (rA a b (i+1)))):=by
 have g:=fun i=>Mg h.ne h.ins h.q i;unfold fn1V at f;refine UD func229 34 U3 fun w0=>Uu 1 [0,1] Z<|US [0,1,2,3,4,5,6,7,8,9,10] [(3,1),(7,1),(9,1)] Z kr_ fun R m j=>Uw (PtrTo.block (Mem.get f mup) _) U8<|Uy U6<|UF _ U7<|Vb (fun _=>(pr _ c d e a b h.m_ (i+1))) U9<|VM U12<|Uw (PtrTo.block (Mem.get f mup) _) U8<|Uy U6<|Vb (fun _=>(pr _ c d e a b h.m_ i)) U9<|VM U12<|UT (fun _=>(gX _ k.m_ (rA a b (i+1)).2 (rA a b i).2 1 dc_ dc_ (g (i+1)).2 (g i).2)) U9<|C4 1 [0,1,4] j Z<|US [0,1,2,3,4,5,6,7,8,9,10,11,12,13,14,15,16,17,18,19] [] Z kr_ fun R m j=>UB 6 Z<|UY U6 (fun _=>PtrTo.block (Mem.get f mup) _) U3<|Uy U6<|UF _ U7<|Vb (fun _=>(pr _ c d e a b h.m_ (i+1))) U9<|VM U12<|UY U6 (fun _=>PtrTo.block (Mem.get f mup) _) U3<|Uy U6<|Vb (fun _=>(pr _ c d e a b h.m_ i)) U9<|VM U12<|UT (fun _=>(gX _ k.m_ (rA a b (i+1)).1 (rA a b i).1 1 dc_ dc_ (g (i+1)).1 (g i).1)) U9<|Uy U6<|UU U8<|U1 U8<|C4 1 [3] j Z<|UC U2<|⟨?_,Z⟩;rw [HP,N9,HP];rfl
theorem Fp (q:Rat):decide (eN q.num<0)=!decide (0<=q):=by
 rw [<- decide_not,RC,<- Rat.num_nonneg];rcases ep q.num with h | h | h <;> omega
theorem Nq (C:Mem)(r:Tabs C)(s B D:Value)(b:List Pt)(a:List Nat)(I:Sl C 2 s (b.map gt))(t:Sl C 1 D (a.map aM))(J:0<a.length)(K:∀ z∈a,z<b.length)(L:∀ p∈b,QP 1 p)(W:a.length<=100000) :
  Gives cx.P 155 [.agg ⟨[s,B]⟩,D] C (.bool (JR b a)):=by
 obtain ⟨X,Y,rfl,aa,ab,_⟩:=id t;simp only [al] at t ⊢;refine UD func155 46 U3 fun w0=>Uz fun R c=>UQ U6 fun e=>UQ U6 fun f=>C4 1 [2,3] c Z<|Uz fun R c=>UE af U9<|Uy U6<|UP U5 fun g=>UG (j:=0) U12<|UA [2,3,5] c Z<|Uv 1 Z fun R c=>UP U5 fun o=>UG (j:=0) U12<|UA [5,6] c Z<|G.freeze 0 Z fun _ _ h=>G.freeze 0 Z fun _ _ E=>G.freeze 0 Z fun _ _ M=>G.freeze 0 Z (fun N _ O=>?_);have d:OnceC N e f g b a:=⟨⟨s,B,O,I.mono mup⟩,⟨_,Mem.get M mup,t.mono mup⟩,Mem.get E mup,J,K,L⟩;have u:=fun i=>Mg d.ne d.ins d.q i;refine Uu 2 [5,6,7] Z<|Uu 1 [5,6,7,8] Z<|Uz fun R c=>Uw (PtrTo.block (Mem.get E mup) _) U8<|C4 1 [6,7,8,14,15] c Z<|G.loop (fun fr C' Q S=>∃ (i k:Nat),(i<=a.length/\(List.range i).all (wR b a)=true/\((List.range i).filter (Kr b a)).length=k)/\fr=[(6,[],.pointer (some ⟨o,0,none⟩)),(7,[],.func (.func 229) #[] #[.pointer (some ⟨o,0,none⟩)]),(8,[],.int .i64 k),(14,[],.int .i64 a.length),(15,[],.int .i64 i)]/\Q=[]/\S=a.length-i) (hn_ [6,7,8,14,15] Z) ⟨0,0,⟨QT _,Z,Z⟩,Z,Z,Z⟩ (fun fr ac ad m F T=>?_);obtain ⟨i,k,⟨hi,v,l⟩,rfl,rfl,rfl⟩:=T;refine Uu 1 [6,7,8,14,15,16] Z<|Ux (fun w=>?_) fun w=>?_
 ·have x:i<a.length:=by simpa using w
  have ae:k<=i:=by
   rw [<- l];exact Rb (R5 _ _) am
  refine Uu 2 [6,7,8,9,14,15] Z<|US [0,1,2,3,4,5,6,7,8,9,10,11,12] [(2,1),(6,1),(10,1),(11,1)] Z kr_ fun R hB c=>Uw (PtrTo.block (Mem.get h mup) _) U8<|Uy U6<|Vb (fun _=>(pr _ e f g b a d.m_ i)) U9<|Uw (PtrTo.block (Mem.get h mup) _) U8<|Uy U6<|UF _ U7<|Vb (fun _=>(pr _ e f g b a d.m_ (i+1))) U9<|Uw (PtrTo.block (Mem.get h mup) _) U8<|Uy U6<|UF _ U7<|Vb (fun _=>(pr _ e f g b a d.m_ (i+2))) U9<|UT (fun _=>(oL _ r.m_ (rA b a i) (rA b a (i+1)) (rA b a (i+2)) 1 dc_ dc_ (u i) (u (i+1)) (u (i+2)))) U9<|C4 1 [6,7,8,9,14,15,30] c Z<|Ux (fun n=>?_) fun n=>?_
  ·have U:wR b a i=false:=by
    rw [Fp] at n;simpa [wR] using n
   refine Uu 1 [4] Z<|UC U2<|⟨?_,Z⟩;have:(List.range a.length).all (wR b a)=false:=S3.2 ⟨i,Q9.2 x,by rw [U];decide⟩;unfold JR;rw [this];rfl
  have V:wR b a i=true:=by
   rw [Fp] at n;simpa [wR] using n
  have H:(List.range (i+1)).all (wR b a)=true:=by rw [RY,Ty,v];simp [V]
  refine Uv 2 Z fun R c=>UM (Lu _ r.m_ e f g o b a d.m_ (Mem.get h mup) i om_) U7 fl_<|UB 4 Z<|UF _ U7<|UT (fun _=>(Lu _ r.m_ e f g o b a d.m_ (Mem.get h mup) (i+1) om_)) U9<|UU U8<|UA [6,7,8,14,15,40] c Z<|Ux (fun y=>?_) fun y=>?_
  ·have A:Kr b a i=true:=y;refine Uv 1 Z fun R c=>UF _ U7<|C4 1 [6,7,8,14,15] c Z<|Uz fun R c=>UF _ U7<|C4 1 [6,7,8,14,15] c Z<|UH (m':=a.length-(i+1)) om_ F (hn_ [6,7,8,14,15] Z) ⟨i+1,k+1,⟨by omega,H,by rw [RY,Si,QV,l];simp [A]⟩,Z,Z,Z⟩
  have A:Kr b a i=false:=y;refine Uz fun R c=>UF _ U7<|C4 1 [6,7,8,14,15] c Z<|UH (m':=a.length-(i+1)) om_ F (hn_ [6,7,8,14,15] Z) ⟨i+1,k,⟨by omega,H,by rw [RY,Si,QV,l];simp [A]⟩,Z,Z,Z⟩
 have x:i=a.length:=by
  have:¬ i<a.length:=by simpa using w
  omega
 refine Uu 3 [4] Z<|UC U2<|⟨?_,Z⟩;rw [x] at v l;unfold JR;rw [v,l,T8];congr 1;rw [Tz,QZ];simp;omega
/-! The sides of triangles, in order. -/
def rj (t:Tri):List iL:=[oX t 0,oX t 1,oX t 2]
def da (tris:List Tri):List iL:=tris.flatMap rj
theorem AK (t:Tri)(a:k<3):(rj t)[k]?=some (oX t k):=by
 rcases (by omega:k=0∨k=1∨k=2) with rfl | rfl | rfl <;> rfl
theorem pF (m:Oy)(i:Nat)(t:Tri):∀ k,k<=3->(m.map (·.1)++(rj t).take k).Nodup->(EE m i t k).map (·.1)=m.map (·.1)++(rj t).take k
 | 0,_,_=>by simp [EE]
 | k+1,e,a=>by
  have h3:=AK t (show k<3 by omega);rw [Rm,h3,R6,<- Rk] at a ⊢;have b:=(Sy.1 a);have c:=pF m i t k om_ b.1;have d:dq (EE m i t k) (oX t k)=none:=by
   rw [cH,c];intro h;exact b.2.2 _ h _ am Z
  rw [EE,jJ d,Ru,c];rfl
theorem oV (h:tris[n]?=some t):da (tris.take (n+1))=da (tris.take n)++rj t:=by
 unfold da;rw [Rm,h,List.flatMap_append];simp
theorem rJ (h:(da tris).Nodup)(n:Nat):(da (tris.take n)).Nodup:=by
 have:da tris=da (tris.take n)++da (tris.drop n):=by
  unfold da;rw [<- List.flatMap_append,RW]
 rw [this] at h;exact (Sy.1 h).1
theorem gC {a:List Tri}(h:(da a).Nodup):∀ n,n<=a.length->(ya a n).map (·.1)=da (a.take n)
 | 0,_=>by simp [ya,da]
 | n+1,d=>by
  have b:a[n]?=some a[n]:=aj om_;have h1:=rJ h (n+1);rw [oV b] at h1 ⊢;have c:=gC h n om_;rw [ya,au,b];show (EE (ya a n) n a[n] 3).map (·.1)=_;rw [pF _ _ _ 3 (QO _) (by rw [c];exact h1),c];rfl
theorem Dx (h:(da tris).Nodup)(i:Nat)(t:Tri)(k:Nat)(a:tris[i]?=some t)(c:k<3):dq (EE (ya tris i) i t k) (oX t k)=none:=by
 have d:=(aD.1 a).1;have h1:=rJ h (i+1);rw [oV a] at h1;have b:=gC h i om_;have h3:=AK t c;have h2:(da (tris.take i)++(rj t).take (k+1)).Nodup:=by
  refine List.Nodup.sublist (List.Sublist.append (List.Sublist.refl _) (List.take_sublist _ _)) h1
 rw [Rm,h3,R6,<- Rk] at h2;have h4:=Sy.1 h2;rw [cH,pF _ _ _ k om_ (by rw [b];exact h4.1),b];intro h5;exact h4.2.2 _ h5 _ am Z
theorem vD {B:List iL}{d:Int}:∀ (k:Nat)(p:Int)(out r:List Int),iM B d k p out=some r->(∀ z∈out,z∈B.map (·.1))->∀ z∈r,z∈B.map (·.1)
 | 0,p,out,r,h,b=>by simp only [iM,Rt] at h;subst h;exact b
 | k+1,p,out,r,h,b=>by
  simp only [iM] at h;cases c:dq B p with
  | none=>rw [c] at h;cases h
  | some q =>
   rw [c] at h;simp only at h;split at h
   ·cases h
   refine vD k q _ r h (fun z a=>?_);rcases Q6.1 a with a | a
   ·exact b z a
   rw [Rc.1 a];exact Tf (f:=(·.1)) (ga c)
theorem vE {B:List iL}{b:Int}:∀ (k:Nat)(p:Int)(out r:List Int),iM B b k p out=some r->r.length=out.length+k
 | 0,p,out,r,h=>by simp only [iM,Rt] at h;subst h;rfl
 | k+1,p,out,r,h=>by
  simp only [iM] at h;cases a:dq B p with
  | none=>rw [a] at h;cases h
  | some q =>
   rw [a] at h;simp only at h;split at h
   ·cases h
   have:=vE k q _ r h;simp at this;omega
theorem Bu {c:List iL}:∀ z∈wE c,z∈c.map (·.1):=by
 intro z a;unfold wE at a;cases b:EF c with
 | none=>rw [b] at a;simp at a
 | some r =>
  rw [b] at a;simp only [R9] at a;unfold EF at b;split at b
  ·have:=vD _ _ _ _ b am z a;obtain ⟨s,hs,rfl⟩:=QX.1 this;exact Tf (f:=(·.1)) (SV.1 hs).1
  cases b
theorem JM (a:List iL):(wE a).length<=a.length:=by
 unfold wE;cases b:EF a with
 | none=>simp
 | some r =>
  unfold EF at b;split at b
  ·have:=vE _ _ _ _ b;have h2:=R5 (kh a) a;simp at this ⊢;omega
  cases b
def rE (n:Nat)(t:Tri):Prop:=t.1<n/\t.2.1<n/\t.2.2<n
theorem Jb (h:rE n t):∀ s∈rj t,0<=s.1/\s.1.toNat<n:=by
 obtain ⟨h1,h2,h3⟩:=h;intro s hs;simp only [rj,Q3,RU,Tk] at hs;rcases hs with rfl | rfl | rfl <;> simp [oX,EZ] <;> omega
theorem oW (h:∀ t∈tris,rE n t):∀ s∈da tris,0<=s.1/\s.1.toNat<n:=by
 intro s hs;obtain ⟨t,a,hs⟩:=List.mem_flatMap.1 hs;exact Jb (h t a) s hs
theorem rN (a:List Tri):(da a).length=3*a.length:=by
 induction a with
 | nil=>rfl
 | cons t l b =>
  have:da (t::l)=rj t++da l:=rfl;rw [this,QV,b];simp [rj];omega
def fQ (tris:List Tri):List Nat:=(wE (da tris)).map Int.toNat
theorem Ei (h:∀ t∈tris,rE n t):∀ z∈fQ tris,z<n:=by
 intro z a;obtain ⟨y,hy,rfl⟩:=QX.1 a;obtain ⟨s,hs,rfl⟩:=QX.1 (Bu y hy);exact (oW h s hs).2
theorem zq (h:∀ t∈tris,rE n t):(wE (da tris)).map me=(fQ tris).map aM:=by
 unfold fQ;rw [RG];refine List.map_congr_left (fun y hy=>?_);obtain ⟨s,hs,rfl⟩:=QX.1 (Bu y hy);have:=(oW h s hs).1;show me s.1=aM s.1.toNat;unfold me aM;rw [Int.toNat_of_nonneg this]
/-! Sets of ints as maps. -/
def Is (ks:List Int):List (Int × Value):=ks.map fun z=>(z,.bool true)
def PO (ks:List Int)(z:Int):List Int:=if z∈ks then ks else ks++[z]
theorem Jj (a:List Int):(Is a).length=a.length:=by simp [Is]
theorem wM:∀ {ks:List Int}{z:Int},fU (Is ks) z (.bool true)=Is (PO ks z)
 | [],z=>by simp [Is,fU,PO]
 | k::ks,z=>by
  have a:=wM (ks:=ks) (z:=z);unfold Is at a ⊢;simp only [Rs,fU];by_cases e:k=z
  ·subst e;simp [PO]
  have b:¬ z=k:=fun h=>e h.symm;rw [az e,a];unfold PO;by_cases h:z∈ks
  ·simp [h]
  simp [h,b]
def Mu (ks:List Int)(t:Tri):Nat->List Int
 | 0=>ks
 | k+1=>PO (Mu ks t k) (EZ t k)
def vI (tris:List Tri):Nat->List Int
 | 0=>[]
 | n+1=>Mu (vI tris n) (tris.getD n (0,0,0)) 3
theorem Ho (t:Tri)(a:k<3):(kC t)[k]?=some (.int .i64 (EZ t k)):=by
 rcases (by omega:k=0∨k=1∨k=2) with rfl | rfl | rfl <;> rfl
theorem Eh (h:decide (wE (da tris)≠[])=true):0<(fQ tris).length:=by
 unfold fQ;rw [al];exact RD.2 (aJ h)
theorem H0 (a:List Tri):decide (wE (da a)≠[])=decide (fQ a≠[]):=by
 rw [RC];unfold fQ;simp
def np (pts:List Pt)(tris:List Tri):Bool:=decide (fQ tris≠[]) && (decide ((vI tris tris.length).length=pts.length) && JR pts (fQ tris))
theorem tG (C:Mem)(J:Tabs C)(x y:Value)(c:List Pt)(a:List Tri)(K:a≠[])(k:Sl C 2 x (c.map gt))(g:Sl C 3 y (a.map kC))(d:(da a).Nodup)(l:∀ t∈a,rE c.length t)(L:∀ p∈c,QP 1 p)(z:a.length<=10000) :
  Gives cx.P 101 [.agg ⟨[x,y]⟩] C (.bool (np c a)):=by
 obtain ⟨V,W,rfl,M,X,_⟩:=id k;obtain ⟨A2,c2,rfl,N,Y,_⟩:=id g;have aa:maxLen<=9223372036854775807:=by simp [maxLen]
 simp only [al] at k g M N ⊢;refine UD func101 55 U3 fun w0=>Uz fun R b=>UQ U6 fun A=>C4 1 [1] b Z<|G.freeze 0 Z fun _ B e=>Uz fun R b=>Uw (PtrTo.block (Mem.get e mup) _) U8<|Ve (Gd _ _ _ a K g.m_ (Dx d)) U7 (fun ab _ _ O=>?_);obtain ⟨n,rfl,Q⟩:=O;refine C4 5 [1,3,4] b Z<|Uu 2 [1,3,18] Z<|Ux (fun E=>?_) fun E=>?_
 ·exact absurd E dc_
 refine Uz fun R b=>D.makeMap keyZ Z Z Z Z fl_ fun f=>C4 1 [1,3,5] b Z<|Uv 1 Z fun R b=>Uw (PtrTo.block (Mem.get e mup) _) U8<|C4 2 [1,3,5,21,22,23] b Z<|G.loop (fun fr C' h o=>∃ (i:Nat),(i<=a.length)/\fr=[(1,[],.pointer (some ⟨A,0,none⟩)),(3,[],.map (some n)),(5,[],.map (some f)),(21,[],.slice A2 a.length c2),(22,[],.int .i64 a.length),(23,[],.int .i64 i)]/\h=[.obj f (aR keyZ.enc (Is (vI a i)))]/\o=a.length-i) (hn_ [1,3,5,21,22,23] Z) ⟨0,QT _,Z,Z,Z⟩ (fun fr ac ad m _ q=>?_);obtain ⟨i,hi,rfl,rfl,rfl⟩:=q;refine Uu 1 [1,3,5,21,22,23,24] Z<|Ux (fun r=>?_) fun r=>?_
 ·have u:i<a.length:=by simpa using r
  obtain ⟨t,F⟩:∃ t,a[i]?=some t:=⟨a[i],aj u⟩;refine Uz fun R b=>UK g.m_ U10 om_ (by rw [QU,F];rfl:(a.map kC)[i]?=some (kC t)) fl_ fun ae S=>Uw S U8<|UP U5 fun b7=>UG (j:=0) U12<|UA [1,3,5,7,21,22,23] b Z<|Uz fun R b=>UE af U9<|C4 1 [1,3,5,21,22,23,27,28] b Z<|Vo 0 Z<|G.loop (fun fr C' h o=>∃ (j:Nat),(j<=3)/\fr=[(1,[],.pointer (some ⟨A,0,none⟩)),(3,[],.map (some n)),(5,[],.map (some f)),(21,[],.slice A2 a.length c2),(22,[],.int .i64 a.length),(23,[],.int .i64 i),(27,[],.agg ⟨kC t⟩),(28,[],.int .i64 j)]/\h=[.obj f (aR keyZ.enc (Is (Mu (vI a i) t j)))]/\o=3-j) (hn_ [1,3,5,21,22,23,27,28] Z) ⟨0,QT _,Z,Z,Z⟩ (fun fr ag ah m B q=>?_);obtain ⟨j,hj,rfl,rfl,rfl⟩:=q;refine Uu 1 [1,3,5,21,22,23,27,28,29] Z<|Ux (fun v=>?_) fun v=>?_
  ·have w:j<3:=by
    simp only [QZ] at v;omega
   refine Uz fun R b=>Vz U11 (fun _=>⟨by omega,by omega,Ho t w⟩) U2<|C4 1 [1,3,5,9,21,22,23,27,28] b Z<|Uv 2 Z fun R b=>D.mapUpdate keyZ (j:=0) Z Z Z Z Z Z Z Z Z Z kr_<|UA [1,3,5,21,22,23,27,28] b Z<|Uz fun R b=>UF _ U7<|C4 1 [1,3,5,21,22,23,27,28] b Z ?_;rw [wM];refine UH (m':=3-(j+1)) om_ B (hn_ [1,3,5,21,22,23,27,28] Z) ⟨j+1,om_,Z,Z,Z⟩
  have w:j=3:=by
   simp only [Ri] at v;omega
  subst w;refine Uz fun R b=>UF _ U7<|C4 1 [1,3,5,21,22,23] b Z<|UN (L':=[.obj f (aR keyZ.enc (Is (vI a (i+1))))]) (by rw [vI,au,F];rfl)<|UH (m':=a.length-(i+1)) om_ mup (hn_ [1,3,5,21,22,23] Z) ⟨i+1,om_,Z,Z,Z⟩
 have u:i=a.length:=by
  have:¬ i<a.length:=by simpa using r
  omega
 subst u;refine Uz fun R b=>Uw (PtrTo.block (Mem.get e mup) _) U8<|Uy U6<|U0 (JK _ _ _ n (ya a a.length) (Mem.get Q mup) (by rw [gC d _ (QO _),Q2];exact d) (by rw [gC d _ (QO _),Q2];exact fun s T=>(oW l s T).1) (by have:=congrArg List.length (gC d _ (QO _));rw [Q2,rN,al] at this;omega)) U7 fl_ (fun ai _ _ H=>?_);rw [gC d _ (QO _),Q2] at H;obtain ⟨bv,rfl,I⟩:=H;rw [zq l] at I;refine C4 5 [1,5,10,11] b Z<|UW [(3,1)] Z fun R b=>UB 3 Z<|Wu keyZ.enc af Z Z Z Z Z Z Z Z Z<|Uy U6<|UY U6 (fun _=>PtrTo.block (Mem.get e mup) _) U3<|UB 2 Z<|UU U8<|Uy U6<|UY U6 (fun _=>PtrTo.block (Mem.get e mup) _) U3<|Uy U6<|UT (fun U=>(Nq _ J.m_ _ _ bv c (fQ a) k.m_ I.m_ (by exact Eh (R3.1 (show (decide (wE (da a)≠[]) && _)=true/\True from U).1).1) (Ei l) L (by have:=JM (da a);rw [rN] at this;unfold fQ;rw [al];omega))) U9<|UU U8<|C4 1 [2] b Z<|UC U2<|⟨?_,Z⟩;have z:(((Is (vI a a.length)).length:Int) == (c.length:Int))=decide ((vI a a.length).length=c.length):=by
  rw [Jj,Tz,Sr,QZ];omega
 unfold np;rw [<- H0,<- z,<- Bool.and_assoc]
noncomputable def kP2:KeyP cx.P 58 (Str × Str):=Qw rfl rfl rfl dc_ dc_ rfl rfl kr_
def ptK (p:Pt):Str × Str:=(qtx p.1,qtx p.2)
theorem M4 {q:Pt}(h:ptK p=ptK q):p=q:=by
 have h1:=lD (congrArg (·.1) h);have h2:=lD (congrArg (·.2) h);exact Prod.ext h1 h2
def JY (l:List Pt):List ((Str × Str) × Value):=l.map fun p=>(ptK p,.bool true)
theorem BF (h:p ∉ l):dq (JY l) (ptK p)=none:=by
 rw [cH];unfold JY;rw [RG];intro hm;obtain ⟨q,a,b⟩:=QX.1 hm;exact h (M4 b ▸ a)
theorem NB (h:p ∉ l):fU (JY l) (ptK p) (.bool true)=JY (l++[p]):=by
 rw [jJ (BF h)];simp [JY]
def oo (n:Nat)(X:Nat->Nat->Bool):Bool:=(List.range n).any fun i=>(List.range i).any fun k=>X i k
def yz (pts:List Pt)(tris:List Tri)(X:Nat->Nat->Bool):Int:=if tris=[] then 13 else if np pts tris then 0 else if oo tris.length X then 26 else 25
structure MeshOk (pts:List Pt)(tris:List Tri):Prop where
 q:∀ p∈pts,QP 1 p
 nd:pts.Nodup
 ins:∀ t∈tris,rE pts.length t
 pos:∀ t∈tris,0<dG (pts.getD t.1 (0,0)) (pts.getD t.2.1 (0,0)) (pts.getD t.2.2 (0,0))
 sides:(da tris).Nodup
 lt:tris.length<=800
 lp:pts.length<=400
theorem pq (h:i<pts.length):pts[i]?=some (pts.getD i (0,0)):=by
 rw [au,aj h];rfl
theorem Bg (h:i<pts.length):pts.getD i (0,0)∈pts:=QQ (pq h)
def mF (t:Tri)(j:Nat):Nat:=if j=0 then t.1 else if j=1 then t.2.1 else t.2.2
theorem OL (t:Tri)(j:Nat):EZ t j=(mF t j:Nat):=by
 unfold EZ mF;split
 ·rfl
 split <;> rfl
theorem ff (h:rE n t)(j:Nat):mF t j<n:=by
 obtain ⟨h1,h2,h3⟩:=h;unfold mF;split
 ·exact h1
 split <;> assumption
theorem OU (q:Rat):decide (eN q.num<=0)=!decide (0<q):=by
 have h1:=Bd q;have h2:q.num=0 ↔ q=0:=TW;rw [<- decide_not,RC];have h3:¬ 0<q ↔ (q<0∨q=0):=by grind
 rw [h3,<- h1,<- h2];rcases ep q.num with h | h | h <;> omega
theorem Gz (C:Mem)(F:Tabs C)(H I:Value)(c:List Pt)(b:List Tri)(X:Nat->Nat->Bool)(r:Sl C 2 H (c.map gt))(x:Sl C 3 I (b.map kC))(d:MeshOk c b)
  (U:b≠[]->np c b=false->∀ D:Mem,C.le D->∀ i k:Nat,i<b.length->k<i->Gives cx.P 102 [.agg ⟨[H,I]⟩,.int .i64 i,.int .i64 k] D (.bool (X i k))) :
  Gives cx.P 66 [.agg ⟨[H,I]⟩] C (.int .i64 (yz c b X)):=by
 obtain ⟨A1,c1,rfl,ah,aA,_⟩:=id r;obtain ⟨A2,c2,rfl,ai,aB,_⟩:=id x;have aC:maxLen<=9223372036854775807:=by simp [maxLen]
 have aE:=d.lt;have aF:=d.lp;simp only [al] at r x ah ai U ⊢;refine UD func66 105 U3 fun w0=>Uz fun R a=>UQ U6 fun u=>C4 1 [1] a Z<|G.freeze 0 Z fun _ _ f=>Uv 1 Z fun R a=>Uw (PtrTo.block (Mem.get f mup) _) U8<|C4 3 [1,12] a Z<|Ux (fun y=>?_) fun y=>?_
 ·have h0:b=[]:=by
   have h:((b.length:Nat):Int)=0:=by simpa using y
   exact RB om_
  exact Uu 1 [2] Z<|UC U2<|⟨by unfold yz;rw [aW h0],Z⟩
 have h0:b≠[]:=by
  intro e;rw [e] at y;exact absurd y dc_
 refine Uv 1 Z fun R a=>Uw (PtrTo.block (Mem.get f mup) _) U8<|UB 4 Z<|UY U6 (fun _=>PtrTo.block (Mem.get f mup) _) U3<|UB 2 Z<|U1 U8<|C4 1 [1,17] a Z<|Ux (fun V=>?_) fun V=>?_
 ·exfalso;simp only [Sm,QZ] at V;omega
 refine Uz fun R a=>Wr kP2 Z Z Z Z fl_ fun J=>C4 1 [1,3] a Z<|Uv 1 Z fun R a=>Uw (PtrTo.block (Mem.get f mup) _) U8<|C4 2 [1,3,30,31,32] a Z<|G.loop (fun fr C' g l=>∃ (i:Nat),(i<=c.length)/\fr=[(1,[],.pointer (some ⟨u,0,none⟩)),(3,[],.map (some J)),(30,[],.slice A1 c.length c1),(31,[],.int .i64 c.length),(32,[],.int .i64 i)]/\g=[.obj J (aR D5 (JY (c.take i)))]/\l=c.length-i) (hn_ [1,3,30,31,32] Z) ⟨0,QT _,Z,Z,Z⟩ (fun fr aG aH m _ n=>?_);obtain ⟨i,hi,rfl,rfl,rfl⟩:=n;refine Uu 1 [1,3,30,31,32,33] Z<|Ux (fun W=>?_) fun W=>?_
 ·have o:i<c.length:=by simpa using W
  obtain ⟨p,z⟩:∃ p,c[i]?=some p:=⟨c[i],aj o⟩;have A:=d.q p (QQ z);have Y:p ∉ c.take i:=by
   intro hm;obtain ⟨j,v⟩:=Sg hm;rw [Rx] at v;split at v
   ·rename_i aI;have h3:=(aD.1 v);have h4:=(aD.1 z);have:=(List.getElem_inj d.nd).1 (h3.2.trans h4.2.symm);omega
   cases v
  have ak:JY (c.take (i+1))=JY (c.take i++[p]):=by rw [Rm,z];rfl
  refine Uz fun R a=>UK r.m_ U10 om_ (by rw [QU,z];rfl:(c.map gt)[i]?=some (gt p)) fl_ fun aJ am=>Uw am U8<|UP U5 fun b5=>UG (j:=0) U12<|UA [1,3,5,30,31,32] a Z<|Uz fun R a=>UE af U9<|UM (iz _ F.m_ (qtx p.1) (qtx p.2) (by have:=bJ A.1 dc_;omega) (by have:=bJ A.2 dc_;omega)) U7 fl_<|C4 1 [1,3,5,30,31,32,38] a Z<|Ux (fun K=>?_) fun K=>?_
  ·exfalso;rw [bO (A.1.le dc_),bO (A.2.le dc_)] at K;exact absurd K dc_
  refine Uv 1 Z fun R a=>UE af U9<|Ws kP2 ae Z Z Z Z Z Z Z Z Z (congrArg (kN (.bool false) false) (BF Y)) Z Z<|UA [1,3,5,30,31,32,41] a Z<|Ux (fun aa=>?_) fun aa=>?_
  ·exact absurd aa dc_
  refine Uv 1 Z fun R a=>UE af U9<|Wn kP2 (j:=1) (key:=ptK p) Z Z Z Z Z Z Z Z Z Z<|UA [1,3,30,31,32] a Z<|Uz fun R a=>UF _ U7<|C4 1 [1,3,30,31,32] a Z<|Vo 1 Z<|UN (L':=[.obj J (aR D5 (JY (c.take (i+1))))]) (by rw [ak,<- NB Y];rfl)<|UH (m':=c.length-(i+1)) om_ mup (hn_ [1,3,30,31,32] Z) ⟨i+1,om_,Z,Z,Z⟩
 refine Uv 1 Z fun R a=>Uw (PtrTo.block (Mem.get f mup) _) U8<|C4 2 [1,46,47,48] a Z<|G.dropAll<|G.loop (fun fr C' g l=>∃ (i:Nat),(i<=b.length)/\fr=[(1,[],.pointer (some ⟨u,0,none⟩)),(46,[],.slice A2 b.length c2),(47,[],.int .i64 b.length),(48,[],.int .i64 i)]/\g=[]/\l=b.length-i) (hn_ [1,46,47,48] Z) ⟨0,QT _,Z,Z,Z⟩ (fun fr aK aL m _ n=>?_);obtain ⟨i,hi,rfl,rfl,rfl⟩:=n;refine Uu 1 [1,46,47,48,49] Z<|Ux (fun L=>?_) fun L=>?_
 ·have o:i<b.length:=by simpa using L
  obtain ⟨t,ht⟩:∃ t,b[i]?=some t:=⟨b[i],aj o⟩;have ab:=QQ ht;have s:=d.ins t ab;have an:=d.pos t ab;refine Uz fun R a=>UK x.m_ U10 om_ (by rw [QU,ht];rfl:(b.map kC)[i]?=some (kC t)) fl_ fun aM ao=>Uw ao U8<|UP U5 fun b7=>UG (j:=0) U12<|UA [1,7,46,47,48] a Z<|Uz fun R a=>UE af U9<|C4 1 [1,7,46,47,48,52,53] a Z<|G.loop (fun fr C' g l=>∃ (j:Nat),(j<=3)/\fr=[(1,[],.pointer (some ⟨u,0,none⟩)),(7,[],.pointer (some ⟨b7,0,none⟩)),(46,[],.slice A2 b.length c2),(47,[],.int .i64 b.length),(48,[],.int .i64 i),(52,[],.agg ⟨kC t⟩),(53,[],.int .i64 j)]/\g=[.obj b7 (.cells ⟨kC t⟩ 108 (0,0))]/\l=3-j) (hn_ [1,7,46,47,48,52,53] Z) ⟨0,QT _,Z,Z,Z⟩ (fun fr aN aO m ap n=>?_);obtain ⟨j,v,rfl,rfl,rfl⟩:=n;refine Uu 1 [1,7,46,47,48,52,53,54] Z<|Ux (fun M=>?_) fun M=>?_
  ·have aq:j<3:=by
    simp only [QZ] at M;omega
   have aP:=ff s j;refine Uz fun R a=>Vz U11 (fun _=>⟨by omega,by omega,(show (kC t)[((j:Nat):Int).toNat]?=some (.int .i64 ((mF t j:Nat):Int)) from by rw [<- OL];exact Ho t aq)⟩) U2<|C4 1 [1,7,9,46,47,48,52,53] a Z<|Uv 5 Z fun R a=>UY U6 (fun _=>PtrTo.block (Mem.get f mup) _) U3<|UB 2 Z<|U1 U8<|UA [1,7,46,47,48,52,53,64] a Z<|Ux (fun ac=>?_) fun ac=>?_
   ·exfalso;simp only [Sm,QZ] at ac;omega
   refine Uz fun R a=>UF _ U7<|C4 1 [1,7,46,47,48,52,53] a Z<|UH (m':=3-(j+1)) om_ ap (hn_ [1,7,46,47,48,52,53] Z) ⟨j+1,om_,Z,Z,Z⟩
  clear M;refine US [0,1,2,3,4,5,6,7,8,9,10,11,12,13,14,15,16,17,18,19] [(18,1)] Z kr_ fun R hB a=>Uy U6<|Uw (PtrTo.block (Mem.get f mup) _) U8<|UV (0) U9 ag U2<|UE af U9<|UK r.m_ U10 om_ (by rw [QU,show (((t.1:Nat):Int)).toNat=t.1 from Z,pq s.1];rfl:(c.map gt)[(((t.1:Nat):Int)).toNat]?=some (gt (c.getD t.1 (0,0)))) fl_ fun aQ ar=>Uw ar U8<|Uy U6<|Uw (PtrTo.block (Mem.get f mup) _) U8<|UV (1) U9 ag U2<|UE af U9<|UK r.m_ U10 om_ (by rw [QU,show (((t.2.1:Nat):Int)).toNat=t.2.1 from Z,pq s.2.1];rfl:(c.map gt)[(((t.2.1:Nat):Int)).toNat]?=some (gt (c.getD t.2.1 (0,0)))) fl_ fun aS au=>Uw au U8<|Uy U6<|Uw (PtrTo.block (Mem.get f mup) _) U8<|UV (2) U9 ag U2<|UE af U9<|UK r.m_ U10 om_ (by rw [QU,show (((t.2.2:Nat):Int)).toNat=t.2.2 from Z,pq s.2.2];rfl:(c.map gt)[(((t.2.2:Nat):Int)).toNat]?=some (gt (c.getD t.2.2 (0,0)))) fl_ fun aT av=>Uw av U8<|UT (fun _=>(oL _ F.m_ (c.getD t.1 (0,0)) (c.getD t.2.1 (0,0)) (c.getD t.2.2 (0,0)) 1 dc_ dc_ (d.q _ (Bg s.1)) (d.q _ (Bg s.2.1)) (d.q _ (Bg s.2.2)))) U9<|C4 1 [1,46,47,48,85] a Z<|Ux (fun N=>?_) fun N=>?_
  ·exfalso;rw [OU,Ra an] at N;exact absurd N dc_
  refine Uz fun R a=>UF _ U7<|C4 1 [1,46,47,48] a Z<|G.dropAll<|UH (m':=b.length-(i+1)) om_ mup (hn_ [1,46,47,48] Z) ⟨i+1,om_,Z,Z,Z⟩
 clear L;refine Uz fun R a=>Uw (PtrTo.block (Mem.get f mup) _) U8<|UM (tG _ F.m_ _ _ c b h0 r.m_ x.m_ d.sides d.ins d.q om_) U7 fl_<|UA [1,88] a Z<|Ux (fun O=>?_) fun O=>?_
 ·have w:np c b=true:=O;exact Uu 1 [2] Z<|UC U2<|⟨by unfold yz;rw [az h0,aW w],Z⟩
 have w:np c b=false:=O;refine Uv 1 Z fun R a=>Uw (PtrTo.block (Mem.get f mup) _) U8<|C4 2 [1,91,92] a Z<|G.loop (fun fr C' g l=>∃ (i:Nat),(i<=b.length/\oo i X=false)/\fr=[(1,[],.pointer (some ⟨u,0,none⟩)),(91,[],.int .i64 b.length),(92,[],.int .i64 i)]/\g=[]/\l=b.length-i) (hn_ [1,91,92] Z) ⟨0,⟨QT _,Z⟩,Z,Z,Z⟩ (fun fr aU aV m _ n=>?_);obtain ⟨i,⟨aX,B⟩,rfl,rfl,rfl⟩:=n;refine Uu 1 [1,91,92,93] Z<|Ux (fun Q=>?_) fun Q=>?_
 ·have o:i<b.length:=by simpa using Q
  refine Uu 2 [1,10,91,92] Z<|Uu 2 [1,10,91,92,95,96] Z<|G.loop (fun fr C' g l=>∃ (k:Nat),(k<=i/\(List.range k).any (fun k=>X i k)=false)/\fr=[(1,[],.pointer (some ⟨u,0,none⟩)),(10,[],.int .i64 i),(91,[],.int .i64 b.length),(92,[],.int .i64 i),(95,[],.int .i64 i),(96,[],.int .i64 k)]/\g=[]/\l=i-k) (hn_ [1,10,91,92,95,96] Z) ⟨0,⟨QT _,Z⟩,Z,Z,Z⟩ (fun fr aY aZ m aw n=>?_);obtain ⟨k,⟨a0,ad⟩,rfl,rfl,rfl⟩:=n;refine Uu 1 [1,10,91,92,95,96,97] Z<|Ux (fun S=>?_) fun S=>?_
  ·have E:k<i:=by simpa using S
   refine Uu 2 [1,10,11,91,92,95,96] Z<|Uz fun R a=>Uw (PtrTo.block (Mem.get f mup) _) U8<|UB 2 Z<|UI (U h0 w _ mup i k o E) U7<|UA [1,10,91,92,95,96,102] a Z<|Ux (fun T=>?_) fun T=>?_
   ·have ax:X i k=true:=T;have hc:oo b.length X=true:=Tg.2 ⟨i,Q9.2 o,Tg.2 ⟨k,Q9.2 E,ax⟩⟩;exact Uu 1 [2] Z<|UC U2<|⟨by unfold yz;rw [az h0,w,az dc_,aW hc],Z⟩
   have ay:X i k=false:=T;refine Uz fun R a=>UF _ U7<|C4 1 [1,10,91,92,95,96] a Z<|UH (m':=i-(k+1)) om_ aw (hn_ [1,10,91,92,95,96] Z) ⟨k+1,⟨by omega,by rw [RY,List.any_append,ad];simp [ay]⟩,Z,Z,Z⟩
  have E:k=i:=by
   have:¬ k<i:=by simpa using S
   omega
  subst E;refine Uz fun R a=>UF _ U7<|C4 1 [1,91,92] a Z<|UH (m':=b.length-(k+1)) om_ mup (hn_ [1,91,92] Z) ⟨k+1,⟨by omega,by unfold oo at B ⊢;rw [RY,List.any_append,B];simp [ad]⟩,Z,Z,Z⟩
 have o:i=b.length:=by
  have:¬ i<b.length:=by simpa using Q
  omega
 refine Uu 1 [2] Z<|UC U2<|⟨?_,Z⟩;rw [o] at B;unfold yz;rw [az h0,w,az dc_,B];rfl
structure Good (pts:List Pt)(tris:List Tri):Prop where
 ok:MeshOk pts tris
 ne:tris≠[]
 whole:np pts tris=true
structure MeshIn (C:Mem)(mv:Value)(pts:List Pt)(tris:List Tri):Prop where
 ex:∃ v1 v2,mv=.agg ⟨[v1,v2]⟩/\Sl C 2 v1 (pts.map gt)/\Sl C 3 v2 (tris.map kC)
theorem MeshIn.mono {C D:Mem}{a:Value}{b:List Pt}{c:List Tri}(h:MeshIn C a b c)(d:C.le D):MeshIn D a b c:=by
 obtain ⟨e,f,h1,h2,h3⟩:=h.ex;exact ⟨e,f,h1,h2.mono d,h3.mono d⟩
theorem MeshIn.m_ {D:Mem}{a:Value}(h:MeshIn C a pts tris)(b:C.le D:=by exact mup):MeshIn D a pts tris:=MeshIn.mono h b
def nox:Nat->Nat->Bool:=fun _ _=>false
theorem jN (C:Mem)(f:Tabs C)(d:Value)(a:List Pt)(b:List Tri)(g:MeshIn C d a b)(c:Good a b):Gives cx.P 66 [d] C (.int .i64 0):=by
 obtain ⟨i,j,rfl,h1,h2⟩:=g.ex;have h:=Gz C f i j a b nox h1 h2 c.ok (fun _ h3=>by rw [c.whole] at h3;cases h3);have e:yz a b nox=0:=by unfold yz;rw [az c.ne,aW c.whole]
 rwa [e] at h
def cor (pts:List Pt)(t:Tri)(j:Nat):Pt:=pts.getD (mF t j) (0,0)
def yI (pts:List Pt)(p:Pt)(t:Tri):Bool:=decide (0<=dG (cor pts t 0) (cor pts t 1) p) && decide (0<=dG (cor pts t 1) (cor pts t 2) p) && decide (0<=dG (cor pts t 2) (cor pts t 0) p)
def lO (pts:List Pt)(tris:List Tri)(p:Pt):List Nat:=(List.range tris.length).filter fun i=>yI pts p (tris.getD i (0,0,0))
theorem nE (h:MeshOk pts tris)(a:t∈tris)(j:Nat):QP 1 (cor pts t j):=h.q _ (Bg (ff (h.ins t a) j))
theorem QP.le {k m:Nat}{p:Pt}(h:QP k p)(a:k<=m):QP m p:=⟨h.1.le a,h.2.le a⟩
theorem sQ (C:Mem)(d:Value)(a:List Pt)(b:List Tri)(f:MeshIn C d a b)(g:MeshOk a b)(i:Nat)(t:Tri)(e:b[i]?=some t) :
  Gives cx.P 156 [d,.int .i64 i] C (N5 (cor a t 0) (cor a t 1) (cor a t 2)):=by
 obtain ⟨h,j,rfl,h1,h2⟩:=f.ex;have c:=g.ins t (QQ e);exact Ea C h j a b i t _ _ _ h1 h2 e (pq c.1) (pq c.2.1) (pq c.2.2)
theorem FJ (h:QP k p)(a:k<=1000):(qtx p.1).length<=999998/\(qtx p.2).length<=999998:=by
 have h1:=bJ (h.1.le (Tl k)) om_;have h2:=bJ (h.2.le (Tl k)) om_;exact ⟨by omega,by omega⟩
def PtR (p:Pt):Prop:=bg (qtx p.1)=true/\bg (qtx p.2)=true
theorem iy (C:Mem)(c:Tabs C)(p:Pt)(a:QP 23 p)(b:PtR p):Gives cx.P 99 [ptV p] C (.int .i64 0):=by
 have h:=iz C c (qtx p.1) (qtx p.2) (FJ a dc_).1 (FJ a dc_).2;rw [b.1,b.2] at h;exact h
theorem pS (C:Mem)(f:Tabs C)(A:Value)(c:List Pt)(a:List Tri)(p:Pt)(B:MeshIn C A c a)(E:Good c a)(F:QP 23 p)(g:PtR p) :
  Pur cx.P 149 [A,ptV p] C fun u D=>∃ v,u=.tuple #[v,.int .i64 0]/\Sl D 1 v ((lO c a p).map aM):=by
 have d:=E.ok;have V:=d.lt;have W:maxLen<=9223372036854775807:=by simp [maxLen]
 have h:=B;obtain ⟨X,Y,rfl,h1,h2⟩:=id B.ex;obtain ⟨A1,c1,rfl,aa,ab,_⟩:=id h1;obtain ⟨A2,c2,rfl,ac,ad,_⟩:=id h2;simp only [al] at h1 h2 h ⊢;refine UD func149 34 U3 fun w0=>Uz fun R b=>UQ U6 fun N=>UQ U6 fun O=>C4 2 [2,3] b Z<|G.freeze 1 Z fun _ _ k=>G.freeze 0 Z fun _ _ H=>Uz fun R b=>Uw (PtrTo.block (Mem.get k mup) _) U8<|UI (jN _ f.m_ _ c a h.m_ E) U7<|C4 1 [2,3,6] b Z<|Uu 2 [2,3,6,12] Z<|Ux (fun I=>?_) fun I=>?_
 ·exact absurd I dc_
 refine Uz fun R b=>Uw (PtrTo.block (Mem.get H mup) _) U8<|UI (iy _ f.m_ p F g) U7<|C4 1 [2,3,16] b Z<|Ux (fun J=>?_) fun J=>?_
 ·exact absurd J dc_
 refine Uu 1 [2,3,7] Z<|Uv 1 Z fun R b=>Uw (PtrTo.block (Mem.get k mup) _) U8<|C4 2 [2,3,7,19,20] b Z<|G.nilArr 3 1<|G.loop (fun fr C' K Q=>∃ (i:Nat)(out:List Nat)(w:Value),(i<=a.length/\out=(List.range i).filter (fun i=>yI c p (a.getD i (0,0,0))))/\fr=[(2,[],.pointer (some ⟨N,0,none⟩)),(3,[],.pointer (some ⟨O,0,none⟩)),(7,[],w),(19,[],.int .i64 a.length),(20,[],.int .i64 i)]/\K=[.arr w 3 1 out.length (out.map aM).flatten]/\Q=a.length-i) (hn_ [2,3,7,19,20] Z) ⟨0,[],_,⟨QT _,Z⟩,Z,Z,Z⟩ (fun fr ae af m _ S=>?_);obtain ⟨i,out,w,⟨hi,e⟩,rfl,rfl,rfl⟩:=S;refine Uu 1 [2,3,7,19,20,21] Z<|Ux (fun l=>?_) fun l=>?_
 ·have n:i<a.length:=by simpa using l
  obtain ⟨t,o⟩:∃ t,a[i]?=some t:=⟨a[i],aj n⟩;have q:=QQ o;have L:a.getD i (0,0,0)=t:=by rw [au,o];rfl
  have ag:out.length<=i:=by
   rw [e];exact Rb (R5 _ _) am
  refine Uu 2 [2,3,7,8,19,20] Z<|US [0,1,2,3,4] [(2,1),(4,1)] Z kr_ fun R hB b=>Uw (PtrTo.block (Mem.get k mup) _) U8<|Uy U6<|Vb (fun _=>(sQ _ _ c a h.m_ d i t o)) U9<|Uw (PtrTo.block (Mem.get H mup) _) U8<|UT (fun _=>(G4 _ f.m_ (cor c t 0) (cor c t 1) (cor c t 2) p 23 dc_ dc_ ((nE d q 0).le dc_) ((nE d q 1).le dc_) ((nE d q 2).le dc_) F)) U9<|UA [2,3,7,8,19,20,27] b Z<|Ux (fun s=>?_) fun s=>?_
  ·have x:yI c p t=true:=s;have z:(List.range (i+1)).filter (fun i=>yI c p (a.getD i (0,0,0)))=out++[i]:=by rw [RY,Si,<- e,List.filter_cons,L,x];rfl
   refine Uv 2 Z fun R b=>UR [aM i] U12 fun ah _ _ T=>D.append (j:=0) U11 T Z ax (by simp only [aK];omega) fl_ fun M=>C4 1 [2,3,7,19,20] b Z<|Uz fun R b=>UF _ U7<|C4 1 [2,3,7,19,20] b Z<|UN (L':=[.arr M 3 1 (out++[i]).length ((out++[i]).map aM).flatten]) (by simp [aM])<|UH (m':=a.length-(i+1)) om_ mup (hn_ [2,3,7,19,20] Z) ⟨i+1,out++[i],M,⟨by omega,z.symm⟩,Z,Z,Z⟩
  have x:yI c p t=false:=s;have z:(List.range (i+1)).filter (fun i=>yI c p (a.getD i (0,0,0)))=out:=by rw [RY,Si,<- e,List.filter_cons,L,x];simp
  refine Uz fun R b=>UF _ U7<|C4 1 [2,3,7,19,20] b Z<|UH (m':=a.length-(i+1)) om_ mup (hn_ [2,3,7,19,20] Z) ⟨i+1,out,w,⟨by omega,z.symm⟩,Z,Z,Z⟩
 have n:i=a.length:=by
  have:¬ i<a.length:=by simpa using l
  omega
 refine Uu 3 [4,5] Z<|G.freezeArr 0 (out.map aM) rfl rfl (by intro r g;obtain ⟨y,_,rfl⟩:=QX.1 g;rfl) am fun Cg hg U=>UJ (G.dropAll (UX U3 ?_));refine ⟨Z,_,Z, ?_⟩;rw [n] at e;unfold lO;rw [<- e];exact U
theorem qH (C:Mem)(g:Tabs C)(d:Value)(a:List Pt)(b:List Tri)(p:Pt)(e:MeshIn C d a b)(h:Good a b)(i:QP 23 p)(j:PtR p) :
  Gives cx.P 97 [d,ptV p] C (.tuple #[.bool (decide (lO a b p≠[])),.int .i64 0]):=by
 have k:=e;obtain ⟨n,o,rfl,h1,h2⟩:=id e.ex;refine UD func97 18 U3 fun w0=>Uz fun R c=>UQ U6 fun q=>UQ U6 fun r=>C4 2 [2,3] c Z<|Uz fun R c=>UE ae U9<|UE af U9<|Ve (pS _ g.m_ _ a b p k.m_ h i j) U7 (fun s _ _ l=>?_);obtain ⟨t,rfl,m⟩:=l;obtain ⟨u,v,f,_⟩:=id m;rw [al] at f;subst f;refine C4 5 [6,7] c Z<|Uu 6 [4,5] Z<|UJ (G.dropAll (UX U3 ?_));refine ⟨?_,Z⟩;have:decide (((lO a b p).length:Int) > 0)=decide (lO a b p≠[]):=by
  rw [RC,<- RD];omega
 rw [<- this]
theorem zl (C:Mem)(j:Tabs C)(d:Value)(c:List Pt)(b:List Tri)(i:Nat)(e:MeshIn C d c b)(k:Good c b)(l:i<b.length) :
  Gives cx.P 273 [d,.int .i64 i] C (.int .i64 0):=by
 have f:=e;obtain ⟨m,n,rfl,h1,h2⟩:=id e.ex;obtain ⟨A2,c2,rfl,o,p,_⟩:=id h2;simp only [al] at h1 h2 f ⊢;refine UD func273 20 U3 fun w0=>Uz fun R a=>UQ U6 fun q=>C4 1 [1,2] a Z<|Uz fun R a=>UE af U9<|UI (jN _ j.m_ _ c b f.m_ k) U7<|C4 1 [1,2,5] a Z<|Uu 2 [1,2,5,9] Z<|Ux (fun g=>?_) fun g=>?_
 ·exact absurd g dc_
 refine Uv 5 Z fun R a=>UE af U9<|UB 2 Z<|U1 U8<|UA [19] a Z<|Ux (fun h=>?_) fun h=>?_
 ·exfalso;simp only [Sm,QZ] at h;omega
 exact Uu 1 [4] Z<|UC U2<|⟨Z,Z⟩
def wgt (pts:List Pt)(t:Tri)(p:Pt)(j:Nat):Rat:=dG p (cor pts t ((j+1) % 3)) (cor pts t ((j+2) % 3)) / dG (cor pts t 0) (cor pts t 1) (cor pts t 2)
theorem jM (a:MeshOk pts tris)(b:t∈tris):dG (cor pts t 0) (cor pts t 1) (cor pts t 2)≠0:=by
 have h:=a.pos t b;intro e;have c:dG (pts.getD t.1 (0,0)) (pts.getD t.2.1 (0,0)) (pts.getD t.2.2 (0,0))=0:=e;rw [c] at h;exact absurd h dc_
theorem Fl (C:Mem)(g:Tabs C)(x:Value)(c:List Pt)(h:List Tri)(p:Pt)(i:Nat)(t:Tri)(y:MeshIn C x c h)(z:Good c h)(l:QP 23 p)(O:PtR p)(o:h[i]?=some t)(q:∀ j,QB 22 (wgt c t p j)) :
  Gives cx.P 239 [x,.int .i64 i,ptV p] C (.tuple #[.agg ⟨[ai (qtx (wgt c t p 0)),ai (qtx (wgt c t p 1)),ai (qtx (wgt c t p 2))]⟩,.int .i64 0]):=by
 have r:=z.ok;have A:=QQ o;have Q:=(aD.1 o).1;have B:=y;obtain ⟨v1,v2,rfl,h1,h2⟩:=id y.ex;have e:=fun j=>(nE r A j).le (show 1<=23 by decide);have s:=jM r A;have u:∀ a b,QP 23 a->QP 23 b->QB 189 (dG p a b):=fun a b S T=>(zy l S T).le dc_;have v:QB 189 (dG (cor c t 0) (cor c t 1) (cor c t 2)):=(zy (e 0) (e 1) (e 2)).le dc_;refine UD func239 69 U3 fun w0=>Uz fun R d=>UQ U6 fun b3=>UQ U6 fun U=>UP U5 fun D=>C4 1 [1,3,5,6] d Z<|G.freeze 2 Z fun _ _ E=>G.freeze 1 Z fun _ _ n=>Uz fun R d=>Uw (PtrTo.block (Mem.get E mup) _) U8<|Uy U6<|UI (zl _ g.m_ _ c h i B.m_ z Q) U7<|C4 1 [1,3,5,6,8] d Z<|Uu 2 [1,3,5,6,8,18] Z<|Ux (fun F=>?_) fun F=>?_
 ·exact absurd F dc_
 refine Uz fun R d=>Uw (PtrTo.block (Mem.get n mup) _) U8<|UI (iy _ g.m_ p l O) U7<|C4 1 [1,3,5,6,23] d Z<|Ux (fun H=>?_) fun H=>?_
 ·exact absurd H dc_
 refine Uz fun R d=>Uw (PtrTo.block (Mem.get E mup) _) U8<|Uy U6<|UI (sQ _ _ c h B.m_ r i t o) U7<|UP U5 fun V=>UG (j:=0) U12<|UA [5,6,9] d Z<|G.freeze 0 Z fun _ _ f=>Uz fun R d=>UP U5 fun I=>UA [5,6,9,10] d Z<|Uu 1 [5,6,9,10,28] Z<|G.loop (fun fr C' W X=>∃ (j:Nat),(j<=3)/\fr=[(5,[],.pointer (some ⟨U,0,none⟩)),(6,[],.pointer (some ⟨D,0,none⟩)),(9,[],.pointer (some ⟨V,0,none⟩)),(10,[],.pointer (some ⟨I,0,none⟩)),(28,[],.int .i64 j)]/\W=[.obj I (.cells ⟨(List.range 3).map fun k=>if k<j then ai (qtx (wgt c t p k)) else ai []⟩ 328 (0,0)),.obj D (.cells ⟨[ai [],ai [],ai []]⟩ 328 (0,0))]/\X=3-j) (hn_ [5,6,9,10,28] Z) ⟨0,QT _,Z,Z,Z⟩ (fun fr aa ab m _ Y=>?_);obtain ⟨j,hj,rfl,rfl,rfl⟩:=Y;refine Uu 1 [5,6,9,10,28,29] Z<|Ux (fun w=>?_) fun w=>?_
 ·have J:j<3:=by
   simp only [QZ] at w;omega
  rcases (by omega:j=0∨j=1∨j=2) with rfl | rfl | rfl
  ·refine Uu 2 [5,6,9,10,11,28] Z<|US [0,1,2,3,4,5,6,7,8,9,10,11,12,13,14,15,16,17,18,19,20,21,22,23,24,25] [(12,1),(19,1),(20,1)] Z kr_ fun R K d=>Uy U6<|Uw (PtrTo.block (Mem.get n mup) _) U8<|Uy U6<|UF _ U7<|VG U6 om_ om_ U2<|UV (_) U9 ag U2<|Uw (bkT f 2) U8<|Uy U6<|UF _ U7<|VG U6 om_ om_ U2<|UV (_) U9 ag U2<|Uw (bkT f 2) U8<|UT (fun _=>(kV _ g.m_ p (cor c t ((0+1) % 3)) (cor c t ((0+2) % 3)) 23 dc_ dc_ l (e _) (e _))) U9<|UV (0) U9 ag U2<|Uw (bkT f 2) U8<|UV (2) U9 ag U2<|Uw (bkT f 2) U8<|UV (4) U9 ag U2<|Uw (bkT f 2) U8<|UT (fun _=>(kV _ g.m_ (cor c t 0) (cor c t 1) (cor c t 2) 23 dc_ dc_ (e 0) (e 1) (e 2))) U9<|UT (fun _=>(gW _ g.m_ _ _ 189 dc_ dc_ (u _ _ (e _) (e _)) v s)) U9<|UB 3 Z<|UV (_) U9 ag U2<|UG (j:=0) U12<|UA [5,6,9,10,11,28] d Z<|Uv 1 Z fun R d=>UV (_) U9 ag U2<|UE af U9<|UI (tS _ g.m_ (wgt c t p 0) (q 0)) U7<|C4 5 [5,6,9,10,13,28] d Z<|Uu 2 [5,6,9,10,13,28,64] Z<|Ux (fun L=>?_) fun L=>?_
   ·exact absurd L dc_
   refine Uz fun R d=>UF _ U7<|C4 1 [5,6,9,10,28] d Z<|UH (m':=2) om_ mup (hn_ [5,6,9,10,28] Z) ⟨1,by decide,Z,Z,Z⟩
  ·refine Uu 2 [5,6,9,10,11,28] Z<|US [0,1,2,3,4,5,6,7,8,9,10,11,12,13,14,15,16,17,18,19,20,21,22,23,24,25] [(12,1),(19,1),(20,1)] Z kr_ fun R K d=>Uy U6<|Uw (PtrTo.block (Mem.get n mup) _) U8<|Uy U6<|UF _ U7<|VG U6 om_ om_ U2<|UV (_) U9 ag U2<|Uw (bkT f 2) U8<|Uy U6<|UF _ U7<|VG U6 om_ om_ U2<|UV (_) U9 ag U2<|Uw (bkT f 2) U8<|UT (fun _=>(kV _ g.m_ p (cor c t ((1+1) % 3)) (cor c t ((1+2) % 3)) 23 dc_ dc_ l (e _) (e _))) U9<|UV (0) U9 ag U2<|Uw (bkT f 2) U8<|UV (2) U9 ag U2<|Uw (bkT f 2) U8<|UV (4) U9 ag U2<|Uw (bkT f 2) U8<|UT (fun _=>(kV _ g.m_ (cor c t 0) (cor c t 1) (cor c t 2) 23 dc_ dc_ (e 0) (e 1) (e 2))) U9<|UT (fun _=>(gW _ g.m_ _ _ 189 dc_ dc_ (u _ _ (e _) (e _)) v s)) U9<|UB 3 Z<|UV (_) U9 ag U2<|UG (j:=0) U12<|UA [5,6,9,10,11,28] d Z<|Uv 1 Z fun R d=>UV (_) U9 ag U2<|UE af U9<|UI (tS _ g.m_ (wgt c t p 1) (q 1)) U7<|C4 5 [5,6,9,10,13,28] d Z<|Uu 2 [5,6,9,10,13,28,64] Z<|Ux (fun M=>?_) fun M=>?_
   ·exact absurd M dc_
   refine Uz fun R d=>UF _ U7<|C4 1 [5,6,9,10,28] d Z<|UH (m':=1) om_ mup (hn_ [5,6,9,10,28] Z) ⟨2,by decide,Z,Z,Z⟩
  refine Uu 2 [5,6,9,10,11,28] Z<|US [0,1,2,3,4,5,6,7,8,9,10,11,12,13,14,15,16,17,18,19,20,21,22,23,24,25] [(12,1),(19,1),(20,1)] Z kr_ fun R K d=>Uy U6<|Uw (PtrTo.block (Mem.get n mup) _) U8<|Uy U6<|UF _ U7<|VG U6 om_ om_ U2<|UV (_) U9 ag U2<|Uw (bkT f 2) U8<|Uy U6<|UF _ U7<|VG U6 om_ om_ U2<|UV (_) U9 ag U2<|Uw (bkT f 2) U8<|UT (fun _=>(kV _ g.m_ p (cor c t ((2+1) % 3)) (cor c t ((2+2) % 3)) 23 dc_ dc_ l (e _) (e _))) U9<|UV (0) U9 ag U2<|Uw (bkT f 2) U8<|UV (2) U9 ag U2<|Uw (bkT f 2) U8<|UV (4) U9 ag U2<|Uw (bkT f 2) U8<|UT (fun _=>(kV _ g.m_ (cor c t 0) (cor c t 1) (cor c t 2) 23 dc_ dc_ (e 0) (e 1) (e 2))) U9<|UT (fun _=>(gW _ g.m_ _ _ 189 dc_ dc_ (u _ _ (e _) (e _)) v s)) U9<|UB 3 Z<|UV (_) U9 ag U2<|UG (j:=0) U12<|UA [5,6,9,10,11,28] d Z<|Uv 1 Z fun R d=>UV (_) U9 ag U2<|UE af U9<|UI (tS _ g.m_ (wgt c t p 2) (q 2)) U7<|C4 5 [5,6,9,10,13,28] d Z<|Uu 2 [5,6,9,10,13,28,64] Z<|Ux (fun N=>?_) fun N=>?_
  ·exact absurd N dc_
  refine Uz fun R d=>UF _ U7<|C4 1 [5,6,9,10,28] d Z<|UH (m':=0) om_ mup (hn_ [5,6,9,10,28] Z) ⟨3,by decide,Z,Z,Z⟩
 have J:j=3:=by
  simp only [Ri] at w;omega
 subst J;refine Uz fun R d=>UE af U9<|UG (j:=1) U12<|C4 1 [6,7] d Z<|UJ (VF af U5 ?_);exact ⟨Z,Z⟩
theorem bY {f:α->List Value}{l:List α}{x:α}(h:l[i]?=some x):(l.map f)[i]?=some (f x):=by rw [QU,h];rfl
def BU (n:Nat)(l:List Str):Int:=if l.length=n then qK (l.all bg) else 5
theorem xy (C:Mem)(y:Tabs C)(z v A:Value)(b:List Pt)(f:List Tri)(l:List Str)(B:MeshIn C z b f)(D:Good b f)(g:Sl C 1 v [[A]])(k:Sl C 1 A (l.map nN))(N:∀ s∈l,s.length<=999998) :
  Gives cx.P 103 [z,v] C (.int .i64 (BU b.length l)):=by
 have E:=B;have Y:=D.ok.lp;obtain ⟨v1,v2,rfl,h1,h2⟩:=id B.ex;obtain ⟨A1,c1,rfl,aa,ab,_⟩:=id h1;obtain ⟨F,H,rfl,ac,ad,_⟩:=id g;obtain ⟨n,o,rfl,O,ae,_⟩:=id k;have af:maxLen<=9223372036854775807:=by simp [maxLen]
 simp only [al,aK] at h1 g k E O ⊢;refine UD func103 41 U3 fun w0=>Uz fun R a=>UQ U6 fun I=>C4 1 [1,2] a Z<|G.freeze 0 Z fun _ _ J=>Uz fun R a=>Uw (PtrTo.block (Mem.get J mup) _) U8<|UI (jN _ y.m_ _ b f E.m_ D) U7<|C4 1 [1,2,5] a Z<|Uu 2 [1,2,5,14] Z<|Ux (fun K=>?_) fun K=>?_
 ·exact absurd K dc_
 refine Uu 3 [2,16,17,18] Z<|G.loop (fun fr C' p q=>∃ (i:Nat),(i<=1/\(i=1->l.length=b.length/\l.all bg=true))/\fr=[(2,[],.pointer (some ⟨I,0,none⟩)),(16,[],.slice F 1 H),(17,[],.int .i64 1),(18,[],.int .i64 i)]/\p=[]/\q=1-i) (hn_ [2,16,17,18] Z) ⟨0,⟨QT _,fun h=>absurd h dc_⟩,Z,Z,Z⟩ (fun fr ag ah m _ r=>?_);obtain ⟨i,⟨hi,Q⟩,rfl,rfl,rfl⟩:=r;refine Uu 1 [2,16,17,18,19] Z<|Ux (fun t=>?_) fun t=>?_
 ·obtain rfl:i=0:=by
   simp only [QZ] at t;omega
  refine Uz fun R a=>UK g.m_ U10 om_ (rfl:([[.slice n l.length o]]:List (List Value))[0]?=some [.slice n l.length o]) fl_ fun ai S=>Uw S U8<|C4 1 [2,7,16,17,18] a Z<|Uv 3 Z fun R a=>Uw (PtrTo.block (Mem.get J mup) _) U8<|C4 2 [2,7,16,17,18,27] a Z<|Ux (fun d=>?_) fun d=>?_
  ·have T:l.length≠b.length:=by
    intro e;rw [e] at d;simp at d
   exact Uu 1 [4] Z<|UC U2<|⟨by unfold BU;rw [az T],Z⟩
  have L:l.length=b.length:=by
   have h:((l.length:Nat):Int)=(b.length:Nat):=by simpa using d
   omega
  refine Uu 3 [2,16,17,18,28,29,30] Z<|G.loop (fun fr C' p q=>∃ (j:Nat),(j<=l.length/\(l.take j).all bg=true)/\fr=[(2,[],.pointer (some ⟨I,0,none⟩)),(16,[],.slice F 1 H),(17,[],.int .i64 1),(18,[],.int .i64 0),(28,[],.slice n l.length o),(29,[],.int .i64 l.length),(30,[],.int .i64 j)]/\p=[]/\q=l.length-j) (hn_ [2,16,17,18,28,29,30] Z) ⟨0,⟨QT _,by simp⟩,Z,Z,Z⟩ (fun fr ak am m U r=>?_);obtain ⟨j,⟨hj,u⟩,rfl,rfl,rfl⟩:=r;refine Uu 1 [2,16,17,18,28,29,30,31] Z<|Ux (fun w=>?_) fun w=>?_
  ·have x:j<l.length:=by simpa using w
   obtain ⟨s,hs⟩:∃ s,l[j]?=some s:=⟨l[j],aj x⟩;refine Uz fun R a=>UK k.m_ U10 om_ (bY hs) fl_ fun an V=>Uw V U8<|C4 1 [2,9,16,17,18,28,29,30] a Z<|Uv 1 Z fun R a=>UI (dX _ y.m_ s (N s (QQ hs))) U7<|C4 1 [2,10,16,17,18,28,29,30] a Z<|Uu 2 [2,10,16,17,18,28,29,30,37] Z<|Ux (fun c=>?_) fun c=>?_
   ·have M:bg s=false:=by
     rcases gN (bg s) with ⟨h1,h2⟩ | ⟨h1,h2⟩
     ·rw [h1] at c;exact absurd c dc_
     exact h2
    refine Uu 2 [4] Z<|UC U2<|⟨?_,Z⟩;unfold BU;rw [aW L,M,show l.all bg=false from S3.2 ⟨s,QQ hs,by rw [M];decide⟩]
   have W:bg s=true:=by
    rcases gN (bg s) with ⟨h1,h2⟩ | ⟨h1,h2⟩
    ·exact h2
    rw [h1] at c;exact absurd c dc_
   refine Uz fun R a=>UF _ U7<|C4 1 [2,16,17,18,28,29,30] a Z<|UH (m':=l.length-(j+1)) om_ U (hn_ [2,16,17,18,28,29,30] Z) ⟨j+1,⟨by omega,by rw [Rm,hs,Ty,u];simp [W]⟩,Z,Z,Z⟩
  have x:j=l.length:=by
   have:¬ j<l.length:=by simpa using w
   omega
  refine Uz fun R a=>UF _ U7<|C4 1 [2,16,17,18] a Z<|UH (m':=0) om_ mup (hn_ [2,16,17,18] Z) ⟨1,⟨QO _,fun _=>⟨L,by rw [x,Q2] at u;exact u⟩⟩,Z,Z,Z⟩
 have X:i=1:=by
  simp only [Ri] at t;omega
 refine Uu 1 [4] Z<|UC U2<|⟨?_,Z⟩;obtain ⟨h3,h4⟩:=Q X;unfold BU;rw [aW h3,h4];rfl
theorem uF (C:Mem)(h:Tabs C)(e f:Value)(a:List Pt)(b:List Tri)(l:List Str)(g:MeshIn C e a b)(i:Good a b)(c:Sl C 1 f (l.map nN))(j:∀ s∈l,s.length<=999998) :
  Gives cx.P 67 [e,f] C (.int .i64 (BU a.length l)):=by
 have k:=g;obtain ⟨p,q,rfl,h1,h2⟩:=id g.ex;obtain ⟨m,n,rfl,r,t,_⟩:=id c;simp only [al] at c ⊢;exact UD func67 9 U3 fun w0=>Uz fun R d=>UQ U6 fun u=>C4 1 [1,2] d Z<|Uz fun R d=>UE af U9<|Uy U6<|UR [[.slice m l.length n]] U12 fun v _ _ o=>UI (xy _ h.m_ _ _ _ a b l k.m_ i o.m_ c.m_ j) U7<|C4 1 [4] d Z<|UC U2<|⟨Z,Z⟩
def fp (q:Rat):List Value:=[ai (qtx q)]
def fz (fs:List Rat)(t:Tri)(j:Nat):Rat:=fs.getD (mF t j) 0
def zf (pts:List Pt)(fs:List Rat)(t:Tri)(j:Nat):List Value:=gt (cor pts t j)++fp (fz fs t j)
theorem Hi (h:i<fs.length):fs[i]?=some (fs.getD i 0):=by
 rw [au,aj h];rfl
theorem yU (C:Mem)(r s:Value)(b:List Pt)(l:List Tri)(c:List Rat)(z:MeshIn C r b l)(A:MeshOk b l)(e:Sl C 1 s (c.map fp))(n:c.length=b.length)(i:Nat)(t:Tri)(o:l[i]?=some t) :
  Gives cx.P 298 [r,s,.int .i64 i] C (.agg ⟨zf b c t 0++zf b c t 1++zf b c t 2⟩):=by
 have d:=A.ins t (QQ o);obtain ⟨M,N,rfl,h1,h2⟩:=id z.ex;obtain ⟨O,Q,rfl,B,S,_⟩:=id h1;obtain ⟨A2,c2,rfl,D,T,_⟩:=id h2;obtain ⟨E,F,rfl,U,V,_⟩:=id e;have W:maxLen<=9223372036854775807:=by simp [maxLen]
 simp only [al] at h1 h2 e B D ⊢;have X:=(aD.1 o).1;refine UD func298 32 U3 fun w0=>?_;refine Uz fun R a=>?_;refine UQ U6 (fun H=>?_);refine UP U5 (fun u=>?_);refine UA [1,2,3,6] a Z ?_;refine G.freeze 1 Z (fun _ _ h=>?_);refine Uv 1 Z fun R a=>?_;refine Uw (PtrTo.block (Mem.get h mup) _) U8 ?_;refine Uy U6 ?_;refine UK h2.m_ U10 om_ (bY o) fl_ (fun Y I=>?_);refine Uw I U8 ?_;refine C4 1 [1,3,6,13,14] a Z ?_;refine G.loop (fun fr C' J K=>∃ (j:Nat),(j<=3)/\fr=[(1,[],.slice E c.length F),(3,[],.pointer (some ⟨H,0,none⟩)),(6,[],.pointer (some ⟨u,0,none⟩)),(13,[],.agg ⟨kC t⟩),(14,[],.int .i64 j)]/\J=[.obj u (.cells ⟨(List.range 3).flatMap fun k=>if k<j then zf b c t k else [ai [],ai [],ai []]⟩ 391 (0,0))]/\K=3-j) (hn_ [1,3,6,13,14] Z) ⟨0,QT _,Z,Z,Z⟩ (fun fr aa ab m p L=>?_);obtain ⟨j,hj,rfl,rfl,rfl⟩:=L;refine Uu 1 [1,3,6,13,14,15] Z ?_;refine Ux (fun q=>?_) fun q=>?_
 ·have v:j<3:=by
   simp only [QZ] at q;omega
  rcases (by omega:j=0∨j=1∨j=2) with rfl | rfl | rfl
  ·refine Uv 1 Z fun R a=>?_;refine Vz U11 ag U2 ?_;refine C4 2 [1,3,6,7,8,13,14] a Z ?_;refine US [0,1,2,3,4,5,6,7,8,9,10,11,12] [] Z kr_ (fun R w a=>?_);refine UB 2 Z ?_;refine Uw (PtrTo.block (Mem.get h mup) _) U8 ?_;refine Uy U6 ?_;refine UK h1.m_ U10 om_ (bY (pq (ff d 0))) fl_ (fun x f=>?_);refine Uw f U8 ?_;refine UB 2 Z ?_;refine UK e.m_ U10 om_ (bY (Hi (n ▸ ff d 0))) fl_ (fun y g=>?_);refine Uw g U8 ?_;refine UO (zf b c t 0) U8 ?_;refine UV (_) U9 ag U2 ?_;refine UG (j:=0) U12 ?_;refine UA [1,3,6,13,14] a Z ?_;refine Uz fun R a=>?_;refine UF _ U7 ?_;refine C4 1 [1,3,6,13,14] a Z ?_;refine UH (m':=2) om_ p (hn_ [1,3,6,13,14] Z) ⟨1,by decide,Z,Z,Z⟩
  ·refine Uv 1 Z fun R a=>?_;refine Vz U11 ag U2 ?_;refine C4 2 [1,3,6,7,8,13,14] a Z ?_;refine US [0,1,2,3,4,5,6,7,8,9,10,11,12] [] Z kr_ (fun R w a=>?_);refine UB 2 Z ?_;refine Uw (PtrTo.block (Mem.get h mup) _) U8 ?_;refine Uy U6 ?_;refine UK h1.m_ U10 om_ (bY (pq (ff d 1))) fl_ (fun x f=>?_);refine Uw f U8 ?_;refine UB 2 Z ?_;refine UK e.m_ U10 om_ (bY (Hi (n ▸ ff d 1))) fl_ (fun y g=>?_);refine Uw g U8 ?_;refine UO (zf b c t 1) U8 ?_;refine UV (_) U9 ag U2 ?_;refine UG (j:=0) U12 ?_;refine UA [1,3,6,13,14] a Z ?_;refine Uz fun R a=>?_;refine UF _ U7 ?_;refine C4 1 [1,3,6,13,14] a Z ?_;refine UH (m':=1) om_ p (hn_ [1,3,6,13,14] Z) ⟨2,by decide,Z,Z,Z⟩
  refine Uv 1 Z fun R a=>?_;refine Vz U11 ag U2 ?_;refine C4 2 [1,3,6,7,8,13,14] a Z ?_;refine US [0,1,2,3,4,5,6,7,8,9,10,11,12] [] Z kr_ (fun R w a=>?_);refine UB 2 Z ?_;refine Uw (PtrTo.block (Mem.get h mup) _) U8 ?_;refine Uy U6 ?_;refine UK h1.m_ U10 om_ (bY (pq (ff d 2))) fl_ (fun x f=>?_);refine Uw f U8 ?_;refine UB 2 Z ?_;refine UK e.m_ U10 om_ (bY (Hi (n ▸ ff d 2))) fl_ (fun y g=>?_);refine Uw g U8 ?_;refine UO (zf b c t 2) U8 ?_;refine UV (_) U9 ag U2 ?_;refine UG (j:=0) U12 ?_;refine UA [1,3,6,13,14] a Z ?_;refine Uz fun R a=>?_;refine UF _ U7 ?_;refine C4 1 [1,3,6,13,14] a Z ?_;refine UH (m':=0) om_ p (hn_ [1,3,6,13,14] Z) ⟨3,by decide,Z,Z,Z⟩
 have v:j=3:=by
  simp only [Ri] at q;omega
 subst v;refine Uz fun R a=>?_;refine UE af U9 ?_;refine UG (j:=0) U12 ?_;refine UA [6] a Z ?_;refine UJ (Vm af U4 ?_);exact ⟨Z,Z⟩
/-! Finer bounds. -/
theorem jr (c:QB k a)(d:QB m b):QB (k+m) (a*b):=by
 rw [gA];refine ic (Nat.mul_ne_zero a.den_nz b.den_nz) ?_ ?_
 ·rw [SB,TR];exact SS c.1 d.1
 rw [TR];exact SS c.2 d.2
theorem vj (c:QB k a)(d:QB m b):QB (k+m+1) (a+b):=by
 rw [jE];have e:B9 ^ (k+m+1)=B9 ^ k*B9 ^ m*B9:=by rw [R8,TR]
 have f:(a.num*b.den).natAbs<B9 ^ k*B9 ^ m:=by rw [SB,RE];exact SS c.1 d.2
 have g:(b.num*a.den).natAbs<B9 ^ k*B9 ^ m:=by rw [SB,RE,RF];exact SS c.2 d.1
 have h:a.den*b.den<B9 ^ k*B9 ^ m:=SS c.2 d.2;have i:2*(B9 ^ k*B9 ^ m)<=B9 ^ k*B9 ^ m*B9:=by
  rw [RF];exact Sk _ dc_
 refine ic (Nat.mul_ne_zero a.den_nz b.den_nz) ?_ ?_
 ·rw [e];have:=TD (a.num*b.den) (b.num*a.den);omega
 rw [e];omega
theorem fk (c:QB k a)(d:QB m b):QB (k+m+1) (a-b):=by
 rw [Uo];exact vj c (fe d)
theorem QB_one:QB 1 1:=⟨by decide,by decide⟩
theorem QB_zero:QB 1 0:=⟨by decide,by decide⟩
def eF (a b c d:Rat):Rat:=a*d-b*c
theorem qo (C:Mem)(e:Tabs C)(a b c d:Rat)(k:Nat)(f:0<k)(m:k<=2000)(g:QB k a)(h:QB k b)(i:QB k c)(j:QB k d):Gives cx.P 299 [ai (qtx a),ai (qtx b),ai (qtx c),ai (qtx d)] C (ai (qtx (eF a b c d))):=by
 exact UD func299 16 U3 fun w0=>Uu 1 [0,1,2,3] Z<|Uv 2 Z fun R l=>UM (dT _ e.m_ a d k f om_ g j) U7 fl_<|UB 2 Z<|UM (dT _ e.m_ b c k f om_ h i) U7 fl_<|UM (eg _ e.m_ (a*d) (b*c) (k+k) om_ om_ (qV g j) (qV h i)) U7 fl_<|C4 1 [8] l Z<|UC U2<|⟨Z,Z⟩
theorem jW {d:Rat}(e:QB k a)(f:QB k b)(g:QB k c)(h:QB k d):QB (4*k+1) (eF a b c d):=(fk (jr e h) (jr f g)).le om_
def oT (c0 c1 c2:Pt)(z0 z1 z2:Rat):Pt :=
 ((1 / eF (c1.1-c0.1) (c1.2-c0.2) (c2.1-c0.1) (c2.2-c0.2))*eF (z1-z0) (c1.2-c0.2) (z2-z0) (c2.2-c0.2),
 (1 / eF (c1.1-c0.1) (c1.2-c0.2) (c2.1-c0.1) (c2.2-c0.2))*eF (c1.1-c0.1) (z1-z0) (c2.1-c0.1) (z2-z0))
def dP (pts:List Pt)(fs:List Rat)(t:Tri):Pt:=oT (cor pts t 0) (cor pts t 1) (cor pts t 2) (fz fs t 0) (fz fs t 1) (fz fs t 2)
theorem NP (a:MeshOk pts tris)(b:fs.length=pts.length)(c:∀ q∈fs,QB k q)(d:t∈tris)(j:Nat):QB k (fz fs t j) :=
 c _ (QQ (Hi (b ▸ ff (a.ins t d) j)))
theorem vU (d:MeshOk pts tris)(g:fs.length=pts.length)(h:∀ q∈fs,QB k q)(e:t∈tris):QP (8*k+39) (dP pts fs t):=by
 have a:=fun j=>nE d e j;have f:=fun j=>NP d g h e j;have b:∀ i j,QB 3 ((cor pts t i).1-(cor pts t j).1):=fun i j=>(fk (a i).1 (a j).1).le dc_;have hy:∀ i j,QB 3 ((cor pts t i).2-(cor pts t j).2):=fun i j=>(fk (a i).2 (a j).2).le dc_;have c:∀ i j,QB (2*k+1) (fz fs t i-fz fs t j):=fun i j=>(fk (f i) (f j)).le om_;have hm:QB 13 (eF ((cor pts t 1).1-(cor pts t 0).1) ((cor pts t 1).2-(cor pts t 0).2) ((cor pts t 2).1-(cor pts t 0).1) ((cor pts t 2).2-(cor pts t 0).2)):=(jW (k:=3) (b 1 0) (hy 1 0) (b 2 0) (hy 2 0)).le dc_;have l:eF ((cor pts t 1).1-(cor pts t 0).1) ((cor pts t 1).2-(cor pts t 0).2) ((cor pts t 2).1-(cor pts t 0).1) ((cor pts t 2).2-(cor pts t 0).2)≠0:=jM d e;have h1:QB 26 _:=(js (k:=13) (QB_one.le dc_) hm l).le dc_;have m:QB (4*(2*k+3)+1) (eF (fz fs t 1-fz fs t 0) ((cor pts t 1).2-(cor pts t 0).2) (fz fs t 2-fz fs t 0) ((cor pts t 2).2-(cor pts t 0).2)):=jW (k:=2*k+3) ((c 1 0).le om_) ((hy 1 0).le om_) ((c 2 0).le om_) ((hy 2 0).le om_);have n:QB (4*(2*k+3)+1) (eF ((cor pts t 1).1-(cor pts t 0).1) (fz fs t 1-fz fs t 0) ((cor pts t 2).1-(cor pts t 0).1) (fz fs t 2-fz fs t 0)):=jW (k:=2*k+3) ((b 1 0).le om_) ((c 1 0).le om_) ((b 2 0).le om_) ((c 2 0).le om_);exact ⟨(jr h1 m).le om_,(jr h1 n).le om_⟩
theorem xf (C:Mem)(d:Tabs C)(r s:Value)(a:List Pt)(n:List Tri)(b:List Rat)(k:Nat)(u:0<k)(K:k<=100)(v:MeshIn C r a n)(o:MeshOk a n)(D:Sl C 1 s (b.map fp))(w:b.length=a.length)(E:∀ q∈b,QB k q)(i:Nat)(t:Tri)(x:n[i]?=some t) :
  Gives cx.P 276 [r,s,.int .i64 i] C (ptV (dP a b t)):=by
 have p:=QQ x;have F:=v;obtain ⟨L,M,rfl,h1,h2⟩:=id v.ex;have e:=fun j=>nE o p j;have m:=fun j=>NP o w E p j;have g:∀ i j,QB 3 ((cor a t i).1-(cor a t j).1):=fun i j=>(fk (e i).1 (e j).1).le dc_;have hy:∀ i j,QB 3 ((cor a t i).2-(cor a t j).2):=fun i j=>(fk (e i).2 (e j).2).le dc_;have l:∀ i j,QB (2*k+1) (fz b t i-fz b t j):=fun i j=>(fk (m i) (m j)).le om_;have y:QB 13 (eF ((cor a t 1).1-(cor a t 0).1) ((cor a t 1).2-(cor a t 0).2) ((cor a t 2).1-(cor a t 0).1) ((cor a t 2).2-(cor a t 0).2)):=(jW (k:=3) (g 1 0) (hy 1 0) (g 2 0) (hy 2 0)).le dc_;have z:eF ((cor a t 1).1-(cor a t 0).1) ((cor a t 1).2-(cor a t 0).2) ((cor a t 2).1-(cor a t 0).1) ((cor a t 2).2-(cor a t 0).2)≠0:=jM o p;have A:QB 26 (1 / eF ((cor a t 1).1-(cor a t 0).1) ((cor a t 1).2-(cor a t 0).2) ((cor a t 2).1-(cor a t 0).1) ((cor a t 2).2-(cor a t 0).2)):=(js (k:=13) (QB_one.le dc_) y z).le dc_;have H:QB (8*k+26) (eF (fz b t 1-fz b t 0) ((cor a t 1).2-(cor a t 0).2) (fz b t 2-fz b t 0) ((cor a t 2).2-(cor a t 0).2)):=(jW (k:=2*k+3) ((l 1 0).le om_) ((hy 1 0).le om_) ((l 2 0).le om_) ((hy 2 0).le om_)).le om_;have I:QB (8*k+26) (eF ((cor a t 1).1-(cor a t 0).1) (fz b t 1-fz b t 0) ((cor a t 2).1-(cor a t 0).1) (fz b t 2-fz b t 0)):=(jW (k:=2*k+3) ((g 1 0).le om_) ((l 1 0).le om_) ((g 2 0).le om_) ((l 2 0).le om_)).le om_;refine UD func276 98 U3 fun w0=>?_;refine Uz fun R c=>?_;refine UQ U6 (fun N=>?_);refine UP U5 (fun O=>?_);refine UA [1,2,3,6] c Z ?_;refine Uz fun R c=>?_;refine UE ae U9 ?_;refine UB 2 Z ?_;refine UI (yU _ _ _ a n b F.m_ o D.m_ w i t x) U7 ?_;refine UP U5 (fun Q=>?_);refine UG (j:=0) U12 ?_;refine UA [6,7] c Z ?_;refine G.freeze 0 Z (fun J _ f=>?_);refine US [0,1,2,3,4,5,6,7,8,9,10,11,12,13,14,15,16,17,18,19] [(8,1),(17,1)] Z kr_ (fun R B c=>?_);refine UV (3) U9 ag U2 ?_;refine UB 2 Z ?_;refine Uw (bkT f 1) U8 ?_;refine UV (0) U9 ag U2 ?_;refine UB 2 Z ?_;refine Uw (bkT f 1) U8 ?_;refine UT (fun _=>(eg _ d.m_ (cor a t 1).1 (cor a t 0).1 1 dc_ dc_ (e 1).1 (e 0).1)) U9 ?_;refine UV (3) U9 ag U2 ?_;refine UB 2 Z ?_;refine Uw (bkT f 1) U8 ?_;refine UV (0) U9 ag U2 ?_;refine UB 2 Z ?_;refine Uw (bkT f 1) U8 ?_;refine UT (fun _=>(eg _ d.m_ (cor a t 1).2 (cor a t 0).2 1 dc_ dc_ (e 1).2 (e 0).2)) U9 ?_;refine C4 2 [6,7,8,9] c Z ?_;refine US [0,1,2,3,4,5,6,7,8,9,10,11,12,13,14,15,16,17,18,19] [(8,1),(17,1)] Z kr_ (fun R B c=>?_);refine UV (6) U9 ag U2 ?_;refine UB 2 Z ?_;refine Uw (bkT f 1) U8 ?_;refine UV (0) U9 ag U2 ?_;refine UB 2 Z ?_;refine Uw (bkT f 1) U8 ?_;refine UT (fun _=>(eg _ d.m_ (cor a t 2).1 (cor a t 0).1 1 dc_ dc_ (e 2).1 (e 0).1)) U9 ?_;refine UV (6) U9 ag U2 ?_;refine UB 2 Z ?_;refine Uw (bkT f 1) U8 ?_;refine UV (0) U9 ag U2 ?_;refine UB 2 Z ?_;refine Uw (bkT f 1) U8 ?_;refine UT (fun _=>(eg _ d.m_ (cor a t 2).2 (cor a t 0).2 1 dc_ dc_ (e 2).2 (e 0).2)) U9 ?_;refine C4 2 [6,7,8,9,10,11] c Z ?_;refine US [0,1,2,3,4,5,6,7,8,9,10,11,12,13,14,15] [(6,1),(13,1)] Z kr_ (fun R B c=>?_);refine UV (3) U9 ag U2 ?_;refine Uy U6 ?_;refine Uw (bkT f 1) U8 ?_;refine UV (0) U9 ag U2 ?_;refine Uy U6 ?_;refine Uw (bkT f 1) U8 ?_;refine UT (fun _=>(eg _ d.m_ (fz b t 1) (fz b t 0) k u om_ (m 1) (m 0))) U9 ?_;refine UV (6) U9 ag U2 ?_;refine Uy U6 ?_;refine Uw (bkT f 1) U8 ?_;refine UV (0) U9 ag U2 ?_;refine Uy U6 ?_;refine Uw (bkT f 1) U8 ?_;refine UT (fun _=>(eg _ d.m_ (fz b t 2) (fz b t 0) k u om_ (m 2) (m 0))) U9 ?_;refine C4 2 [6,8,9,10,11,12,13] c Z ?_;refine Uu 1 [6,8,9,10,11,12,13,14] Z ?_;refine Uv 5 Z fun R c=>?_;refine UM (qo _ d.m_ _ _ _ _ 3 dc_ dc_ (g 1 0) (hy 1 0) (g 2 0) (hy 2 0)) U7 fl_ ?_;refine UM (by have h:=gW J d.m_ 1 _ 13 dc_ dc_ (QB_one.le dc_) y z;rw [dA] at h;exact h) U7 fl_ ?_;refine C4 5 [6,8,9,10,11,12,13,14,15] c Z ?_;refine Uv 6 Z fun R c=>?_;refine UM (qo _ d.m_ (fz b t 1-fz b t 0) ((cor a t 1).2-(cor a t 0).2) (fz b t 2-fz b t 0) ((cor a t 2).2-(cor a t 0).2) (2*k+3) om_ om_ ((l 1 0).le om_) ((hy 1 0).le om_) ((l 2 0).le om_) ((hy 2 0).le om_)) U7 fl_ ?_;refine UM (dT _ d.m_ _ _ (8*k+26) om_ om_ (A.le om_) H) U7 fl_ ?_;refine UB 6 Z ?_;refine UM (qo _ d.m_ ((cor a t 1).1-(cor a t 0).1) (fz b t 1-fz b t 0) ((cor a t 2).1-(cor a t 0).1) (fz b t 2-fz b t 0) (2*k+3) om_ om_ ((g 1 0).le om_) ((l 1 0).le om_) ((g 2 0).le om_) ((l 2 0).le om_)) U7 fl_ ?_;refine UM (dT _ d.m_ _ _ (8*k+26) om_ om_ (A.le om_) I) U7 fl_ ?_;refine UO (gt (dP a b t)) U8 ?_;refine UG (j:=0) U12 ?_;refine UA [6] c Z ?_;refine UJ (Vm af U4 ?_);exact ⟨Z,Z⟩
def Ir (l:List Rat):Rat:=l.foldl (·+·) 0
theorem E6 (l:List Rat)(q:Rat):Ir (l++[q])=Ir l+q:=by unfold Ir;rw [List.foldl_append];rfl
theorem MS (C:Mem)(g:Tabs C)(v:Value)(l:List Rat)(k:Nat)(h:0<k)(j:k<=10000)(b:Sl C 1 v (l.map fp))(n:∀ q∈l,QB k q)(o:∀ i,QB k (Ir (l.take i))) :
  Gives cx.P 312 [v] C (ai (qtx (Ir l))):=by
 obtain ⟨p,c0,rfl,r,z,_⟩:=id b;have A:maxLen<=9223372036854775807:=by simp [maxLen]
 simp only [al] at b r ⊢;refine UD func312 17 U3 fun w0=>Uu 1 [0] Z<|Uu 1 [0,3] Z<|Uu 3 [3,6,7,8] Z<|G.loop (fun fr C' t u=>∃ (i:Nat)(s:Str),(i<=l.length/\s=qtx (Ir (l.take i)))/\fr=[(3,[],ai s),(6,[],.slice p l.length c0),(7,[],.int .i64 l.length),(8,[],.int .i64 i)]/\t=[]/\u=l.length-i) (hn_ [3,6,7,8] Z) ⟨0,[48],⟨QT _,qtx_zero.symm⟩,Z,Z,Z⟩ (fun fr B D m w x=>?_);obtain ⟨i,s,⟨E,f⟩,rfl,rfl,rfl⟩:=x;refine Uu 1 [3,6,7,8,9] Z<|Ux (fun c=>?_) fun c=>?_
 ·have d:i<l.length:=by simpa using c
  obtain ⟨q,e⟩:∃ q,l[i]?=some q:=⟨l[i],aj d⟩;subst f;refine Uz fun R a=>UK b.m_ U10 om_ (bY e) fl_ fun F y=>Uw y U8<|C4 1 [3,5,6,7,8] a Z<|Uv 2 Z fun R a=>UI (mR _ g.m_ (Ir (l.take i)) q k h j (o i) (n q (QQ e))) U7<|C4 1 [3,6,7,8] a Z<|Uz fun R a=>UF _ U7<|C4 1 [3,6,7,8] a Z<|UH (m':=l.length-(i+1)) om_ w (hn_ [3,6,7,8] Z) ⟨i+1,_,⟨by omega,by rw [Rm,e,R6,E6]⟩,Z,Z,Z⟩
 have d:i=l.length:=by
  have:¬ i<l.length:=by simpa using c
  omega
 exact Uu 2 [2] Z<|UC U2<|⟨by rw [f,d,Q2],Z⟩
def DC (q:Rat):Value:=if bg (qtx q) then .tuple #[ai (qtx q),.int .i64 0] else .tuple #[ai [],.int .i64 4]
theorem Hk (C:Mem)(b:Tabs C)(q:Rat)(c:(qtx q).length<=999998):Gives cx.P 296 [ai (qtx q)] C (DC q):=by
 refine UD func296 8 U3 fun w0=>Uu 2 [0] Z<|Uv 1 Z fun R d=>UI (dX _ b.m_ _ c) U7<|C4 1 [0,6] d Z<|Ux (fun a=>?_) fun a=>?_
 ·have e:bg (qtx q)=false:=by
   rcases gN (bg (qtx q)) with ⟨h1,h2⟩ | ⟨h1,h2⟩
   ·rw [h1] at a;exact absurd a dc_
   exact h2
  refine Uu 2 [2,3] Z<|UJ (G.dropAll (UX U3 ?_));exact ⟨by unfold DC;rw [e];rfl,Z⟩
 have f:bg (qtx q)=true:=by
  rcases gN (bg (qtx q)) with ⟨h1,h2⟩ | ⟨h1,h2⟩
  ·exact h2
  rw [h1] at a;exact absurd a dc_
 refine Uu 3 [2,3] Z<|UJ (G.dropAll (UX U3 ?_));exact ⟨by unfold DC;rw [f];rfl,Z⟩
def onQ (pts:List Pt)(fs:List Rat)(t:Tri)(p:Pt):Rat:=Ir [fz fs t 0,(dP pts fs t).1*(p.1-(cor pts t 0).1),(dP pts fs t).2*(p.2-(cor pts t 0).2)]
theorem LU (n:k<=23)(a:MeshOk pts tris)(c:fs.length=pts.length)(d:∀ q∈fs,QB k q)(b:t∈tris)(e:QP 23 p):QB 600 (onQ pts fs t p)/\(∀ i,QB 600 (Ir ([fz fs t 0,(dP pts fs t).1*(p.1-(cor pts t 0).1),(dP pts fs t).2*(p.2-(cor pts t 0).2)].take i)))/\QB 600 (fz fs t 0)/\QB 600 ((dP pts fs t).1*(p.1-(cor pts t 0).1))/\QB 600 ((dP pts fs t).2*(p.2-(cor pts t 0).2)):=by
 have hs:=vU a c d b;have f:=nE a b 0;have g:=NP a c d b 0;have h1:QB 248 ((dP pts fs t).1*(p.1-(cor pts t 0).1)):=(jr hs.1 (fk e.1 f.1)).le om_;have h2:QB 248 ((dP pts fs t).2*(p.2-(cor pts t 0).2)):=(jr hs.2 (fk e.2 f.2)).le om_;have h:QB 25 (0+fz fs t 0):=(vj QB_zero g).le om_;have j:QB 274 (0+fz fs t 0+(dP pts fs t).1*(p.1-(cor pts t 0).1)):=(vj h h1).le om_;have l:QB 523 (0+fz fs t 0+(dP pts fs t).1*(p.1-(cor pts t 0).1)+(dP pts fs t).2*(p.2-(cor pts t 0).2)):=(vj j h2).le om_;refine ⟨l.le dc_,fun i=>?_,g.le om_,h1.le dc_,h2.le dc_⟩;rcases (by omega:i=0∨i=1∨i=2∨3<=i) with rfl | rfl | rfl | m
 ·exact QB_zero.le dc_
 ·exact h.le dc_
 ·exact j.le dc_
 rw [Re (by simpa using m)];exact l.le dc_
theorem MB (e:QB k a)(f:QB k b)(g:QB k c):∀ q∈[a,b,c],QB k q:=by
 intro q d;simp only [Q3,RU,Tk] at d;rcases d with rfl | rfl | rfl <;> assumption
theorem Qs (C:Mem)(d:Tabs C)(u v:Value)(a:List Pt)(g:List Tri)(c:List Rat)(k:Nat)(E:0<k)(F:k<=23)(w:MeshIn C u a g)(e:MeshOk a g)(h:Sl C 1 v (c.map fp))(l:c.length=a.length)(r:∀ q∈c,QB k q)(i:Nat)(t:Tri)(m:g[i]?=some t)(p:Pt)(f:QP 23 p) :
  Gives cx.P 297 [u,v,.int .i64 i,ptV p] C (ai (qtx (onQ a c t p))):=by
 have n:=QQ m;have x:=e.ins t n;have y:=w;have z:=h;obtain ⟨X,Y,rfl,h1,h2⟩:=id w.ex;obtain ⟨A1,c1,rfl,H,aa,_⟩:=id h1;obtain ⟨A2,c2,rfl,I,ab,_⟩:=id h2;obtain ⟨A4,c4,rfl,ac,ad,_⟩:=id h;have ae:maxLen<=9223372036854775807:=by simp [maxLen]
 simp only [al] at h1 h2 h z y H I ⊢;have af:=(aD.1 m).1;have o:=nE e n 0;obtain ⟨ag,J,K,L,M⟩:=LU F e l r n f;have hs:=vU e l r n;have N:QB 25 (p.1-(cor a t 0).1):=(fk f.1 o.1).le dc_;have O:QB 25 (p.2-(cor a t 0).2):=(fk f.2 o.2).le dc_;refine UD func297 49 U3 fun w0=>Uz fun R b=>UQ U6 fun b4=>UQ U6 fun b7=>C4 1 [1,2,4,7] b Z<|G.freeze 1 Z fun _ _ s=>Uz fun R b=>Uw (PtrTo.block (Mem.get s mup) _) U8<|UB 2 Z<|UM (xf _ d.m_ _ _ a g c k E om_ y.m_ e z.m_ l r i t m) U7 fl_<|UP U5 fun b9=>UG (j:=0) U12<|UA [1,2,4,7,9] b Z<|Uv 1 Z fun R b=>Uw (PtrTo.block (Mem.get s mup) _) U8<|Uy U6<|UK h2.m_ U10 om_ (bY m) fl_ fun ah Q=>V5 U9 (fun _=>Q) (fun _=>⟨by omega,om_⟩) fl_ Z (fun aj S=>?_);have T:=S trivial;exact Uw T U8<|C4 1 [1,4,7,9,10] b Z<|Uv 1 Z fun R b=>Uw (PtrTo.block (Mem.get s mup) _) U8<|Uy U6<|UK h1.m_ U10 om_ (bY (pq x.1)) fl_ fun ak U=>Uw U U8<|UP U5 fun am=>UG (j:=0) U12<|UA [1,7,9,10,11] b Z<|G.freeze 0 Z fun _ _ A=>G.freeze 0 Z fun _ _ B=>G.freeze 0 Z fun _ _ D=>US [0,1,2,3,4,5,6,7,8,9,10,11,12,13,14,15,16,17,18,19,20,21,22] [(10,1),(11,1),(18,1),(19,1),(21,1)] Z kr_ fun R hB b=>UB 2 Z<|UK h.m_ U10 om_ (bY (Hi (l ▸ x.1))) fl_ fun an V=>Uw V U8<|Uy U6<|Uw (bkT B 1) U8<|Uy U6<|Uw (bkT D 1) U8<|Uy U6<|Uw (bkT A 1) U8<|UT (fun _=>(eg _ d.m_ p.1 (cor a t 0).1 23 dc_ dc_ f.1 (o.1.le dc_))) U9<|UT (fun _=>(dT _ d.m_ _ _ 300 dc_ dc_ (hs.1.le om_) (N.le dc_))) U9<|Uy U6<|Uw (bkT B 1) U8<|Uy U6<|Uw (bkT D 1) U8<|Uy U6<|Uw (bkT A 1) U8<|UT (fun _=>(eg _ d.m_ p.2 (cor a t 0).2 23 dc_ dc_ f.2 (o.2.le dc_))) U9<|UT (fun _=>(dT _ d.m_ _ _ 300 dc_ dc_ (hs.2.le om_) (O.le dc_))) U9<|UR ([fz c t 0,(dP a c t).1*(p.1-(cor a t 0).1),(dP a c t).2*(p.2-(cor a t 0).2)].map fp) U12 fun ao _ _ W=>UT (fun _=>(MS _ d.m_ _ _ 600 dc_ dc_ W.m_ (MB K L M) J)) U9<|C4 1 [8] b Z<|UC U2<|⟨Z,Z⟩
def EQ (pts:List Pt)(tris:List Tri)(fs:List Rat)(p:Pt):Value:=match lO pts tris p with
 | []=>.tuple #[ai [],.int .i64 28]
 | i::_=>DC (onQ pts fs (tris.getD i (0,0,0)) p)
theorem xK (h:∀ q∈fs,bg (qtx q)=true):(fs.map qtx).all bg=true:=by
 rw [Q4];intro s hs;obtain ⟨q,a,rfl⟩:=QX.1 hs;exact h q a
theorem yW (a:List Rat):a.map fp=(a.map qtx).map nN:=by rw [RG];rfl
theorem wt (b:k<=100)(h:∀ q∈fs,QB k q):∀ s∈fs.map qtx,s.length<=999998:=by
 intro s hs;obtain ⟨q,a,rfl⟩:=QX.1 hs;have:=bJ ((h q a).le (Tl k)) om_;omega
theorem xx (C:Mem)(i:Tabs C)(c v d:Value)(b:List Pt)(f:List Tri)(a:List Rat)(j:MeshIn C c b f)(l:Good b f)(m:Sl C 1 v [[d]])(g:Sl C 1 d (a.map fp))(n:a.length=b.length)(r:k<=23)(o:∀ q∈a,QB k q)(p:∀ q∈a,bg (qtx q)=true) :
  Gives cx.P 103 [c,v] C (.int .i64 0):=by
 rw [yW] at g;have h:=xy C i c v d b f (a.map qtx) j l m g (wt om_ o);have e:BU b.length (a.map qtx)=0:=by unfold BU;rw [aW (by simpa using n),xK p];rfl
 rwa [e] at h
theorem Pu (h:i∈lO pts tris p):∃ t,tris[i]?=some t/\tris.getD i (0,0,0)=t/\yI pts p t=true:=by
 unfold lO at h;rw [SV,Q9] at h;obtain ⟨h1,h2⟩:=h;obtain ⟨t,a⟩:∃ t,tris[i]?=some t:=⟨tris[i],aj h1⟩;have b:tris.getD i (0,0,0)=t:=by rw [au,a,R9]
 rw [b] at h2;exact ⟨t,a,b,h2⟩
theorem Pk (h:QB 600 q):(qtx q).length<=999998:=Rb (bJ h dc_) dc_
theorem IJ (C:Mem)(e:Tabs C)(x y:Value)(a:List Pt)(c:List Tri)(b:List Rat)(k:Nat)(I:0<k)(j:k<=23)(z:MeshIn C x a c)(l:Good a c)(f:Sl C 1 y (b.map fp))(m:b.length=a.length)(n:∀ q∈b,QB k q)(J:∀ q∈b,bg (qtx q)=true)(p:Pt)(o:QP 23 p)(K:PtR p) :
  Gives cx.P 275 [x,y,ptV p] C (EQ a c b p):=by
 have A:=l.ok;have s:=z;obtain ⟨X,Y,rfl,h1,h2⟩:=id z.ex;obtain ⟨L,M,rfl,aa,ab,_⟩:=id f;simp only [al] at f ⊢;have ac:maxLen<=9223372036854775807:=by simp [maxLen]
 refine UD func275 40 U3 fun w0=>Uz fun R d=>UQ U6 fun b3=>UQ U6 fun b5=>C4 2 [1,3,5] d Z<|G.freeze 1 Z fun _ _ u=>G.freeze 0 Z fun _ _ B=>Uz fun R d=>Uw (PtrTo.block (Mem.get u mup) _) U8<|Uy U6<|UR [[.slice L b.length M]] U12 fun ad _ _ N=>UI (xx _ e.m_ _ _ _ a c b s.m_ l N.m_ f.m_ m j n J) U7<|C4 1 [1,3,5,8] d Z<|Uu 2 [1,3,5,8,16] Z<|Ux (fun D=>?_) fun D=>?_
 ·exact absurd D dc_
 refine Uz fun R d=>Uw (PtrTo.block (Mem.get u mup) _) U8<|Uw (PtrTo.block (Mem.get B mup) _) U8<|Ve (pS _ e.m_ _ a c p s.m_ l o K) U7 (fun ae _ _ O=>?_);obtain ⟨wv,rfl,v⟩:=O;obtain ⟨Aw,cw,E,_⟩:=id v;rw [al] at E;subst E;refine C4 5 [1,3,5,9,10] d Z<|Uu 2 [1,3,5,9,10,25] Z<|Ux (fun F=>?_) fun F=>?_
 ·exact absurd F dc_
 refine Uu 3 [1,3,5,9,29] Z<|Ux (fun g=>?_) fun g=>?_
 ·have Q:lO a c p=[]:=by
   have h:(((lO a c p).length:Nat):Int)=0:=by simpa using g
   exact RB om_
  refine Uu 2 [6,7] Z<|UJ (G.dropAll (UX U3 ?_));exact ⟨by unfold EQ;rw [Q];rfl,Z⟩
 obtain ⟨i,r,w⟩:∃ i r,lO a c p=i::r:=by
  cases S:lO a c p with
  | nil=>rw [S] at g;exact absurd g dc_
  | cons i r=>exact ⟨i,r,rfl⟩
 obtain ⟨t,H,T,_⟩:=Pu (pts:=a) (tris:=c) (p:=p) (i:=i) (by rw [w];simp);have U:=LU j A m n (QQ H) o;have V:EQ a c b p=DC (onQ a b t p):=by unfold EQ;rw [w];show DC (onQ a b (c.getD i (0,0,0)) p)=_;rw [T]
 rw [w] at v ⊢;refine US [0,1,2,3,4,5,6,7,8,9,10,11] [(6,1),(7,1)] Z kr_ fun R hB d=>Uw (PtrTo.block (Mem.get u mup) _) U8<|UB 2 Z<|UK v.m_ U10 om_ (rfl:(List.map aM (i::r))[0]?=some (aM i)) fl_ fun af W=>Uw W U8<|Uw (PtrTo.block (Mem.get B mup) _) U8<|Vb (fun _=>(Qs _ e.m_ _ _ a c b k I j s.m_ A f.m_ m n i t H p o)) U9<|Vb (fun _=>(Hk _ e.m_ _ (Pk U.1))) U9 ?_;rw [show DC (onQ a b t p)=.tuple #[if bg (qtx (onQ a b t p)) then ai (qtx (onQ a b t p)) else ai [],.int .i64 (if bg (qtx (onQ a b t p)) then 0 else 4)] by unfold DC;split <;> rfl];refine C4 4 [6,7] d Z<|UJ (G.dropAll (UX U3 ?_));refine ⟨?_,Z⟩;rw [V];unfold DC;split <;> rfl
theorem Pc (h:QP 22 p):PtR p:=⟨bO h.1,bO h.2⟩
theorem tN (C:Mem)(f:Tabs C)(l m:Value)(c:List Pt)(d:List Tri)(b:List Rat)(k:Nat)(z:0<k)(A:k<=23)(n:MeshIn C l c d)(o:Good c d)(e:Sl C 1 m (b.map fp))(p:b.length=c.length)(r:∀ q∈b,QB k q)(B:∀ q∈b,bg (qtx q)=true)(i:Nat)(t:Tri)(s:d[i]?=some t)(u:QP 22 (dP c b t)) :
  Gives cx.P 244 [l,m,.int .i64 i] C (.tuple #[ptV (dP c b t),.int .i64 0]):=by
 have D:=o.ok;have g:=n;have I:=(aD.1 s).1;obtain ⟨J,K,rfl,h1,h2⟩:=id n.ex;obtain ⟨A2,c2,rfl,L,M,_⟩:=id h2;obtain ⟨E,F,rfl,N,O,_⟩:=id e;simp only [al] at e h2 g ⊢;have Q:maxLen<=9223372036854775807:=by simp [maxLen]
 refine UD func244 37 U3 fun w0=>Uz fun R a=>UQ U6 fun S=>UP U5 fun T=>C4 1 [1,2,3,6] a Z<|G.freeze 1 Z fun _ _ h=>Uz fun R a=>Uw (PtrTo.block (Mem.get h mup) _) U8<|Uy U6<|UR [[.slice E b.length F]] U12 fun U _ _ H=>UI (xx _ f.m_ _ _ _ c d b g.m_ o H.m_ e.m_ p A r B) U7<|C4 1 [1,2,3,6,8] a Z<|Uu 2 [1,2,3,6,8,15] Z<|Ux (fun v=>?_) fun v=>?_
 ·exact absurd v dc_
 refine Uv 5 Z fun R a=>UY U6 (fun _=>PtrTo.block (Mem.get h mup) _) U3<|UB 2 Z<|U1 U8<|UA [1,2,3,6,26] a Z<|Ux (fun w=>?_) fun w=>?_
 ·exfalso;simp only [Sm,QZ] at w;omega
 refine Uz fun R a=>Uw (PtrTo.block (Mem.get h mup) _) U8<|UB 2 Z<|UM (xf _ f.m_ _ _ c d b k z om_ g.m_ D e.m_ p r i t s) U7 fl_<|UP U5 fun V=>UG (j:=0) U12<|UA [6,9] a Z<|G.freeze 0 Z fun _ _ x=>Uz fun R a=>Uw (PtrTo.block (Mem.get x mup) _) U8<|UM (iy _ f.m_ _ (u.le dc_) (Pc u)) U7 fl_<|C4 1 [6,9,34] a Z<|Ux (fun y=>?_) fun y=>?_
 ·exact absurd y dc_
 refine Uz fun R a=>Uw (PtrTo.block (Mem.get x mup) _) U8<|UG (j:=0) U12<|C4 1 [6,7] a Z<|UJ (VF af U5 ?_);exact ⟨Z,Z⟩
def kf {α:Type}(p:α->Bool):List α->Nat->Int
 | [],_=>-1
 | x::l,k=>if p x then (k:Nat) else kf p l (k+1)
theorem od {a:Type}{p:a->Bool}:∀ {l:List a}{i k:Nat}{x:a},l[i]?=some x->p x=true->(∀ y∈l.take i,p y=false)->kf p l k=((k+i:Nat):Int)
 | y::l,0,k,x,h,b,_=>by
  simp only [List.getElem?_cons_zero,Rt] at h;subst h;simp [kf,b]
 | y::l,i+1,k,x,h,b,c=>by
  simp only [SF] at h;have hy:p y=false:=c y am;have:=od (k:=k+1) h b (fun z d=>c z (by simp [d]));simp only [kf,hy,RH,R7,this];omega
theorem lV {a:Type}{p:a->Bool}:∀ {l:List a}{k:Nat},(∀ y∈l,p y=false)->kf p l k=-1
 | [],_,_=>rfl
 | y::l,k,h=>by
  simp only [kf,h y Qb,RH,R7];exact lV fun z b=>h z (Q0 _ b)
theorem mY (p:α->Bool)(l:List α):(kf p l 0=-1/\∀ y∈l,p y=false)∨∃ (i:Nat)(x:α),kf p l 0=(i:Nat)/\l[i]?=some x/\p x=true/\∀ y∈l.take i,p y=false:=by
 by_cases h:∀ y∈l,p y=false
 ·exact .inl ⟨lV h,h⟩
 right;have d:∀ (l:List α),(¬ ∀ y∈l,p y=false)->∃ (i:Nat)(x:α),l[i]?=some x/\p x=true/\∀ y∈l.take i,p y=false:=by
  intro l;induction l with
  | nil=>intro h;exact absurd (fun y hy=>(by cases hy)) h
  | cons a l e =>
   intro h;by_cases b:p a=true
   ·exact ⟨0,a,Z,b,by simp⟩
   have c:p a=false:=by simpa using b
   obtain ⟨i,x,h1,h2,h3⟩:=e (fun h2=>h (fun y hy=>by
    rcases Q3.1 hy with rfl | hy
    ·exact c
    exact h2 y hy))
   refine ⟨i+1,x,by simpa using h1,h2,fun y hy=>?_⟩;rw [List.take_succ_cons] at hy;rcases Q3.1 hy with rfl | hy
   ·exact c
   exact h3 y hy
 obtain ⟨i,x,h1,h2,h3⟩:=d l h;exact ⟨i,x,by rw [od h1 h2 h3,Sd],h1,h2,h3⟩
structure Lay where
 unit:Str
 min:Rat
 max:Option Rat
def vy:Option Rat->Str
 | none=>[]
 | some q=>qtx q
def yX (x:Lay):List Value:=[ai x.unit,ai (qtx x.min),ai (vy x.max)]
def isU (u:Str)(x:Lay):Bool:=decide (x.unit=u)
def Oz (x:Lay):Prop:=QB 22 x.min/\(∀ q,x.max=some q->QB 22 q)/\x.unit.length<=999998
theorem pH (m:Option Rat):(!((⟨(vy m).toArray⟩:ByteArray).data.toList == (⟨#[]⟩:ByteArray).data.toList))=m.isSome:=by
 cases m with
 | none=>rfl
 | some q =>
  have:=FP q;show (!(qtx q == []))=true;cases h:qtx q with
  | nil=>rw [h] at this;simp at this
  | cons a l=>rfl
theorem lU (C:Mem)(v:Value)(l:List Lay)(g:Nat)(d:List Value)(a:Lay->Bool)(e:Sl C 3 v (l.map yX))(_A:Jog.Enters cx.P g=true)
  (n:∀ x∈l,∀ D:Mem,C.le D->Gives cx.P g (.agg ⟨yX x⟩::d) D (.bool (a x))) :
  Gives cx.P 159 [v,.func (.func g) #[] ⟨d⟩] C (.int .i64 (kf a l 0)):=by
 obtain ⟨o,c0,rfl,p,B,_⟩:=id e;have E:maxLen<=9223372036854775807:=by simp [maxLen]
 simp only [al] at e p ⊢;refine UD func159 19 U3 fun w0=>Uu 1 [0,1] Z<|Uu 3 [0,1,7,8] Z<|G.loop (fun fr C' q r=>∃ (i:Nat),(i<=l.length/\∀ y∈l.take i,a y=false)/\fr=[(0,[],.slice o l.length c0),(1,[],.func (.func g) #[] ⟨d⟩),(7,[],.int .i64 l.length),(8,[],.int .i64 i)]/\q=[]/\r=l.length-i) (hn_ [0,1,7,8] Z) ⟨0,⟨QT _,by simp⟩,Z,Z,Z⟩ (fun fr F H m s t=>?_);obtain ⟨i,⟨I,b⟩,rfl,rfl,rfl⟩:=t;refine Uu 1 [0,1,7,8,9] Z<|Ux (fun f=>?_) fun f=>?_
 ·have h:i<l.length:=by simpa using f
  obtain ⟨x,c⟩:∃ x,l[i]?=some x:=⟨l[i],aj h⟩;refine Uu 2 [0,1,5,7,8] Z<|Uv 3 Z fun R j=>UK e.m_ U10 om_ (bY c) fl_ fun J u=>Uw u U8<|UI (n x (QQ c) _ mup) U7<|UA [0,1,5,7,8,16] j Z<|Ux (fun k=>?_) fun k=>?_
  ·have w:a x=true:=k;exact Uu 2 [4] Z<|UC U2<|⟨by rw [od c w b,Sd],Z⟩
  have z:a x=false:=k;refine Uz fun R j=>UF _ U7<|C4 1 [0,1,7,8] j Z<|UH (m':=l.length-(i+1)) om_ s (hn_ [0,1,7,8] Z) ⟨i+1,⟨by omega,fun y hy=>by
   rw [Rm,c] at hy;rcases Q6.1 hy with hy | hy
   ·exact b y hy
   simp only [R6,Rc] at hy;subst hy;exact z⟩,Z,Z,Z⟩
 have h:i=l.length:=by
  have:¬ i<l.length:=by simpa using f
  omega
 exact Uu 1 [4] Z<|UC U2<|⟨by rw [h,Q2] at b;rw [lV b],Z⟩
theorem IX (a b:Str):((⟨a.toArray⟩:ByteArray).data.toList == (⟨b.toArray⟩:ByteArray).data.toList)=decide (a=b):=by
 show (a == b)=_;by_cases h:a=b <;> simp [h]
theorem HN (C:Mem)(b:Nat)(u:Str)(x:Lay)(c:C b=some (.cells ⟨[ai u]⟩ 9 (0,0))):Gives cx.P 160 [.agg ⟨yX x⟩,.pointer (some ⟨b,0,none⟩)] C (.bool (isU u x)):=by
 exact UD func160 8 U3 fun w0=>Uz fun R a=>UQ U6 fun d=>C4 1 [1,2] a Z<|Uv 1 Z fun R a=>UE af U9<|Uw (PtrTo.block (Mem.get c mup) _) U8<|C4 2 [3] a Z<|UC U2<|⟨by unfold isU;rw [<- IX],Z⟩
theorem zr (C:Mem)(b:Nat)(u:Str)(x:Lay)(c:C b=some (.cells ⟨[ai u]⟩ 9 (0,0))):Gives cx.P 163 [.agg ⟨yX x⟩,.pointer (some ⟨b,0,none⟩)] C (.bool (isU u x)):=by
 exact UD func163 8 U3 fun w0=>Uz fun R a=>UQ U6 fun d=>C4 1 [1,2] a Z<|Uv 1 Z fun R a=>UE af U9<|Uw (PtrTo.block (Mem.get c mup) _) U8<|C4 2 [3] a Z<|UC U2<|⟨by unfold isU;rw [<- IX],Z⟩
theorem Ci (C:Mem)(v:Value)(l:List Lay)(u:Str)(c:Sl C 3 v (l.map yX)):Gives cx.P 106 [v,ai u] C (.int .i64 (kf (isU u) l 0)):=by
 exact UD func106 8 U3 fun w0=>Uz fun R a=>UQ U6 fun b=>C4 1 [0,3] a Z<|G.freeze 0 Z fun _ _ d=>Uv 2 Z fun R a=>UI (lU _ _ l 160 [.pointer (some ⟨b,0,none⟩)] (isU u) c.m_ Z (fun x _ D e=>HN D b u x (e _ _ (Mem.get d mup)))) U7<|C4 1 [4] a Z<|UC U2<|⟨Z,Z⟩
theorem jV (C:Mem)(v:Value)(l:List Lay)(u:Str)(c:Sl C 3 v (l.map yX)):Gives cx.P 109 [v,ai u] C (.int .i64 (kf (isU u) l 0)):=by
 exact UD func109 8 U3 fun w0=>Uz fun R a=>UQ U6 fun b=>C4 1 [0,3] a Z<|G.freeze 0 Z fun _ _ d=>Uv 2 Z fun R a=>UI (lU _ _ l 163 [.pointer (some ⟨b,0,none⟩)] (isU u) c.m_ Z (fun x _ D e=>zr D b u x (e _ _ (Mem.get d mup)))) U7<|C4 1 [4] a Z<|UC U2<|⟨Z,Z⟩
theorem tW (h:QB 22 q):(qtx q).length<=999998:=Rb (bJ h dc_) dc_
theorem Do (h:QB 22 q):(qtx q).length<=1000000:=Rb (bJ h dc_) dc_
theorem Kc (C:Mem)(d:Tabs C)(x:Lay)(e:Oz x):Gives cx.P 104 [.agg ⟨yX x⟩] C (.int .i64 0):=by
 obtain ⟨u,f,c⟩:=x;obtain ⟨h1,h2,h3⟩:=e;simp only at h1 h2 h3;clear h3;have g:(vy c).length<=999998:=by
  cases c with
  | none=>decide
  | some q=>exact tW (h2 q rfl)
 refine UD func104 17 U3 fun w0=>Uz fun R a=>UQ U6 fun h=>C4 1 [1] a Z<|Uv 1 Z fun R a=>UE af U9<|UI (dX _ d.m_ (qtx f) (tW h1)) U7<|C4 2 [1,3] a Z<|Ux (fun h3=>?_) fun h3=>?_
 ·exfalso;rw [xw h1] at h3;exact absurd h3 dc_
 refine Uv 1 Z fun R a=>UE af U9<|UB 3 Z<|UE af U9<|Vb (fun _=>(dX _ d.m_ (vy c) g)) U9<|Uy U6<|UU U8<|C4 1 [3] a Z<|Ux (fun b=>?_) fun b=>?_
 ·exfalso;simp only [] at b;cases c with
  | none=>exact absurd b dc_
  | some q =>
   rw [show vy (some q)=qtx q from rfl,xw (h2 q rfl)] at b;simp at b
 exact Uu 1 [2] Z<|UC U2<|⟨Z,Z⟩
end Go.Proofs.YthnpijdjlddpmaaGreatDoor
