/- Laws that the proofs of this seat share, part 8. -/
import Derived.Test.YthnpijdjlddpmaaGreatDoorG7
import Derived.Test.YthnpijdjlddpmaaGreatDoorShelf
set_option maxHeartbeats 4000000
namespace Go.Proofs.YthnpijdjlddpmaaGreatDoor
open Go.Proofs.Tryz
open Go Go.Jog
set_option maxRecDepth 100000
variable {C:Mem}{a b c:Rat}{cyc:List Nat}{fs:List Rat}{i k:Nat}{l:List Pt}{m n:Nat}{p:Pt}{pts:List Pt}{q:Rat}{t:Tri}{tris:List Tri}{α:Type}
theorem Ju {m:N6}{s:iH}:(dp m (s.2,s.1)).isSome=!kh (m.map (·.1)) s:=by
 unfold kh Ol;rw [Bool.not_not];cases h:dp m (s.2,s.1) with
 | none=>rw [cH] at h;simp [h]
 | some v =>
  have:=SF (f:=(·.1)) (fZ h);simp only [Option.isSome_some];exact (QD this).symm
theorem Jq (C:Mem)(v1 v2:Value)(b:Nat)(m:N6)(o:C b=some (aQ qi m))(hn:(m.map (·.1)).Nodup)(Q:∀ s∈m.map (·.1),0<=s.1)(aF:m.length<=1000000) :
  Pur cx.P 154 [.agg ⟨[v1,v2]⟩,.map (some b)] C fun u D=>∃ v,u=.tuple #[v,.bool (decide (wE (m.map (·.1))≠[]))]/\Sl D 1 v ((wE (m.map (·.1))).map me):=by
 have aG:maxLen<=9223372036854775807:=by simp [maxLen]
 have S:=fun s:iH=>Ju (m:=m) (s:=s);obtain ⟨c,K⟩:∃ c,m.map (·.1)=c:=⟨_,rfl⟩;rw [K] at hn Q ⊢;simp only [K] at S;have al:c.length=m.length:=by rw [<- K];simp
 refine Uk func154 93 U3 fun w0=>Uf fun R d=>Uw U6 fun b2=>C4 2 [1] d Z<|Uf fun R d=>D.makeMap keyZ Z Z Z Z fl_ fun n=>C4 1 [1,6] d Z<|Ua 1 [1,6,7] Z<|Ub 1 Z fun R d=>WJ kI2.enc (Mem.get o mup) Z Z Z Z Z Z Z fl_ fun F=>Ug [1,6,7,19] d Z<|UV 2 Z<|G.loop (fun fr C' x T=>∃ (seen:List Nat)(f:Int),(seen.Nodup/\(∀ j∈seen,j<c.length)/\((fp c seen).map (·.1)).Nodup/\lR (fp c seen) f)/\fr=[(1,[],.map (some b)),(6,[],.map (some n)),(7,[],.int .i64 f),(19,[],.pointer (some ⟨F,0,none⟩))]/\x=[.obj F (bx b m.length seen),.obj n (aQ keyZ.enc (uk (fp c seen)))]/\T=c.length-seen.length) (hn_ [1,6,7,19] Z) ⟨[], -1,⟨List.nodup_nil,by simp,by simp [fp],.inl ⟨Z,Z⟩⟩,Z,Z,Z⟩ (fun fr aI aJ m _ U=>?_);obtain ⟨seen,f,⟨an,ao,L,M⟩,rfl,rfl,rfl⟩:=U;refine Uf fun R d=>Wo kI2.enc (q:=0) (Mem.get o mup) Z Z Z Z Z Z fl_ fun ap aK N aq=>C4 1 [1,6,7,19,21] d Z<|Ud (fun H=>?_) fun H=>?_
 ·obtain ⟨aL,j,hj,az,rfl⟩:ap=true/\∃ j,j<m.length/\j ∉ seen/\N=seen++[j]:=by
   rcases aq with ⟨h1,_⟩ | h1
   ·rw [h1] at H;cases H
   exact h1
  rw [<- al] at hj;obtain ⟨⟨s,bv⟩,hs⟩:∃ p,m[j]?=some p:=⟨m[j]'om_,ak om_⟩;have ar:c[j]?=some s:=by rw [<- K,Ql,hs];rfl
  have I:(seen++[j]).Nodup:=by
   rw [R3];exact ⟨an,by simp,fun a V b o e=>by rw [QF.1 o] at e;subst e;exact az V⟩
  have A:∀ i∈seen++[j],i<c.length:=fun i W=>by
   rcases Qy.1 W with h | h
   ·exact ao i h
   rw [QF.1 h];exact hj
  have aM:(seen++[j]).length<=c.length:=by
   have:=List.Nodup.length_le_of_subset I (l₂:=List.range c.length) (fun i W=>QA.2 (A i W));simpa using this
  have aN:(seen++[j]).length=seen.length+1:=by simp
  have g:=CS ar (seen:=seen);have aB:0<=s.1:=Q s (Qi ar);refine Uf fun R d=>WF kI2.enc (Mem.get o mup) hs af Z Z Z Z Z Z Z<|Ue U6<|Uv U5 fun b8=>Um (j:=0) U12<|Ug [1,6,7,8,19] d Z<|Ub 1 Z fun R d=>UA (1) U9 ag U2<|Uj af U9<|UA (0) U9 ag U2<|Uj af U9<|Uu [.int .i64 s.2,.int .i64 s.1] U8<|Wp kI2 (fun _=>(Mem.get o mup)) Z Z Z Z Z Z Z Z Z (pL _ (dp m (s.2,s.1))) Z Z<|C4 5 [1,6,7,8,10,19] d Z<|Ua 1 [1,6,7,8,19,34] Z<|Ud (fun X=>?_) fun X=>?_
  ·have Y:kh c s=false:=by
    have h:(dp m (s.2,s.1)).isSome=true:=X;rw [S] at h;simpa using h
   rw [Y] at g;simp only [Q9,RF,QI] at g;refine UV 0 Z<|Ut (L':=[.obj F (bx b m.length (seen++[j])),.obj n (aQ keyZ.enc (uk (fp c (seen++[j]))))]) (by rw [g];rfl)<|Up (m':=c.length-(seen++[j]).length) om_ mup (hn_ [1,6,7,19] Z) ⟨seen++[j],f,⟨I,A,by rw [g];exact L,by rw [g];exact M⟩,Z,Z,Z⟩
  have Y:kh c s=true:=by
   have h:(dp m (s.2,s.1)).isSome=false:=X;rw [S] at h;simpa using h
  rw [Y] at g;simp only [R9] at g;refine Ub 1 Z fun R d=>UA (0) U9 ag U2<|Uj af U9<|Vy keyZ ac Z Z Z Z Z Z Z Z kr_ Z (pL _ (dp (uk (fp c seen)) s.1)) Z Z<|C4 5 [1,6,7,8,12,19] d Z<|Ua 1 [1,6,7,8,19,42] Z<|Ud (fun aa=>?_) fun aa=>?_
  ·have z:(dp (uk (fp c seen)) s.1).isSome=true:=aa;rw [gX] at z;have ab:En c=none:=by
    cases l:dp (fp c seen) s.1 with
    | none=>rw [l] at z;cases z
    | some q=>exact Dk (B:=fp c seen) (s:=s) (t:=(s.1,q)) (by rw [<- g];exact yo hn I A) (by rw [<- g];exact Ff A) (fZ l) rfl
   have J:wE c=[]:=by unfold wE;rw [ab];rfl
   refine Ua 2 [4,5] Z<|Un (G.dropAll (UC U3 ?_));exact ⟨Z,.slice none 0 0,by rw [J];rfl,by rw [J];exact Sl.nil _ _⟩
  have z:(dp (uk (fp c seen)) s.1).isSome=false:=aa;have ad:dp (fp c seen) s.1=none:=by
   rw [gX] at z;cases l:dp (fp c seen) s.1 with
   | none=>rfl
   | some q=>rw [l] at z;cases z
  have au:((fp c (seen++[j])).map (·.1)).Nodup:=by
   rw [g,QX,R3];refine ⟨L,by simp,fun a V b o e=>?_⟩;rw [List.map_singleton,QF] at o;subst o;subst e;exact (cH.1 ad) V
  have O:=pP M s aB;refine Ub 1 Z fun R d=>UA (0) U9 ag U2<|Uj af U9<|UA (1) U9 ag U2<|Uj af U9<|D.mapUpdate keyZ (j:=2) Z Z Z Z Z Z Z Z Z Z kr_<|Ug [1,6,7,8,19] d Z<|Ub 3 Z fun R d=>UA (0) U9 ag U2<|Uj ae U9<|Uh 2 Z<|UF U8<|Ug [1,6,7,8,19,55] d Z<|Ud (fun ah=>?_) fun ah=>?_
  ·have ai:f<0∨s.1<f:=by simpa using ah
   rw [aH ai] at O;refine Uf fun R d=>UA (0) U9 ag U2<|Uj ae U9<|C4 1 [1,6,7,19] d Z<|UV 1 Z<|G.perm (L':=[.obj F (bx b m.length (seen++[j])),.obj n (aQ keyZ.enc (uk (fp c (seen++[j]))))]) (by
    rw [g,<- Bl ad];exact List.Perm.swap _ _ _) ?_
   refine Up (m':=c.length-(seen++[j]).length) om_ mup (hn_ [1,6,7,19] Z) ⟨seen++[j],s.1,⟨I,A,au,by rw [g];exact O⟩,Z,Z,Z⟩
  have ai:¬ (f<0∨s.1<f):=by simpa using ah
  rw [aA ai] at O;refine UV 1 Z<|G.perm (L':=[.obj F (bx b m.length (seen++[j])),.obj n (aQ keyZ.enc (uk (fp c (seen++[j]))))]) (by
   rw [g,<- Bl ad];exact List.Perm.swap _ _ _) ?_
  refine Up (m':=c.length-(seen++[j]).length) om_ mup (hn_ [1,6,7,19] Z) ⟨seen++[j],f,⟨I,A,au,by rw [g];exact O⟩,Z,Z,Z⟩
 obtain ⟨aO,rfl,av⟩:ap=false/\N=seen/\∀ j,j<m.length->j∈seen:=by
  rcases aq with h1 | ⟨h1,_⟩
  ·exact h1
  rw [h1] at H;cases H
 rw [<- al] at av;have hp:(fp c N).Perm (c.filter (kh c)):=(wb an ao av).filter _;obtain ⟨B,g⟩:∃ B,fp c N=B:=⟨_,rfl⟩;rw [g] at hp L M;have hO:=Jr hp L Q M;have aP:B.length<=c.length:=by rw [hp.length_eq];exact RE _ _
 refine Ua 1 [6,7,13] Z<|Ua 2 [6,7,13,14] Z<|UV 0 Z<|G.nilArr 3 1<|Ut (L':=[.arr (.slice none 0 0) 3 1 0 [],.obj n (aQ keyZ.enc (uk B))]) (by rw [g];rfl)<|G.loop (fun fr C' x T=>∃ (out:List Int)(w:Value)(p:Int),(out.length<=B.length/\iI B f (B.length-out.length) p out=En c)/\fr=[(6,[],.map (some n)),(7,[],.int .i64 f),(13,[],w),(14,[],.int .i64 p)]/\x=[.arr w 3 1 out.length (out.map (Value.int .i64)),.obj n (aQ keyZ.enc (uk B))]/\T=B.length-out.length) (hn_ [6,7,13,14] Z) ⟨[],_,f,⟨Qn _,hO.symm⟩,Z,Z,Z⟩ (fun fr aR aS m _ U=>?_);obtain ⟨out,w,p,⟨aT,E⟩,rfl,rfl,rfl⟩:=U;refine WY af (fun Aw cw hw aU aV aW=>?_);subst hw;refine UB [(3,1)] Z fun R d=>Uh 3 Z<|V8 keyZ.enc ae Z Z Z Z Z Z Z Z Z<|C4 1 [6,7,13,14,63] d Z<|Ud (fun aj=>?_) fun aj=>?_
 ·have aX:out.length<B.length:=by
   simp only [Qs,Bm] at aj;omega
  obtain ⟨r,hr⟩:∃ r,B.length-out.length=r+1:=⟨B.length-out.length-1,by omega⟩;rw [hr] at E;refine Ub 2 Z fun R d=>Vy keyZ ae Z Z Z Z Z Z Z Z kr_ Z (pL _ (dp (uk B) p)) Z Z<|C4 5 [6,7,13,14,16] d Z<|Ub 10 Z fun R d=>UD U8<|UF U8<|Ug [6,7,13,14,84] d Z<|Ud (fun k=>?_) fun k=>?_
  ·have ab:En c=none:=by
    rw [<- E];refine CF ?_;rw [gX] at k;cases l:dp B p with
    | none=>exact .inl rfl
    | some q =>
     rw [l] at k;simp only [RS,Option.isSome_some,Bool.not_true,Bool.false_or,Qu,RU,Qs] at k;exact .inr ⟨k.1,fun e=>by rw [e] at k;simp at k⟩
   have J:wE c=[]:=by unfold wE;rw [ab];rfl
   refine Ua 2 [4,5] Z<|Un (G.dropAll (UC U3 ?_));exact ⟨Z,.slice none 0 0,by rw [J];rfl,by rw [J];exact Sl.nil _ _⟩
  obtain ⟨q,l⟩:∃ q,dp B p=some q:=by
   rw [gX] at k;cases l:dp B p with
   | some q=>exact ⟨q,rfl⟩
   | none=>rw [l] at k;simp at k
  have aC:¬ (p=f/\out≠[]):=by
   rintro ⟨e1,e2⟩;rw [gX,l] at k;have:=Q3.2 e2;simp [e1] at k;exact e2 k
  rw [CE l aC] at E;have aY:(out++[p]).length=out.length+1:=by simp
  refine Ub 2 Z fun R d=>Ux [me p] U12 fun aZ _ _ aD=>D.append (j:=0) U11 aD Z ax (by simp only [PH];omega) fl_ fun aw=>C4 1 [6,7,13,14] d Z<|Ub 2 Z fun R d=>Vy keyZ ae Z Z Z Z Z Z Z Z kr_ Z (by rw [gX,l];rfl:kM _ false (dp (uk B) p)=.int .i64 q) Z Z<|C4 1 [6,7,13,14] d Z<|Ut (L':=[.arr aw 3 1 (out++[p]).length ((out++[p]).map (Value.int .i64)),.obj n (aQ keyZ.enc (uk B))]) (by simp [me])<|Up (m':=B.length-(out++[p]).length) om_ mup (hn_ [6,7,13,14] Z) ⟨out++[p],aw,q,⟨by omega,by rw [show B.length-(out++[p]).length=r by omega];exact E⟩,Z,Z,Z⟩
 have a0:B.length<=out.length:=by
  simp only [QG,Bm] at aj;omega
 have ay:wE c=out:=by
  rw [show B.length-out.length=0 by omega] at E;unfold wE;rw [<- E];rfl
 refine Ua 6 [4,5] Z<|Ut (L':=[.arr (.slice Aw out.length cw) 3 1 out.length (out.map me).flatten,.obj n (aQ keyZ.enc (uk B))]) (by rw [show (out.map me).flatten=out.map (Value.int .i64) from eA _ _])<|G.freezeArr 0 (out.map me) rfl rfl (by intro r hr;obtain ⟨y,_,rfl⟩:=Qt.1 hr;rfl) am fun Cg hg aE=>Un (G.dropAll (UC U3 ?_));refine ⟨Z,_, ?_,by rw [ay];exact aE⟩;rw [ay];have:decide ((out.length:Int) > 0)=decide (out≠[]):=by
  rw [Q7,<- Q3];omega
 rw [<- this]
def rt (pts:List Pt)(cyc:List Nat)(i:Nat):Pt:=pts.getD (cyc.getD (i % cyc.length) 0) (0,0)
def upB (p q:Pt):Bool:=decide (p.2<q.2) || (decide (p.2=q.2) && decide (p.1<q.1))
def J5 (pts:List Pt)(cyc:List Nat)(i:Nat):Bool:=!upB (rt pts cyc i) (rt pts cyc (i+1)) && upB (rt pts cyc (i+1)) (rt pts cyc (i+1+1))
def wS (pts:List Pt)(cyc:List Nat)(i:Nat):Bool:=decide (0<=dE (rt pts cyc i) (rt pts cyc (i+1)) (rt pts cyc (i+2)))
def Jx (pts:List Pt)(cyc:List Nat):Bool:=(List.range cyc.length).all (wS pts cyc) && decide (((List.range cyc.length).filter (J5 pts cyc)).length=1)
structure OnceC (C:Mem)(b2 b3 b5:Nat)(pts:List Pt)(cyc:List Nat):Prop where
 ex:∃ v1 v2,C b2=some (.cells ⟨[v1,v2]⟩ 36 (0,0))/\Sl C 2 v1 (pts.map gp)
 ey:∃ cv,C b3=some (.cells ⟨[cv]⟩ 50 (0,0))/\Sl C 1 cv (cyc.map aO)
 ez:C b5=some (.cells ⟨[.int .i64 (cyc.length:Nat)]⟩ 3 (0,0))
 ne:0<cyc.length
 ins:∀ z∈cyc,z<pts.length
 q:∀ p∈pts,QP 1 p
theorem OnceC.mono {C D:Mem}{b c d:Nat}{e:List Pt}{f:List Nat}(h:OnceC C b c d e f)(a:C.le D):OnceC D b c d e f:=by
 obtain ⟨g,i,h1,h2⟩:=h.ex;obtain ⟨j,h3,h4⟩:=h.ey;exact ⟨⟨g,i,a _ _ h1,h2.mono a⟩,⟨j,a _ _ h3,h4.mono a⟩,a _ _ h.ez,h.ne,h.ins,h.q⟩
theorem OnceC.m_ {D:Mem}{a b c:Nat}(h:OnceC C a b c pts cyc)(d:C.le D:=by exact mup):OnceC D a b c pts cyc:=OnceC.mono h d
theorem LH (h:0<cyc.length)(b:∀ z∈cyc,z<pts.length)(i:Nat):∃ z,cyc[i % cyc.length]?=some z/\pts[z]?=some (rt pts cyc i):=by
 have a:=Q2 i h;refine ⟨cyc[i % cyc.length],ak a, ?_⟩;have c:=b _ (Rf a);simp [rt,ak a,ak c]
theorem LG (h:0<cyc.length)(a:∀ z∈cyc,z<pts.length)(b:∀ p∈pts,QP 1 p)(i:Nat):QP 1 (rt pts cyc i):=by
 obtain ⟨z,_,h2⟩:=LH h a i;exact b _ (Qi h2)
theorem pl (C:Mem)(e f c:Nat)(b:List Pt)(a:List Nat)(h:OnceC C e f c b a)(i:Nat) :
  Gives cx.P 228 [.int .i64 i,.pointer (some ⟨e,0,none⟩),.pointer (some ⟨f,0,none⟩),.pointer (some ⟨c,0,none⟩)] C (ptV (rt b a i)):=by
 obtain ⟨q,r,g,h1⟩:=h.ex;obtain ⟨s,k,h3⟩:=h.ey;have l:=h.ez;have t:=h.ne;obtain ⟨z,m,n⟩:=LH h.ne h.ins i;obtain ⟨u,v,rfl,w,x,_⟩:=id h1;obtain ⟨y,A,rfl,B,D,_⟩:=id h3;simp only [aw] at h1 h3 g k;refine Uk func228 16 U3 fun w0=>Uf fun R d=>Uv U5 fun c=>Ug [0,1,2,3,5] d Z<|Uy [0,1,2,3,4,5,6,7,8,9,10] [] Z kr_ fun R E d=>Ue U6<|Uc (PtrTo.block (Mem.get g mup) _) U8<|Uc (PtrTo.block (Mem.get k mup) _) U8<|Ue U6<|Uc (PtrTo.block (Mem.get l mup) _) U8<|U1 (i) (a.length) U6 om_ U2<|Us h3.m_ U10 om_ (by rw [Ql,show ((i % a.length:Nat):Int).toNat=i % a.length from Z,m];rfl:(a.map aO)[((i % a.length:Nat):Int).toNat]?=some (aO z)) fl_ fun F o=>Uc o U8<|Us h1.m_ U10 om_ (by rw [Ql,show ((z:Nat):Int).toNat=z from Z,n];rfl:(b.map gp)[((z:Nat):Int).toNat]?=some (gp (rt b a i))) fl_ fun G p=>Uc p U8<|Um (j:=0) U12<|Ug [5] d Z<|Un (UU af U4 ?_);exact ⟨Z,Z⟩
def fn1V (b2 b3 b5:Nat):Value:=.func (.func 228) #[] #[.pointer (some ⟨b2,0,none⟩),.pointer (some ⟨b3,0,none⟩),.pointer (some ⟨b5,0,none⟩)]
theorem Hz (a b:Rat):decide (sP a b > 0)=decide (b<a):=by
 unfold sP;by_cases h1:a<b
 ·have:¬ b<a:=by grind
  simp [h1,this]
 by_cases h2:b<a <;> simp [h1,h2]
theorem NM (a b:Rat):(sP a b == 0)=decide (b=a):=by
 unfold sP;by_cases h1:a<b
 ·have:¬ b=a:=by grind
  simp [h1,this]
 by_cases h2:b<a
 ·have:¬ b=a:=by grind
  simp [h1,h2,this]
 have:b=a:=by grind
 subst this;simp [h1]
theorem K0 (C:Mem)(k:Tabs C)(c d e l:Nat)(a:List Pt)(b:List Nat)(h:OnceC C c d e a b)(f:C l=some (.cells ⟨[fn1V c d e]⟩ 318 (0,0)))(i:Nat)(n:i<=1000000) :
  Gives cx.P 229 [.int .i64 i,.pointer (some ⟨l,0,none⟩)] C (.bool (upB (rt a b i) (rt a b (i+1)))):=by
 have g:=fun i=>LG h.ne h.ins h.q i;unfold fn1V at f;refine Uk func229 34 U3 fun w0=>Ua 1 [0,1] Z<|Uy [0,1,2,3,4,5,6,7,8,9,10] [(3,1),(7,1),(9,1)] Z kr_ fun R m j=>Uc (PtrTo.block (Mem.get f mup) _) U8<|Ue U6<|Ul _ U7<|UJ (fun _=>(pl _ c d e a b h.m_ (i+1))) U9<|Vt U12<|Uc (PtrTo.block (Mem.get f mup) _) U8<|Ue U6<|UJ (fun _=>(pl _ c d e a b h.m_ i)) U9<|Vt U12<|Uz (fun _=>(gU _ k.m_ (rt a b (i+1)).2 (rt a b i).2 1 dc_ dc_ (g (i+1)).2 (g i).2)) U9<|C4 1 [0,1,4] j Z<|Uy [0,1,2,3,4,5,6,7,8,9,10,11,12,13,14,15,16,17,18,19] [] Z kr_ fun R m j=>Uh 6 Z<|UE U6 (fun _=>PtrTo.block (Mem.get f mup) _) U3<|Ue U6<|Ul _ U7<|UJ (fun _=>(pl _ c d e a b h.m_ (i+1))) U9<|Vt U12<|UE U6 (fun _=>PtrTo.block (Mem.get f mup) _) U3<|Ue U6<|UJ (fun _=>(pl _ c d e a b h.m_ i)) U9<|Vt U12<|Uz (fun _=>(gU _ k.m_ (rt a b (i+1)).1 (rt a b i).1 1 dc_ dc_ (g (i+1)).1 (g i).1)) U9<|Ue U6<|UD U8<|UF U8<|C4 1 [3] j Z<|Ui U2<|⟨?_,Z⟩;rw [Hz,NM,Hz];rfl
theorem Fb (q:Rat):decide (eL q.num<0)=!decide (0<=q):=by
 rw [<- decide_not,Q7,<- Rat.num_nonneg];rcases eo q.num with h | h | h <;> omega
theorem MV (C:Mem)(r:Tabs C)(s B D:Value)(b:List Pt)(a:List Nat)(I:Sl C 2 s (b.map gp))(t:Sl C 1 D (a.map aO))(J:0<a.length)(K:∀ z∈a,z<b.length)(L:∀ p∈b,QP 1 p)(W:a.length<=100000) :
  Gives cx.P 155 [.agg ⟨[s,B]⟩,D] C (.bool (Jx b a)):=by
 obtain ⟨X,Y,rfl,aa,ab,_⟩:=id t;simp only [aw] at t ⊢;refine Uk func155 46 U3 fun w0=>Uf fun R c=>Uw U6 fun e=>Uw U6 fun f=>C4 1 [2,3] c Z<|Uf fun R c=>Uj af U9<|Ue U6<|Uv U5 fun g=>Um (j:=0) U12<|Ug [2,3,5] c Z<|Ub 1 Z fun R c=>Uv U5 fun o=>Um (j:=0) U12<|Ug [5,6] c Z<|G.freeze 0 Z fun _ _ h=>G.freeze 0 Z fun _ _ E=>G.freeze 0 Z fun _ _ M=>G.freeze 0 Z (fun N _ O=>?_);have d:OnceC N e f g b a:=⟨⟨s,B,O,I.mono mup⟩,⟨_,Mem.get M mup,t.mono mup⟩,Mem.get E mup,J,K,L⟩;have u:=fun i=>LG d.ne d.ins d.q i;refine Ua 2 [5,6,7] Z<|Ua 1 [5,6,7,8] Z<|Uf fun R c=>Uc (PtrTo.block (Mem.get E mup) _) U8<|C4 1 [6,7,8,14,15] c Z<|G.loop (fun fr C' Q S=>∃ (i k:Nat),(i<=a.length/\(List.range i).all (wS b a)=true/\((List.range i).filter (J5 b a)).length=k)/\fr=[(6,[],.pointer (some ⟨o,0,none⟩)),(7,[],.func (.func 229) #[] #[.pointer (some ⟨o,0,none⟩)]),(8,[],.int .i64 k),(14,[],.int .i64 a.length),(15,[],.int .i64 i)]/\Q=[]/\S=a.length-i) (hn_ [6,7,8,14,15] Z) ⟨0,0,⟨Qn _,Z,Z⟩,Z,Z,Z⟩ (fun fr ac ad m F T=>?_);obtain ⟨i,k,⟨hi,v,l⟩,rfl,rfl,rfl⟩:=T;refine Ua 1 [6,7,8,14,15,16] Z<|Ud (fun w=>?_) fun w=>?_
 ·have x:i<a.length:=by simpa using w
  have ae:k<=i:=by
   rw [<- l];exact QE (RE _ _) am
  refine Ua 2 [6,7,8,9,14,15] Z<|Uy [0,1,2,3,4,5,6,7,8,9,10,11,12] [(2,1),(6,1),(10,1),(11,1)] Z kr_ fun R hB c=>Uc (PtrTo.block (Mem.get h mup) _) U8<|Ue U6<|UJ (fun _=>(pl _ e f g b a d.m_ i)) U9<|Uc (PtrTo.block (Mem.get h mup) _) U8<|Ue U6<|Ul _ U7<|UJ (fun _=>(pl _ e f g b a d.m_ (i+1))) U9<|Uc (PtrTo.block (Mem.get h mup) _) U8<|Ue U6<|Ul _ U7<|UJ (fun _=>(pl _ e f g b a d.m_ (i+2))) U9<|Uz (fun _=>(oI _ r.m_ (rt b a i) (rt b a (i+1)) (rt b a (i+2)) 1 dc_ dc_ (u i) (u (i+1)) (u (i+2)))) U9<|C4 1 [6,7,8,9,14,15,30] c Z<|Ud (fun n=>?_) fun n=>?_
  ·have U:wS b a i=false:=by
    rw [Fb] at n;simpa [wS] using n
   refine Ua 1 [4] Z<|Ui U2<|⟨?_,Z⟩;have:(List.range a.length).all (wS b a)=false:=SC.2 ⟨i,QA.2 x,by rw [U];decide⟩;unfold Jx;rw [this];rfl
  have V:wS b a i=true:=by
   rw [Fb] at n;simpa [wS] using n
  have H:(List.range (i+1)).all (wS b a)=true:=by rw [Rs,Tm,v];simp [V]
  refine Ub 2 Z fun R c=>Ur (K0 _ r.m_ e f g o b a d.m_ (Mem.get h mup) i om_) U7 fl_<|Uh 4 Z<|Ul _ U7<|Uz (fun _=>(K0 _ r.m_ e f g o b a d.m_ (Mem.get h mup) (i+1) om_)) U9<|UD U8<|Ug [6,7,8,14,15,40] c Z<|Ud (fun y=>?_) fun y=>?_
  ·have A:J5 b a i=true:=y;refine Ub 1 Z fun R c=>Ul _ U7<|C4 1 [6,7,8,14,15] c Z<|Uf fun R c=>Ul _ U7<|C4 1 [6,7,8,14,15] c Z<|Up (m':=a.length-(i+1)) om_ F (hn_ [6,7,8,14,15] Z) ⟨i+1,k+1,⟨by omega,H,by rw [Rs,RW,Qp,l];simp [A]⟩,Z,Z,Z⟩
  have A:J5 b a i=false:=y;refine Uf fun R c=>Ul _ U7<|C4 1 [6,7,8,14,15] c Z<|Up (m':=a.length-(i+1)) om_ F (hn_ [6,7,8,14,15] Z) ⟨i+1,k,⟨by omega,H,by rw [Rs,RW,Qp,l];simp [A]⟩,Z,Z,Z⟩
 have x:i=a.length:=by
  have:¬ i<a.length:=by simpa using w
  omega
 refine Ua 3 [4] Z<|Ui U2<|⟨?_,Z⟩;rw [x] at v l;unfold Jx;rw [v,l,Tz];congr 1;rw [S3,Qs];simp;omega
/-! The sides of triangles, in order. -/
def qZ (t:Tri):List iH:=[oU t 0,oU t 1,oU t 2]
def cY (tris:List Tri):List iH:=tris.flatMap qZ
theorem AF (t:Tri)(a:k<3):(qZ t)[k]?=some (oU t k):=by
 rcases (by omega:k=0∨k=1∨k=2) with rfl | rfl | rfl <;> rfl
theorem pu (m:N6)(i:Nat)(t:Tri):∀ k,k<=3->(m.map (·.1)++(qZ t).take k).Nodup->(Em m i t k).map (·.1)=m.map (·.1)++(qZ t).take k
 | 0,_,_=>by simp [Em]
 | k+1,e,a=>by
  have h3:=AF t (show k<3 by omega);rw [QJ,h3,RD,<- QO] at a ⊢;have b:=(R3.1 a);have c:=pu m i t k om_ b.1;have d:dp (Em m i t k) (oU t k)=none:=by
   rw [cH,c];intro h;exact b.2.2 _ h _ am Z
  rw [Em,jK d,QX,c];rfl
theorem oS (h:tris[n]?=some t):cY (tris.take (n+1))=cY (tris.take n)++qZ t:=by
 unfold cY;rw [QJ,h,List.flatMap_append];simp
theorem rD (h:(cY tris).Nodup)(n:Nat):(cY (tris.take n)).Nodup:=by
 have:cY tris=cY (tris.take n)++cY (tris.drop n):=by
  unfold cY;rw [<- List.flatMap_append,Rn]
 rw [this] at h;exact (R3.1 h).1
theorem gA {a:List Tri}(h:(cY a).Nodup):∀ n,n<=a.length->(yc a n).map (·.1)=cY (a.take n)
 | 0,_=>by simp [yc,cY]
 | n+1,d=>by
  have b:a[n]?=some a[n]:=ak om_;have h1:=rD h (n+1);rw [oS b] at h1 ⊢;have c:=gA h n om_;rw [yc,al,b];show (Em (yc a n) n a[n] 3).map (·.1)=_;rw [pu _ _ _ 3 (Qj _) (by rw [c];exact h1),c];rfl
theorem Di (h:(cY tris).Nodup)(i:Nat)(t:Tri)(k:Nat)(a:tris[i]?=some t)(c:k<3):dp (Em (yc tris i) i t k) (oU t k)=none:=by
 have d:=(aF.1 a).1;have h1:=rD h (i+1);rw [oS a] at h1;have b:=gA h i om_;have h3:=AF t c;have h2:(cY (tris.take i)++(qZ t).take (k+1)).Nodup:=by
  refine List.Nodup.sublist (List.Sublist.append (List.Sublist.refl _) (List.take_sublist _ _)) h1
 rw [QJ,h3,RD,<- QO] at h2;have h4:=R3.1 h2;rw [cH,pu _ _ _ k om_ (by rw [b];exact h4.1),b];intro h5;exact h4.2.2 _ h5 _ am Z
theorem vD {B:List iH}{d:Int}:∀ (k:Nat)(p:Int)(out r:List Int),iI B d k p out=some r->(∀ z∈out,z∈B.map (·.1))->∀ z∈r,z∈B.map (·.1)
 | 0,p,out,r,h,b=>by simp only [iI,QR] at h;subst h;exact b
 | k+1,p,out,r,h,b=>by
  simp only [iI] at h;cases c:dp B p with
  | none=>rw [c] at h;cases h
  | some q =>
   rw [c] at h;simp only at h;split at h
   ·cases h
   refine vD k q _ r h (fun z a=>?_);rcases Qy.1 a with a | a
   ·exact b z a
   rw [QF.1 a];exact SF (f:=(·.1)) (fZ c)
theorem vE {B:List iH}{b:Int}:∀ (k:Nat)(p:Int)(out r:List Int),iI B b k p out=some r->r.length=out.length+k
 | 0,p,out,r,h=>by simp only [iI,QR] at h;subst h;rfl
 | k+1,p,out,r,h=>by
  simp only [iI] at h;cases a:dp B p with
  | none=>rw [a] at h;cases h
  | some q =>
   rw [a] at h;simp only at h;split at h
   ·cases h
   have:=vE k q _ r h;simp at this;omega
theorem Bh {c:List iH}:∀ z∈wE c,z∈c.map (·.1):=by
 intro z a;unfold wE at a;cases b:En c with
 | none=>rw [b] at a;simp at a
 | some r =>
  rw [b] at a;simp only [Rx] at a;unfold En at b;split at b
  ·have:=vD _ _ _ _ b am z a;obtain ⟨s,hs,rfl⟩:=Qt.1 this;exact SF (f:=(·.1)) (Si.1 hs).1
  cases b
theorem Jt (a:List iH):(wE a).length<=a.length:=by
 unfold wE;cases b:En a with
 | none=>simp
 | some r =>
  unfold En at b;split at b
  ·have:=vE _ _ _ _ b;have h2:=RE (kh a) a;simp at this ⊢;omega
  cases b
def ry (n:Nat)(t:Tri):Prop:=t.1<n/\t.2.1<n/\t.2.2<n
theorem IN (h:ry n t):∀ s∈qZ t,0<=s.1/\s.1.toNat<n:=by
 obtain ⟨h1,h2,h3⟩:=h;intro s hs;simp only [qZ,Qw,Rk,SI] at hs;rcases hs with rfl | rfl | rfl <;> simp [oU,EN] <;> omega
theorem oT (h:∀ t∈tris,ry n t):∀ s∈cY tris,0<=s.1/\s.1.toNat<n:=by
 intro s hs;obtain ⟨t,a,hs⟩:=List.mem_flatMap.1 hs;exact IN (h t a) s hs
theorem rH (a:List Tri):(cY a).length=3*a.length:=by
 induction a with
 | nil=>rfl
 | cons t l b =>
  have:cY (t::l)=qZ t++cY l:=rfl;rw [this,Qp,b];simp [qZ];omega
def fQ (tris:List Tri):List Nat:=(wE (cY tris)).map Int.toNat
theorem D3 (h:∀ t∈tris,ry n t):∀ z∈fQ tris,z<n:=by
 intro z a;obtain ⟨y,hy,rfl⟩:=Qt.1 a;obtain ⟨s,hs,rfl⟩:=Qt.1 (Bh y hy);exact (oT h s hs).2
theorem zk (h:∀ t∈tris,ry n t):(wE (cY tris)).map me=(fQ tris).map aO:=by
 unfold fQ;rw [Q6];refine List.map_congr_left (fun y hy=>?_);obtain ⟨s,hs,rfl⟩:=Qt.1 (Bh y hy);have:=(oT h s hs).1;show me s.1=aO s.1.toNat;unfold me aO;rw [Int.toNat_of_nonneg this]
/-! Sets of ints as maps. -/
def H6 (ks:List Int):List (Int × Value):=ks.map fun z=>(z,.bool true)
def Ph (ks:List Int)(z:Int):List Int:=if z∈ks then ks else ks++[z]
theorem IW (a:List Int):(H6 a).length=a.length:=by simp [H6]
theorem wM:∀ {ks:List Int}{z:Int},fT (H6 ks) z (.bool true)=H6 (Ph ks z)
 | [],z=>by simp [H6,fT,Ph]
 | k::ks,z=>by
  have a:=wM (ks:=ks) (z:=z);unfold H6 at a ⊢;simp only [QU,fT];by_cases e:k=z
  ·subst e;simp [Ph]
  have b:¬ z=k:=fun h=>e h.symm;rw [aA e,a];unfold Ph;by_cases h:z∈ks
  ·simp [h]
  simp [h,b]
def LV (ks:List Int)(t:Tri):Nat->List Int
 | 0=>ks
 | k+1=>Ph (LV ks t k) (EN t k)
def vI (tris:List Tri):Nat->List Int
 | 0=>[]
 | n+1=>LV (vI tris n) (tris.getD n (0,0,0)) 3
theorem G7 (t:Tri)(a:k<3):(kC t)[k]?=some (.int .i64 (EN t k)):=by
 rcases (by omega:k=0∨k=1∨k=2) with rfl | rfl | rfl <;> rfl
theorem D2 (h:decide (wE (cY tris)≠[])=true):0<(fQ tris).length:=by
 unfold fQ;rw [aw];exact Q3.2 (aV h)
theorem HJ (a:List Tri):decide (wE (cY a)≠[])=decide (fQ a≠[]):=by
 rw [Q7];unfold fQ;simp
def nk (pts:List Pt)(tris:List Tri):Bool:=decide (fQ tris≠[]) && (decide ((vI tris tris.length).length=pts.length) && Jx pts (fQ tris))
theorem tD (C:Mem)(J:Tabs C)(x y:Value)(c:List Pt)(a:List Tri)(K:a≠[])(k:Sl C 2 x (c.map gp))(g:Sl C 3 y (a.map kC))(d:(cY a).Nodup)(l:∀ t∈a,ry c.length t)(L:∀ p∈c,QP 1 p)(z:a.length<=10000) :
  Gives cx.P 101 [.agg ⟨[x,y]⟩] C (.bool (nk c a)):=by
 obtain ⟨V,W,rfl,M,X,_⟩:=id k;obtain ⟨A2,c2,rfl,N,Y,_⟩:=id g;have aa:maxLen<=9223372036854775807:=by simp [maxLen]
 simp only [aw] at k g M N ⊢;refine Uk func101 55 U3 fun w0=>Uf fun R b=>Uw U6 fun A=>C4 1 [1] b Z<|G.freeze 0 Z fun _ B e=>Uf fun R b=>Uc (PtrTo.block (Mem.get e mup) _) U8<|UM (FX _ _ _ a K g.m_ (Di d)) U7 (fun ab _ _ O=>?_);obtain ⟨n,rfl,Q⟩:=O;refine C4 5 [1,3,4] b Z<|Ua 2 [1,3,18] Z<|Ud (fun E=>?_) fun E=>?_
 ·exact absurd E dc_
 refine Uf fun R b=>D.makeMap keyZ Z Z Z Z fl_ fun f=>C4 1 [1,3,5] b Z<|Ub 1 Z fun R b=>Uc (PtrTo.block (Mem.get e mup) _) U8<|C4 2 [1,3,5,21,22,23] b Z<|G.loop (fun fr C' h o=>∃ (i:Nat),(i<=a.length)/\fr=[(1,[],.pointer (some ⟨A,0,none⟩)),(3,[],.map (some n)),(5,[],.map (some f)),(21,[],.slice A2 a.length c2),(22,[],.int .i64 a.length),(23,[],.int .i64 i)]/\h=[.obj f (aQ keyZ.enc (H6 (vI a i)))]/\o=a.length-i) (hn_ [1,3,5,21,22,23] Z) ⟨0,Qn _,Z,Z,Z⟩ (fun fr ac ad m _ q=>?_);obtain ⟨i,hi,rfl,rfl,rfl⟩:=q;refine Ua 1 [1,3,5,21,22,23,24] Z<|Ud (fun r=>?_) fun r=>?_
 ·have u:i<a.length:=by simpa using r
  obtain ⟨t,F⟩:∃ t,a[i]?=some t:=⟨a[i],ak u⟩;refine Uf fun R b=>Us g.m_ U10 om_ (by rw [Ql,F];rfl:(a.map kC)[i]?=some (kC t)) fl_ fun ae S=>Uc S U8<|Uv U5 fun b7=>Um (j:=0) U12<|Ug [1,3,5,7,21,22,23] b Z<|Uf fun R b=>Uj af U9<|C4 1 [1,3,5,21,22,23,27,28] b Z<|UV 0 Z<|G.loop (fun fr C' h o=>∃ (j:Nat),(j<=3)/\fr=[(1,[],.pointer (some ⟨A,0,none⟩)),(3,[],.map (some n)),(5,[],.map (some f)),(21,[],.slice A2 a.length c2),(22,[],.int .i64 a.length),(23,[],.int .i64 i),(27,[],.agg ⟨kC t⟩),(28,[],.int .i64 j)]/\h=[.obj f (aQ keyZ.enc (H6 (LV (vI a i) t j)))]/\o=3-j) (hn_ [1,3,5,21,22,23,27,28] Z) ⟨0,Qn _,Z,Z,Z⟩ (fun fr ag ah m B q=>?_);obtain ⟨j,hj,rfl,rfl,rfl⟩:=q;refine Ua 1 [1,3,5,21,22,23,27,28,29] Z<|Ud (fun v=>?_) fun v=>?_
  ·have w:j<3:=by
    simp only [Qs] at v;omega
   refine Uf fun R b=>Ve U11 (fun _=>⟨by omega,by omega,G7 t w⟩) U2<|C4 1 [1,3,5,9,21,22,23,27,28] b Z<|Ub 2 Z fun R b=>D.mapUpdate keyZ (j:=0) Z Z Z Z Z Z Z Z Z Z kr_<|Ug [1,3,5,21,22,23,27,28] b Z<|Uf fun R b=>Ul _ U7<|C4 1 [1,3,5,21,22,23,27,28] b Z ?_;rw [wM];refine Up (m':=3-(j+1)) om_ B (hn_ [1,3,5,21,22,23,27,28] Z) ⟨j+1,om_,Z,Z,Z⟩
  have w:j=3:=by
   simp only [QG] at v;omega
  subst w;refine Uf fun R b=>Ul _ U7<|C4 1 [1,3,5,21,22,23] b Z<|Ut (L':=[.obj f (aQ keyZ.enc (H6 (vI a (i+1))))]) (by rw [vI,al,F];rfl)<|Up (m':=a.length-(i+1)) om_ mup (hn_ [1,3,5,21,22,23] Z) ⟨i+1,om_,Z,Z,Z⟩
 have u:i=a.length:=by
  have:¬ i<a.length:=by simpa using r
  omega
 subst u;refine Uf fun R b=>Uc (PtrTo.block (Mem.get e mup) _) U8<|Ue U6<|UH (Jq _ _ _ n (yc a a.length) (Mem.get Q mup) (by rw [gA d _ (Qj _),Qv];exact d) (by rw [gA d _ (Qj _),Qv];exact fun s T=>(oT l s T).1) (by have:=congrArg List.length (gA d _ (Qj _));rw [Qv,rH,aw] at this;omega)) U7 fl_ (fun ai _ _ H=>?_);rw [gA d _ (Qj _),Qv] at H;obtain ⟨bv,rfl,I⟩:=H;rw [zk l] at I;refine C4 5 [1,5,10,11] b Z<|UB [(3,1)] Z fun R b=>Uh 3 Z<|V8 keyZ.enc af Z Z Z Z Z Z Z Z Z<|Ue U6<|UE U6 (fun _=>PtrTo.block (Mem.get e mup) _) U3<|Uh 2 Z<|UD U8<|Ue U6<|UE U6 (fun _=>PtrTo.block (Mem.get e mup) _) U3<|Ue U6<|Uz (fun U=>(MV _ J.m_ _ _ bv c (fQ a) k.m_ I.m_ (by exact D2 (SU.1 (show (decide (wE (cY a)≠[]) && _)=true/\True from U).1).1) (D3 l) L (by have:=Jt (cY a);rw [rH] at this;unfold fQ;rw [aw];omega))) U9<|UD U8<|C4 1 [2] b Z<|Ui U2<|⟨?_,Z⟩;have z:(((H6 (vI a a.length)).length:Int) == (c.length:Int))=decide ((vI a a.length).length=c.length):=by
  rw [IW,S3,RU,Qs];omega
 unfold nk;rw [<- HJ,<- z,<- Bool.and_assoc]
noncomputable def kP2:KeyP cx.P 58 (Str × Str):=P3 rfl rfl rfl dc_ dc_ rfl rfl kr_
def ptK (p:Pt):Str × Str:=(qtx p.1,qtx p.2)
theorem MB {q:Pt}(h:ptK p=ptK q):p=q:=by
 have h1:=lF (congrArg (·.1) h);have h2:=lF (congrArg (·.2) h);exact Prod.ext h1 h2
def JD (l:List Pt):List ((Str × Str) × Value):=l.map fun p=>(ptK p,.bool true)
theorem Bu (h:p ∉ l):dp (JD l) (ptK p)=none:=by
 rw [cH];unfold JD;rw [Q6];intro hm;obtain ⟨q,a,b⟩:=Qt.1 hm;exact h (MB b ▸ a)
theorem M7 (h:p ∉ l):fT (JD l) (ptK p) (.bool true)=JD (l++[p]):=by
 rw [jK (Bu h)];simp [JD]
def oh (n:Nat)(X:Nat->Nat->Bool):Bool:=(List.range n).any fun i=>(List.range i).any fun k=>X i k
def yy (pts:List Pt)(tris:List Tri)(X:Nat->Nat->Bool):Int:=if tris=[] then 13 else if nk pts tris then 0 else if oh tris.length X then 26 else 25
structure MeshOk (pts:List Pt)(tris:List Tri):Prop where
 q:∀ p∈pts,QP 1 p
 nd:pts.Nodup
 ins:∀ t∈tris,ry pts.length t
 pos:∀ t∈tris,0<dE (pts.getD t.1 (0,0)) (pts.getD t.2.1 (0,0)) (pts.getD t.2.2 (0,0))
 sides:(cY tris).Nodup
 lt:tris.length<=800
 lp:pts.length<=400
theorem pk (h:i<pts.length):pts[i]?=some (pts.getD i (0,0)):=by
 rw [al,ak h];rfl
theorem AY (h:i<pts.length):pts.getD i (0,0)∈pts:=Qi (pk h)
def mD (t:Tri)(j:Nat):Nat:=if j=0 then t.1 else if j=1 then t.2.1 else t.2.2
theorem Oi (t:Tri)(j:Nat):EN t j=(mD t j:Nat):=by
 unfold EN mD;split
 ·rfl
 split <;> rfl
theorem fc (h:ry n t)(j:Nat):mD t j<n:=by
 obtain ⟨h1,h2,h3⟩:=h;unfold mD;split
 ·exact h1
 split <;> assumption
theorem Ov (q:Rat):decide (eL q.num<=0)=!decide (0<q):=by
 have h1:=AV q;have h2:q.num=0 ↔ q=0:=Tn;rw [<- decide_not,Q7];have h3:¬ 0<q ↔ (q<0∨q=0):=by grind
 rw [h3,<- h1,<- h2];rcases eo q.num with h | h | h <;> omega
theorem Gk (C:Mem)(F:Tabs C)(H I:Value)(c:List Pt)(b:List Tri)(X:Nat->Nat->Bool)(r:Sl C 2 H (c.map gp))(x:Sl C 3 I (b.map kC))(d:MeshOk c b)
  (U:b≠[]->nk c b=false->∀ D:Mem,C.le D->∀ i k:Nat,i<b.length->k<i->Gives cx.P 102 [.agg ⟨[H,I]⟩,.int .i64 i,.int .i64 k] D (.bool (X i k))) :
  Gives cx.P 66 [.agg ⟨[H,I]⟩] C (.int .i64 (yy c b X)):=by
 obtain ⟨A1,c1,rfl,ah,az,_⟩:=id r;obtain ⟨A2,c2,rfl,ai,aB,_⟩:=id x;have aC:maxLen<=9223372036854775807:=by simp [maxLen]
 have aD:=d.lt;have aE:=d.lp;simp only [aw] at r x ah ai U ⊢;refine Uk func66 105 U3 fun w0=>Uf fun R a=>Uw U6 fun u=>C4 1 [1] a Z<|G.freeze 0 Z fun _ _ f=>Ub 1 Z fun R a=>Uc (PtrTo.block (Mem.get f mup) _) U8<|C4 3 [1,12] a Z<|Ud (fun y=>?_) fun y=>?_
 ·have h0:b=[]:=by
   have h:((b.length:Nat):Int)=0:=by simpa using y
   exact Q1 om_
  exact Ua 1 [2] Z<|Ui U2<|⟨by unfold yy;rw [aH h0],Z⟩
 have h0:b≠[]:=by
  intro e;rw [e] at y;exact absurd y dc_
 refine Ub 1 Z fun R a=>Uc (PtrTo.block (Mem.get f mup) _) U8<|Uh 4 Z<|UE U6 (fun _=>PtrTo.block (Mem.get f mup) _) U3<|Uh 2 Z<|UF U8<|C4 1 [1,17] a Z<|Ud (fun V=>?_) fun V=>?_
 ·exfalso;simp only [RY,Qs] at V;omega
 refine Uf fun R a=>V4 kP2 Z Z Z Z fl_ fun J=>C4 1 [1,3] a Z<|Ub 1 Z fun R a=>Uc (PtrTo.block (Mem.get f mup) _) U8<|C4 2 [1,3,30,31,32] a Z<|G.loop (fun fr C' g l=>∃ (i:Nat),(i<=c.length)/\fr=[(1,[],.pointer (some ⟨u,0,none⟩)),(3,[],.map (some J)),(30,[],.slice A1 c.length c1),(31,[],.int .i64 c.length),(32,[],.int .i64 i)]/\g=[.obj J (aQ DL (JD (c.take i)))]/\l=c.length-i) (hn_ [1,3,30,31,32] Z) ⟨0,Qn _,Z,Z,Z⟩ (fun fr aG aI m _ n=>?_);obtain ⟨i,hi,rfl,rfl,rfl⟩:=n;refine Ua 1 [1,3,30,31,32,33] Z<|Ud (fun W=>?_) fun W=>?_
 ·have o:i<c.length:=by simpa using W
  obtain ⟨p,z⟩:∃ p,c[i]?=some p:=⟨c[i],ak o⟩;have A:=d.q p (Qi z);have Y:p ∉ c.take i:=by
   intro hm;obtain ⟨j,v⟩:=RP hm;rw [QZ] at v;split at v
   ·rename_i aJ;have h3:=(aF.1 v);have h4:=(aF.1 z);have:=(List.getElem_inj d.nd).1 (h3.2.trans h4.2.symm);omega
   cases v
  have aj:JD (c.take (i+1))=JD (c.take i++[p]):=by rw [QJ,z];rfl
  refine Uf fun R a=>Us r.m_ U10 om_ (by rw [Ql,z];rfl:(c.map gp)[i]?=some (gp p)) fl_ fun aK al=>Uc al U8<|Uv U5 fun b5=>Um (j:=0) U12<|Ug [1,3,5,30,31,32] a Z<|Uf fun R a=>Uj af U9<|Ur (iw _ F.m_ (qtx p.1) (qtx p.2) (by have:=bK A.1 dc_;omega) (by have:=bK A.2 dc_;omega)) U7 fl_<|C4 1 [1,3,5,30,31,32,38] a Z<|Ud (fun K=>?_) fun K=>?_
  ·exfalso;rw [bP (A.1.le dc_),bP (A.2.le dc_)] at K;exact absurd K dc_
  refine Ub 1 Z fun R a=>Uj af U9<|V5 kP2 ae Z Z Z Z Z Z Z Z Z (congrArg (kM (.bool false) false) (Bu Y)) Z Z<|Ug [1,3,5,30,31,32,41] a Z<|Ud (fun aa=>?_) fun aa=>?_
  ·exact absurd aa dc_
  refine Ub 1 Z fun R a=>Uj af U9<|V1 kP2 (j:=1) (key:=ptK p) Z Z Z Z Z Z Z Z Z Z<|Ug [1,3,30,31,32] a Z<|Uf fun R a=>Ul _ U7<|C4 1 [1,3,30,31,32] a Z<|UV 1 Z<|Ut (L':=[.obj J (aQ DL (JD (c.take (i+1))))]) (by rw [aj,<- M7 Y];rfl)<|Up (m':=c.length-(i+1)) om_ mup (hn_ [1,3,30,31,32] Z) ⟨i+1,om_,Z,Z,Z⟩
 refine Ub 1 Z fun R a=>Uc (PtrTo.block (Mem.get f mup) _) U8<|C4 2 [1,46,47,48] a Z<|G.dropAll<|G.loop (fun fr C' g l=>∃ (i:Nat),(i<=b.length)/\fr=[(1,[],.pointer (some ⟨u,0,none⟩)),(46,[],.slice A2 b.length c2),(47,[],.int .i64 b.length),(48,[],.int .i64 i)]/\g=[]/\l=b.length-i) (hn_ [1,46,47,48] Z) ⟨0,Qn _,Z,Z,Z⟩ (fun fr aL aM m _ n=>?_);obtain ⟨i,hi,rfl,rfl,rfl⟩:=n;refine Ua 1 [1,46,47,48,49] Z<|Ud (fun L=>?_) fun L=>?_
 ·have o:i<b.length:=by simpa using L
  obtain ⟨t,ht⟩:∃ t,b[i]?=some t:=⟨b[i],ak o⟩;have ab:=Qi ht;have s:=d.ins t ab;have am:=d.pos t ab;refine Uf fun R a=>Us x.m_ U10 om_ (by rw [Ql,ht];rfl:(b.map kC)[i]?=some (kC t)) fl_ fun aN an=>Uc an U8<|Uv U5 fun b7=>Um (j:=0) U12<|Ug [1,7,46,47,48] a Z<|Uf fun R a=>Uj af U9<|C4 1 [1,7,46,47,48,52,53] a Z<|G.loop (fun fr C' g l=>∃ (j:Nat),(j<=3)/\fr=[(1,[],.pointer (some ⟨u,0,none⟩)),(7,[],.pointer (some ⟨b7,0,none⟩)),(46,[],.slice A2 b.length c2),(47,[],.int .i64 b.length),(48,[],.int .i64 i),(52,[],.agg ⟨kC t⟩),(53,[],.int .i64 j)]/\g=[.obj b7 (.cells ⟨kC t⟩ 108 (0,0))]/\l=3-j) (hn_ [1,7,46,47,48,52,53] Z) ⟨0,Qn _,Z,Z,Z⟩ (fun fr aO aP m ao n=>?_);obtain ⟨j,v,rfl,rfl,rfl⟩:=n;refine Ua 1 [1,7,46,47,48,52,53,54] Z<|Ud (fun M=>?_) fun M=>?_
  ·have ap:j<3:=by
    simp only [Qs] at M;omega
   have aR:=fc s j;refine Uf fun R a=>Ve U11 (fun _=>⟨by omega,by omega,(show (kC t)[((j:Nat):Int).toNat]?=some (.int .i64 ((mD t j:Nat):Int)) from by rw [<- Oi];exact G7 t ap)⟩) U2<|C4 1 [1,7,9,46,47,48,52,53] a Z<|Ub 5 Z fun R a=>UE U6 (fun _=>PtrTo.block (Mem.get f mup) _) U3<|Uh 2 Z<|UF U8<|Ug [1,7,46,47,48,52,53,64] a Z<|Ud (fun ac=>?_) fun ac=>?_
   ·exfalso;simp only [RY,Qs] at ac;omega
   refine Uf fun R a=>Ul _ U7<|C4 1 [1,7,46,47,48,52,53] a Z<|Up (m':=3-(j+1)) om_ ao (hn_ [1,7,46,47,48,52,53] Z) ⟨j+1,om_,Z,Z,Z⟩
  clear M;refine Uy [0,1,2,3,4,5,6,7,8,9,10,11,12,13,14,15,16,17,18,19] [(18,1)] Z kr_ fun R hB a=>Ue U6<|Uc (PtrTo.block (Mem.get f mup) _) U8<|UA (0) U9 ag U2<|Uj af U9<|Us r.m_ U10 om_ (by rw [Ql,show (((t.1:Nat):Int)).toNat=t.1 from Z,pk s.1];rfl:(c.map gp)[(((t.1:Nat):Int)).toNat]?=some (gp (c.getD t.1 (0,0)))) fl_ fun aS aq=>Uc aq U8<|Ue U6<|Uc (PtrTo.block (Mem.get f mup) _) U8<|UA (1) U9 ag U2<|Uj af U9<|Us r.m_ U10 om_ (by rw [Ql,show (((t.2.1:Nat):Int)).toNat=t.2.1 from Z,pk s.2.1];rfl:(c.map gp)[(((t.2.1:Nat):Int)).toNat]?=some (gp (c.getD t.2.1 (0,0)))) fl_ fun aT ar=>Uc ar U8<|Ue U6<|Uc (PtrTo.block (Mem.get f mup) _) U8<|UA (2) U9 ag U2<|Uj af U9<|Us r.m_ U10 om_ (by rw [Ql,show (((t.2.2:Nat):Int)).toNat=t.2.2 from Z,pk s.2.2];rfl:(c.map gp)[(((t.2.2:Nat):Int)).toNat]?=some (gp (c.getD t.2.2 (0,0)))) fl_ fun aU au=>Uc au U8<|Uz (fun _=>(oI _ F.m_ (c.getD t.1 (0,0)) (c.getD t.2.1 (0,0)) (c.getD t.2.2 (0,0)) 1 dc_ dc_ (d.q _ (AY s.1)) (d.q _ (AY s.2.1)) (d.q _ (AY s.2.2)))) U9<|C4 1 [1,46,47,48,85] a Z<|Ud (fun N=>?_) fun N=>?_
  ·exfalso;rw [Ov,QD am] at N;exact absurd N dc_
  refine Uf fun R a=>Ul _ U7<|C4 1 [1,46,47,48] a Z<|G.dropAll<|Up (m':=b.length-(i+1)) om_ mup (hn_ [1,46,47,48] Z) ⟨i+1,om_,Z,Z,Z⟩
 clear L;refine Uf fun R a=>Uc (PtrTo.block (Mem.get f mup) _) U8<|Ur (tD _ F.m_ _ _ c b h0 r.m_ x.m_ d.sides d.ins d.q om_) U7 fl_<|Ug [1,88] a Z<|Ud (fun O=>?_) fun O=>?_
 ·have w:nk c b=true:=O;exact Ua 1 [2] Z<|Ui U2<|⟨by unfold yy;rw [aA h0,aH w],Z⟩
 have w:nk c b=false:=O;refine Ub 1 Z fun R a=>Uc (PtrTo.block (Mem.get f mup) _) U8<|C4 2 [1,91,92] a Z<|G.loop (fun fr C' g l=>∃ (i:Nat),(i<=b.length/\oh i X=false)/\fr=[(1,[],.pointer (some ⟨u,0,none⟩)),(91,[],.int .i64 b.length),(92,[],.int .i64 i)]/\g=[]/\l=b.length-i) (hn_ [1,91,92] Z) ⟨0,⟨Qn _,Z⟩,Z,Z,Z⟩ (fun fr aV aW m _ n=>?_);obtain ⟨i,⟨aX,B⟩,rfl,rfl,rfl⟩:=n;refine Ua 1 [1,91,92,93] Z<|Ud (fun Q=>?_) fun Q=>?_
 ·have o:i<b.length:=by simpa using Q
  refine Ua 2 [1,10,91,92] Z<|Ua 2 [1,10,91,92,95,96] Z<|G.loop (fun fr C' g l=>∃ (k:Nat),(k<=i/\(List.range k).any (fun k=>X i k)=false)/\fr=[(1,[],.pointer (some ⟨u,0,none⟩)),(10,[],.int .i64 i),(91,[],.int .i64 b.length),(92,[],.int .i64 i),(95,[],.int .i64 i),(96,[],.int .i64 k)]/\g=[]/\l=i-k) (hn_ [1,10,91,92,95,96] Z) ⟨0,⟨Qn _,Z⟩,Z,Z,Z⟩ (fun fr aY aZ m av n=>?_);obtain ⟨k,⟨a0,ad⟩,rfl,rfl,rfl⟩:=n;refine Ua 1 [1,10,91,92,95,96,97] Z<|Ud (fun S=>?_) fun S=>?_
  ·have E:k<i:=by simpa using S
   refine Ua 2 [1,10,11,91,92,95,96] Z<|Uf fun R a=>Uc (PtrTo.block (Mem.get f mup) _) U8<|Uh 2 Z<|Uo (U h0 w _ mup i k o E) U7<|Ug [1,10,91,92,95,96,102] a Z<|Ud (fun T=>?_) fun T=>?_
   ·have ax:X i k=true:=T;have hc:oh b.length X=true:=SY.2 ⟨i,QA.2 o,SY.2 ⟨k,QA.2 E,ax⟩⟩;exact Ua 1 [2] Z<|Ui U2<|⟨by unfold yy;rw [aA h0,w,aA dc_,aH hc],Z⟩
   have ay:X i k=false:=T;refine Uf fun R a=>Ul _ U7<|C4 1 [1,10,91,92,95,96] a Z<|Up (m':=i-(k+1)) om_ av (hn_ [1,10,91,92,95,96] Z) ⟨k+1,⟨by omega,by rw [Rs,List.any_append,ad];simp [ay]⟩,Z,Z,Z⟩
  have E:k=i:=by
   have:¬ k<i:=by simpa using S
   omega
  subst E;refine Uf fun R a=>Ul _ U7<|C4 1 [1,91,92] a Z<|Up (m':=b.length-(k+1)) om_ mup (hn_ [1,91,92] Z) ⟨k+1,⟨by omega,by unfold oh at B ⊢;rw [Rs,List.any_append,B];simp [ad]⟩,Z,Z,Z⟩
 have o:i=b.length:=by
  have:¬ i<b.length:=by simpa using Q
  omega
 refine Ua 1 [2] Z<|Ui U2<|⟨?_,Z⟩;rw [o] at B;unfold yy;rw [aA h0,w,aA dc_,B];rfl
structure Good (pts:List Pt)(tris:List Tri):Prop where
 ok:MeshOk pts tris
 ne:tris≠[]
 whole:nk pts tris=true
structure MeshIn (C:Mem)(mv:Value)(pts:List Pt)(tris:List Tri):Prop where
 ex:∃ v1 v2,mv=.agg ⟨[v1,v2]⟩/\Sl C 2 v1 (pts.map gp)/\Sl C 3 v2 (tris.map kC)
theorem MeshIn.mono {C D:Mem}{a:Value}{b:List Pt}{c:List Tri}(h:MeshIn C a b c)(d:C.le D):MeshIn D a b c:=by
 obtain ⟨e,f,h1,h2,h3⟩:=h.ex;exact ⟨e,f,h1,h2.mono d,h3.mono d⟩
theorem MeshIn.m_ {D:Mem}{a:Value}(h:MeshIn C a pts tris)(b:C.le D:=by exact mup):MeshIn D a pts tris:=MeshIn.mono h b
def nox:Nat->Nat->Bool:=fun _ _=>false
theorem jO (C:Mem)(f:Tabs C)(d:Value)(a:List Pt)(b:List Tri)(g:MeshIn C d a b)(c:Good a b):Gives cx.P 66 [d] C (.int .i64 0):=by
 obtain ⟨i,j,rfl,h1,h2⟩:=g.ex;have h:=Gk C f i j a b nox h1 h2 c.ok (fun _ h3=>by rw [c.whole] at h3;cases h3);have e:yy a b nox=0:=by unfold yy;rw [aA c.ne,aH c.whole]
 rwa [e] at h
def cor (pts:List Pt)(t:Tri)(j:Nat):Pt:=pts.getD (mD t j) (0,0)
def yE (pts:List Pt)(p:Pt)(t:Tri):Bool:=decide (0<=dE (cor pts t 0) (cor pts t 1) p) && decide (0<=dE (cor pts t 1) (cor pts t 2) p) && decide (0<=dE (cor pts t 2) (cor pts t 0) p)
def lP (pts:List Pt)(tris:List Tri)(p:Pt):List Nat:=(List.range tris.length).filter fun i=>yE pts p (tris.getD i (0,0,0))
theorem nB (h:MeshOk pts tris)(a:t∈tris)(j:Nat):QP 1 (cor pts t j):=h.q _ (AY (fc (h.ins t a) j))
theorem QP.le {k m:Nat}{p:Pt}(h:QP k p)(a:k<=m):QP m p:=⟨h.1.le a,h.2.le a⟩
theorem sK (C:Mem)(d:Value)(a:List Pt)(b:List Tri)(f:MeshIn C d a b)(g:MeshOk a b)(i:Nat)(t:Tri)(e:b[i]?=some t) :
  Gives cx.P 156 [d,.int .i64 i] C (NH (cor a t 0) (cor a t 1) (cor a t 2)):=by
 obtain ⟨h,j,rfl,h1,h2⟩:=f.ex;have c:=g.ins t (Qi e);exact DR C h j a b i t _ _ _ h1 h2 e (pk c.1) (pk c.2.1) (pk c.2.2)
theorem Fu (h:QP k p)(a:k<=1000):(qtx p.1).length<=999998/\(qtx p.2).length<=999998:=by
 have h1:=bK (h.1.le (SJ k)) om_;have h2:=bK (h.2.le (SJ k)) om_;exact ⟨by omega,by omega⟩
def PtR (p:Pt):Prop:=ba (qtx p.1)=true/\ba (qtx p.2)=true
theorem iv (C:Mem)(c:Tabs C)(p:Pt)(a:QP 23 p)(b:PtR p):Gives cx.P 99 [ptV p] C (.int .i64 0):=by
 have h:=iw C c (qtx p.1) (qtx p.2) (Fu a dc_).1 (Fu a dc_).2;rw [b.1,b.2] at h;exact h
theorem pM (C:Mem)(f:Tabs C)(A:Value)(c:List Pt)(a:List Tri)(p:Pt)(B:MeshIn C A c a)(E:Good c a)(F:QP 23 p)(g:PtR p) :
  Pur cx.P 149 [A,ptV p] C fun u D=>∃ v,u=.tuple #[v,.int .i64 0]/\Sl D 1 v ((lP c a p).map aO):=by
 have d:=E.ok;have V:=d.lt;have W:maxLen<=9223372036854775807:=by simp [maxLen]
 have h:=B;obtain ⟨X,Y,rfl,h1,h2⟩:=id B.ex;obtain ⟨A1,c1,rfl,aa,ab,_⟩:=id h1;obtain ⟨A2,c2,rfl,ac,ad,_⟩:=id h2;simp only [aw] at h1 h2 h ⊢;refine Uk func149 34 U3 fun w0=>Uf fun R b=>Uw U6 fun N=>Uw U6 fun O=>C4 2 [2,3] b Z<|G.freeze 1 Z fun _ _ k=>G.freeze 0 Z fun _ _ H=>Uf fun R b=>Uc (PtrTo.block (Mem.get k mup) _) U8<|Uo (jO _ f.m_ _ c a h.m_ E) U7<|C4 1 [2,3,6] b Z<|Ua 2 [2,3,6,12] Z<|Ud (fun I=>?_) fun I=>?_
 ·exact absurd I dc_
 refine Uf fun R b=>Uc (PtrTo.block (Mem.get H mup) _) U8<|Uo (iv _ f.m_ p F g) U7<|C4 1 [2,3,16] b Z<|Ud (fun J=>?_) fun J=>?_
 ·exact absurd J dc_
 refine Ua 1 [2,3,7] Z<|Ub 1 Z fun R b=>Uc (PtrTo.block (Mem.get k mup) _) U8<|C4 2 [2,3,7,19,20] b Z<|G.nilArr 3 1<|G.loop (fun fr C' K Q=>∃ (i:Nat)(out:List Nat)(w:Value),(i<=a.length/\out=(List.range i).filter (fun i=>yE c p (a.getD i (0,0,0))))/\fr=[(2,[],.pointer (some ⟨N,0,none⟩)),(3,[],.pointer (some ⟨O,0,none⟩)),(7,[],w),(19,[],.int .i64 a.length),(20,[],.int .i64 i)]/\K=[.arr w 3 1 out.length (out.map aO).flatten]/\Q=a.length-i) (hn_ [2,3,7,19,20] Z) ⟨0,[],_,⟨Qn _,Z⟩,Z,Z,Z⟩ (fun fr ae af m _ S=>?_);obtain ⟨i,out,w,⟨hi,e⟩,rfl,rfl,rfl⟩:=S;refine Ua 1 [2,3,7,19,20,21] Z<|Ud (fun l=>?_) fun l=>?_
 ·have n:i<a.length:=by simpa using l
  obtain ⟨t,o⟩:∃ t,a[i]?=some t:=⟨a[i],ak n⟩;have q:=Qi o;have L:a.getD i (0,0,0)=t:=by rw [al,o];rfl
  have ag:out.length<=i:=by
   rw [e];exact QE (RE _ _) am
  refine Ua 2 [2,3,7,8,19,20] Z<|Uy [0,1,2,3,4] [(2,1),(4,1)] Z kr_ fun R hB b=>Uc (PtrTo.block (Mem.get k mup) _) U8<|Ue U6<|UJ (fun _=>(sK _ _ c a h.m_ d i t o)) U9<|Uc (PtrTo.block (Mem.get H mup) _) U8<|Uz (fun _=>(GM _ f.m_ (cor c t 0) (cor c t 1) (cor c t 2) p 23 dc_ dc_ ((nB d q 0).le dc_) ((nB d q 1).le dc_) ((nB d q 2).le dc_) F)) U9<|Ug [2,3,7,8,19,20,27] b Z<|Ud (fun s=>?_) fun s=>?_
  ·have x:yE c p t=true:=s;have z:(List.range (i+1)).filter (fun i=>yE c p (a.getD i (0,0,0)))=out++[i]:=by rw [Rs,RW,<- e,List.filter_cons,L,x];rfl
   refine Ub 2 Z fun R b=>Ux [aO i] U12 fun ah _ _ T=>D.append (j:=0) U11 T Z ax (by simp only [PH];omega) fl_ fun M=>C4 1 [2,3,7,19,20] b Z<|Uf fun R b=>Ul _ U7<|C4 1 [2,3,7,19,20] b Z<|Ut (L':=[.arr M 3 1 (out++[i]).length ((out++[i]).map aO).flatten]) (by simp [aO])<|Up (m':=a.length-(i+1)) om_ mup (hn_ [2,3,7,19,20] Z) ⟨i+1,out++[i],M,⟨by omega,z.symm⟩,Z,Z,Z⟩
  have x:yE c p t=false:=s;have z:(List.range (i+1)).filter (fun i=>yE c p (a.getD i (0,0,0)))=out:=by rw [Rs,RW,<- e,List.filter_cons,L,x];simp
  refine Uf fun R b=>Ul _ U7<|C4 1 [2,3,7,19,20] b Z<|Up (m':=a.length-(i+1)) om_ mup (hn_ [2,3,7,19,20] Z) ⟨i+1,out,w,⟨by omega,z.symm⟩,Z,Z,Z⟩
 have n:i=a.length:=by
  have:¬ i<a.length:=by simpa using l
  omega
 refine Ua 3 [4,5] Z<|G.freezeArr 0 (out.map aO) rfl rfl (by intro r g;obtain ⟨y,_,rfl⟩:=Qt.1 g;rfl) am fun Cg hg U=>Un (G.dropAll (UC U3 ?_));refine ⟨Z,_,Z, ?_⟩;rw [n] at e;unfold lP;rw [<- e];exact U
theorem qB (C:Mem)(g:Tabs C)(d:Value)(a:List Pt)(b:List Tri)(p:Pt)(e:MeshIn C d a b)(h:Good a b)(i:QP 23 p)(j:PtR p) :
  Gives cx.P 97 [d,ptV p] C (.tuple #[.bool (decide (lP a b p≠[])),.int .i64 0]):=by
 have k:=e;obtain ⟨n,o,rfl,h1,h2⟩:=id e.ex;refine Uk func97 18 U3 fun w0=>Uf fun R c=>Uw U6 fun q=>Uw U6 fun r=>C4 2 [2,3] c Z<|Uf fun R c=>Uj ae U9<|Uj af U9<|UM (pM _ g.m_ _ a b p k.m_ h i j) U7 (fun s _ _ l=>?_);obtain ⟨t,rfl,m⟩:=l;obtain ⟨u,v,f,_⟩:=id m;rw [aw] at f;subst f;refine C4 5 [6,7] c Z<|Ua 6 [4,5] Z<|Un (G.dropAll (UC U3 ?_));refine ⟨?_,Z⟩;have:decide (((lP a b p).length:Int) > 0)=decide (lP a b p≠[]):=by
  rw [Q7,<- Q3];omega
 rw [<- this]
theorem zg (C:Mem)(j:Tabs C)(d:Value)(c:List Pt)(b:List Tri)(i:Nat)(e:MeshIn C d c b)(k:Good c b)(l:i<b.length) :
  Gives cx.P 273 [d,.int .i64 i] C (.int .i64 0):=by
 have f:=e;obtain ⟨m,n,rfl,h1,h2⟩:=id e.ex;obtain ⟨A2,c2,rfl,o,p,_⟩:=id h2;simp only [aw] at h1 h2 f ⊢;refine Uk func273 20 U3 fun w0=>Uf fun R a=>Uw U6 fun q=>C4 1 [1,2] a Z<|Uf fun R a=>Uj af U9<|Uo (jO _ j.m_ _ c b f.m_ k) U7<|C4 1 [1,2,5] a Z<|Ua 2 [1,2,5,9] Z<|Ud (fun g=>?_) fun g=>?_
 ·exact absurd g dc_
 refine Ub 5 Z fun R a=>Uj af U9<|Uh 2 Z<|UF U8<|Ug [19] a Z<|Ud (fun h=>?_) fun h=>?_
 ·exfalso;simp only [RY,Qs] at h;omega
 exact Ua 1 [4] Z<|Ui U2<|⟨Z,Z⟩
def wgt (pts:List Pt)(t:Tri)(p:Pt)(j:Nat):Rat:=dE p (cor pts t ((j+1) % 3)) (cor pts t ((j+2) % 3)) / dE (cor pts t 0) (cor pts t 1) (cor pts t 2)
theorem jN (a:MeshOk pts tris)(b:t∈tris):dE (cor pts t 0) (cor pts t 1) (cor pts t 2)≠0:=by
 have h:=a.pos t b;intro e;have c:dE (pts.getD t.1 (0,0)) (pts.getD t.2.1 (0,0)) (pts.getD t.2.2 (0,0))=0:=e;rw [c] at h;exact absurd h dc_
theorem E9 (C:Mem)(g:Tabs C)(x:Value)(c:List Pt)(h:List Tri)(p:Pt)(i:Nat)(t:Tri)(y:MeshIn C x c h)(z:Good c h)(l:QP 23 p)(O:PtR p)(o:h[i]?=some t)(q:∀ j,QB 22 (wgt c t p j)) :
  Gives cx.P 239 [x,.int .i64 i,ptV p] C (.tuple #[.agg ⟨[ah (qtx (wgt c t p 0)),ah (qtx (wgt c t p 1)),ah (qtx (wgt c t p 2))]⟩,.int .i64 0]):=by
 have r:=z.ok;have A:=Qi o;have Q:=(aF.1 o).1;have B:=y;obtain ⟨v1,v2,rfl,h1,h2⟩:=id y.ex;have e:=fun j=>(nB r A j).le (show 1<=23 by decide);have s:=jN r A;have u:∀ a b,QP 23 a->QP 23 b->QB 189 (dE p a b):=fun a b S T=>(zr l S T).le dc_;have v:QB 189 (dE (cor c t 0) (cor c t 1) (cor c t 2)):=(zr (e 0) (e 1) (e 2)).le dc_;refine Uk func239 69 U3 fun w0=>Uf fun R d=>Uw U6 fun b3=>Uw U6 fun U=>Uv U5 fun D=>C4 1 [1,3,5,6] d Z<|G.freeze 2 Z fun _ _ E=>G.freeze 1 Z fun _ _ n=>Uf fun R d=>Uc (PtrTo.block (Mem.get E mup) _) U8<|Ue U6<|Uo (zg _ g.m_ _ c h i B.m_ z Q) U7<|C4 1 [1,3,5,6,8] d Z<|Ua 2 [1,3,5,6,8,18] Z<|Ud (fun F=>?_) fun F=>?_
 ·exact absurd F dc_
 refine Uf fun R d=>Uc (PtrTo.block (Mem.get n mup) _) U8<|Uo (iv _ g.m_ p l O) U7<|C4 1 [1,3,5,6,23] d Z<|Ud (fun H=>?_) fun H=>?_
 ·exact absurd H dc_
 refine Uf fun R d=>Uc (PtrTo.block (Mem.get E mup) _) U8<|Ue U6<|Uo (sK _ _ c h B.m_ r i t o) U7<|Uv U5 fun V=>Um (j:=0) U12<|Ug [5,6,9] d Z<|G.freeze 0 Z fun _ _ f=>Uf fun R d=>Uv U5 fun I=>Ug [5,6,9,10] d Z<|Ua 1 [5,6,9,10,28] Z<|G.loop (fun fr C' W X=>∃ (j:Nat),(j<=3)/\fr=[(5,[],.pointer (some ⟨U,0,none⟩)),(6,[],.pointer (some ⟨D,0,none⟩)),(9,[],.pointer (some ⟨V,0,none⟩)),(10,[],.pointer (some ⟨I,0,none⟩)),(28,[],.int .i64 j)]/\W=[.obj I (.cells ⟨(List.range 3).map fun k=>if k<j then ah (qtx (wgt c t p k)) else ah []⟩ 328 (0,0)),.obj D (.cells ⟨[ah [],ah [],ah []]⟩ 328 (0,0))]/\X=3-j) (hn_ [5,6,9,10,28] Z) ⟨0,Qn _,Z,Z,Z⟩ (fun fr aa ab m _ Y=>?_);obtain ⟨j,hj,rfl,rfl,rfl⟩:=Y;refine Ua 1 [5,6,9,10,28,29] Z<|Ud (fun w=>?_) fun w=>?_
 ·have J:j<3:=by
   simp only [Qs] at w;omega
  rcases (by omega:j=0∨j=1∨j=2) with rfl | rfl | rfl
  ·refine Ua 2 [5,6,9,10,11,28] Z<|Uy [0,1,2,3,4,5,6,7,8,9,10,11,12,13,14,15,16,17,18,19,20,21,22,23,24,25] [(12,1),(19,1),(20,1)] Z kr_ fun R K d=>Ue U6<|Uc (PtrTo.block (Mem.get n mup) _) U8<|Ue U6<|Ul _ U7<|Vk U6 om_ om_ U2<|UA (_) U9 ag U2<|Uc (bkT f 2) U8<|Ue U6<|Ul _ U7<|Vk U6 om_ om_ U2<|UA (_) U9 ag U2<|Uc (bkT f 2) U8<|Uz (fun _=>(kV _ g.m_ p (cor c t ((0+1) % 3)) (cor c t ((0+2) % 3)) 23 dc_ dc_ l (e _) (e _))) U9<|UA (0) U9 ag U2<|Uc (bkT f 2) U8<|UA (2) U9 ag U2<|Uc (bkT f 2) U8<|UA (4) U9 ag U2<|Uc (bkT f 2) U8<|Uz (fun _=>(kV _ g.m_ (cor c t 0) (cor c t 1) (cor c t 2) 23 dc_ dc_ (e 0) (e 1) (e 2))) U9<|Uz (fun _=>(gT _ g.m_ _ _ 189 dc_ dc_ (u _ _ (e _) (e _)) v s)) U9<|Uh 3 Z<|UA (_) U9 ag U2<|Um (j:=0) U12<|Ug [5,6,9,10,11,28] d Z<|Ub 1 Z fun R d=>UA (_) U9 ag U2<|Uj af U9<|Uo (tP _ g.m_ (wgt c t p 0) (q 0)) U7<|C4 5 [5,6,9,10,13,28] d Z<|Ua 2 [5,6,9,10,13,28,64] Z<|Ud (fun L=>?_) fun L=>?_
   ·exact absurd L dc_
   refine Uf fun R d=>Ul _ U7<|C4 1 [5,6,9,10,28] d Z<|Up (m':=2) om_ mup (hn_ [5,6,9,10,28] Z) ⟨1,by decide,Z,Z,Z⟩
  ·refine Ua 2 [5,6,9,10,11,28] Z<|Uy [0,1,2,3,4,5,6,7,8,9,10,11,12,13,14,15,16,17,18,19,20,21,22,23,24,25] [(12,1),(19,1),(20,1)] Z kr_ fun R K d=>Ue U6<|Uc (PtrTo.block (Mem.get n mup) _) U8<|Ue U6<|Ul _ U7<|Vk U6 om_ om_ U2<|UA (_) U9 ag U2<|Uc (bkT f 2) U8<|Ue U6<|Ul _ U7<|Vk U6 om_ om_ U2<|UA (_) U9 ag U2<|Uc (bkT f 2) U8<|Uz (fun _=>(kV _ g.m_ p (cor c t ((1+1) % 3)) (cor c t ((1+2) % 3)) 23 dc_ dc_ l (e _) (e _))) U9<|UA (0) U9 ag U2<|Uc (bkT f 2) U8<|UA (2) U9 ag U2<|Uc (bkT f 2) U8<|UA (4) U9 ag U2<|Uc (bkT f 2) U8<|Uz (fun _=>(kV _ g.m_ (cor c t 0) (cor c t 1) (cor c t 2) 23 dc_ dc_ (e 0) (e 1) (e 2))) U9<|Uz (fun _=>(gT _ g.m_ _ _ 189 dc_ dc_ (u _ _ (e _) (e _)) v s)) U9<|Uh 3 Z<|UA (_) U9 ag U2<|Um (j:=0) U12<|Ug [5,6,9,10,11,28] d Z<|Ub 1 Z fun R d=>UA (_) U9 ag U2<|Uj af U9<|Uo (tP _ g.m_ (wgt c t p 1) (q 1)) U7<|C4 5 [5,6,9,10,13,28] d Z<|Ua 2 [5,6,9,10,13,28,64] Z<|Ud (fun M=>?_) fun M=>?_
   ·exact absurd M dc_
   refine Uf fun R d=>Ul _ U7<|C4 1 [5,6,9,10,28] d Z<|Up (m':=1) om_ mup (hn_ [5,6,9,10,28] Z) ⟨2,by decide,Z,Z,Z⟩
  refine Ua 2 [5,6,9,10,11,28] Z<|Uy [0,1,2,3,4,5,6,7,8,9,10,11,12,13,14,15,16,17,18,19,20,21,22,23,24,25] [(12,1),(19,1),(20,1)] Z kr_ fun R K d=>Ue U6<|Uc (PtrTo.block (Mem.get n mup) _) U8<|Ue U6<|Ul _ U7<|Vk U6 om_ om_ U2<|UA (_) U9 ag U2<|Uc (bkT f 2) U8<|Ue U6<|Ul _ U7<|Vk U6 om_ om_ U2<|UA (_) U9 ag U2<|Uc (bkT f 2) U8<|Uz (fun _=>(kV _ g.m_ p (cor c t ((2+1) % 3)) (cor c t ((2+2) % 3)) 23 dc_ dc_ l (e _) (e _))) U9<|UA (0) U9 ag U2<|Uc (bkT f 2) U8<|UA (2) U9 ag U2<|Uc (bkT f 2) U8<|UA (4) U9 ag U2<|Uc (bkT f 2) U8<|Uz (fun _=>(kV _ g.m_ (cor c t 0) (cor c t 1) (cor c t 2) 23 dc_ dc_ (e 0) (e 1) (e 2))) U9<|Uz (fun _=>(gT _ g.m_ _ _ 189 dc_ dc_ (u _ _ (e _) (e _)) v s)) U9<|Uh 3 Z<|UA (_) U9 ag U2<|Um (j:=0) U12<|Ug [5,6,9,10,11,28] d Z<|Ub 1 Z fun R d=>UA (_) U9 ag U2<|Uj af U9<|Uo (tP _ g.m_ (wgt c t p 2) (q 2)) U7<|C4 5 [5,6,9,10,13,28] d Z<|Ua 2 [5,6,9,10,13,28,64] Z<|Ud (fun N=>?_) fun N=>?_
  ·exact absurd N dc_
  refine Uf fun R d=>Ul _ U7<|C4 1 [5,6,9,10,28] d Z<|Up (m':=0) om_ mup (hn_ [5,6,9,10,28] Z) ⟨3,by decide,Z,Z,Z⟩
 have J:j=3:=by
  simp only [QG] at w;omega
 subst J;refine Uf fun R d=>Uj af U9<|Um (j:=1) U12<|C4 1 [6,7] d Z<|Un (Vm af U5 ?_);exact ⟨Z,Z⟩
theorem bV {f:α->List Value}{l:List α}{x:α}(h:l[i]?=some x):(l.map f)[i]?=some (f x):=by rw [Ql,h];rfl
def BH (n:Nat)(l:List Str):Int:=if l.length=n then qF (l.all ba) else 5
theorem xA (C:Mem)(y:Tabs C)(z v A:Value)(b:List Pt)(f:List Tri)(l:List Str)(B:MeshIn C z b f)(D:Good b f)(g:Sl C 1 v [[A]])(k:Sl C 1 A (l.map nL))(N:∀ s∈l,s.length<=999998) :
  Gives cx.P 103 [z,v] C (.int .i64 (BH b.length l)):=by
 have E:=B;have Y:=D.ok.lp;obtain ⟨v1,v2,rfl,h1,h2⟩:=id B.ex;obtain ⟨A1,c1,rfl,aa,ab,_⟩:=id h1;obtain ⟨F,H,rfl,ac,ad,_⟩:=id g;obtain ⟨n,o,rfl,O,ae,_⟩:=id k;have af:maxLen<=9223372036854775807:=by simp [maxLen]
 simp only [aw,PH] at h1 g k E O ⊢;refine Uk func103 41 U3 fun w0=>Uf fun R a=>Uw U6 fun I=>C4 1 [1,2] a Z<|G.freeze 0 Z fun _ _ J=>Uf fun R a=>Uc (PtrTo.block (Mem.get J mup) _) U8<|Uo (jO _ y.m_ _ b f E.m_ D) U7<|C4 1 [1,2,5] a Z<|Ua 2 [1,2,5,14] Z<|Ud (fun K=>?_) fun K=>?_
 ·exact absurd K dc_
 refine Ua 3 [2,16,17,18] Z<|G.loop (fun fr C' p q=>∃ (i:Nat),(i<=1/\(i=1->l.length=b.length/\l.all ba=true))/\fr=[(2,[],.pointer (some ⟨I,0,none⟩)),(16,[],.slice F 1 H),(17,[],.int .i64 1),(18,[],.int .i64 i)]/\p=[]/\q=1-i) (hn_ [2,16,17,18] Z) ⟨0,⟨Qn _,fun h=>absurd h dc_⟩,Z,Z,Z⟩ (fun fr ag ah m _ r=>?_);obtain ⟨i,⟨hi,Q⟩,rfl,rfl,rfl⟩:=r;refine Ua 1 [2,16,17,18,19] Z<|Ud (fun t=>?_) fun t=>?_
 ·obtain rfl:i=0:=by
   simp only [Qs] at t;omega
  refine Uf fun R a=>Us g.m_ U10 om_ (rfl:([[.slice n l.length o]]:List (List Value))[0]?=some [.slice n l.length o]) fl_ fun ai S=>Uc S U8<|C4 1 [2,7,16,17,18] a Z<|Ub 3 Z fun R a=>Uc (PtrTo.block (Mem.get J mup) _) U8<|C4 2 [2,7,16,17,18,27] a Z<|Ud (fun d=>?_) fun d=>?_
  ·have T:l.length≠b.length:=by
    intro e;rw [e] at d;simp at d
   exact Ua 1 [4] Z<|Ui U2<|⟨by unfold BH;rw [aA T],Z⟩
  have L:l.length=b.length:=by
   have h:((l.length:Nat):Int)=(b.length:Nat):=by simpa using d
   omega
  refine Ua 3 [2,16,17,18,28,29,30] Z<|G.loop (fun fr C' p q=>∃ (j:Nat),(j<=l.length/\(l.take j).all ba=true)/\fr=[(2,[],.pointer (some ⟨I,0,none⟩)),(16,[],.slice F 1 H),(17,[],.int .i64 1),(18,[],.int .i64 0),(28,[],.slice n l.length o),(29,[],.int .i64 l.length),(30,[],.int .i64 j)]/\p=[]/\q=l.length-j) (hn_ [2,16,17,18,28,29,30] Z) ⟨0,⟨Qn _,by simp⟩,Z,Z,Z⟩ (fun fr aj al m U r=>?_);obtain ⟨j,⟨hj,u⟩,rfl,rfl,rfl⟩:=r;refine Ua 1 [2,16,17,18,28,29,30,31] Z<|Ud (fun w=>?_) fun w=>?_
  ·have x:j<l.length:=by simpa using w
   obtain ⟨s,hs⟩:∃ s,l[j]?=some s:=⟨l[j],ak x⟩;refine Uf fun R a=>Us k.m_ U10 om_ (bV hs) fl_ fun am V=>Uc V U8<|C4 1 [2,9,16,17,18,28,29,30] a Z<|Ub 1 Z fun R a=>Uo (dV _ y.m_ s (N s (Qi hs))) U7<|C4 1 [2,10,16,17,18,28,29,30] a Z<|Ua 2 [2,10,16,17,18,28,29,30,37] Z<|Ud (fun c=>?_) fun c=>?_
   ·have M:ba s=false:=by
     rcases gM (ba s) with ⟨h1,h2⟩ | ⟨h1,h2⟩
     ·rw [h1] at c;exact absurd c dc_
     exact h2
    refine Ua 2 [4] Z<|Ui U2<|⟨?_,Z⟩;unfold BH;rw [aH L,M,show l.all ba=false from SC.2 ⟨s,Qi hs,by rw [M];decide⟩]
   have W:ba s=true:=by
    rcases gM (ba s) with ⟨h1,h2⟩ | ⟨h1,h2⟩
    ·exact h2
    rw [h1] at c;exact absurd c dc_
   refine Uf fun R a=>Ul _ U7<|C4 1 [2,16,17,18,28,29,30] a Z<|Up (m':=l.length-(j+1)) om_ U (hn_ [2,16,17,18,28,29,30] Z) ⟨j+1,⟨by omega,by rw [QJ,hs,Tm,u];simp [W]⟩,Z,Z,Z⟩
  have x:j=l.length:=by
   have:¬ j<l.length:=by simpa using w
   omega
  refine Uf fun R a=>Ul _ U7<|C4 1 [2,16,17,18] a Z<|Up (m':=0) om_ mup (hn_ [2,16,17,18] Z) ⟨1,⟨Qj _,fun _=>⟨L,by rw [x,Qv] at u;exact u⟩⟩,Z,Z,Z⟩
 have X:i=1:=by
  simp only [QG] at t;omega
 refine Ua 1 [4] Z<|Ui U2<|⟨?_,Z⟩;obtain ⟨h3,h4⟩:=Q X;unfold BH;rw [aH h3,h4];rfl
theorem uG (C:Mem)(h:Tabs C)(e f:Value)(a:List Pt)(b:List Tri)(l:List Str)(g:MeshIn C e a b)(i:Good a b)(c:Sl C 1 f (l.map nL))(j:∀ s∈l,s.length<=999998) :
  Gives cx.P 67 [e,f] C (.int .i64 (BH a.length l)):=by
 have k:=g;obtain ⟨p,q,rfl,h1,h2⟩:=id g.ex;obtain ⟨m,n,rfl,r,t,_⟩:=id c;simp only [aw] at c ⊢;exact Uk func67 9 U3 fun w0=>Uf fun R d=>Uw U6 fun u=>C4 1 [1,2] d Z<|Uf fun R d=>Uj af U9<|Ue U6<|Ux [[.slice m l.length n]] U12 fun v _ _ o=>Uo (xA _ h.m_ _ _ _ a b l k.m_ i o.m_ c.m_ j) U7<|C4 1 [4] d Z<|Ui U2<|⟨Z,Z⟩
def fw (q:Rat):List Value:=[ah (qtx q)]
def fz (fs:List Rat)(t:Tri)(j:Nat):Rat:=fs.getD (mD t j) 0
def yX (pts:List Pt)(fs:List Rat)(t:Tri)(j:Nat):List Value:=gp (cor pts t j)++fw (fz fs t j)
theorem G2 (h:i<fs.length):fs[i]?=some (fs.getD i 0):=by
 rw [al,ak h];rfl
theorem yQ (C:Mem)(r s:Value)(b:List Pt)(l:List Tri)(c:List Rat)(z:MeshIn C r b l)(A:MeshOk b l)(e:Sl C 1 s (c.map fw))(n:c.length=b.length)(i:Nat)(t:Tri)(o:l[i]?=some t) :
  Gives cx.P 298 [r,s,.int .i64 i] C (.agg ⟨yX b c t 0++yX b c t 1++yX b c t 2⟩):=by
 have d:=A.ins t (Qi o);obtain ⟨M,N,rfl,h1,h2⟩:=id z.ex;obtain ⟨O,Q,rfl,B,S,_⟩:=id h1;obtain ⟨A2,c2,rfl,D,T,_⟩:=id h2;obtain ⟨E,F,rfl,U,V,_⟩:=id e;have W:maxLen<=9223372036854775807:=by simp [maxLen]
 simp only [aw] at h1 h2 e B D ⊢;have X:=(aF.1 o).1;refine Uk func298 32 U3 fun w0=>?_;refine Uf fun R a=>?_;refine Uw U6 (fun H=>?_);refine Uv U5 (fun u=>?_);refine Ug [1,2,3,6] a Z ?_;refine G.freeze 1 Z (fun _ _ h=>?_);refine Ub 1 Z fun R a=>?_;refine Uc (PtrTo.block (Mem.get h mup) _) U8 ?_;refine Ue U6 ?_;refine Us h2.m_ U10 om_ (bV o) fl_ (fun Y I=>?_);refine Uc I U8 ?_;refine C4 1 [1,3,6,13,14] a Z ?_;refine G.loop (fun fr C' J K=>∃ (j:Nat),(j<=3)/\fr=[(1,[],.slice E c.length F),(3,[],.pointer (some ⟨H,0,none⟩)),(6,[],.pointer (some ⟨u,0,none⟩)),(13,[],.agg ⟨kC t⟩),(14,[],.int .i64 j)]/\J=[.obj u (.cells ⟨(List.range 3).flatMap fun k=>if k<j then yX b c t k else [ah [],ah [],ah []]⟩ 391 (0,0))]/\K=3-j) (hn_ [1,3,6,13,14] Z) ⟨0,Qn _,Z,Z,Z⟩ (fun fr aa ab m p L=>?_);obtain ⟨j,hj,rfl,rfl,rfl⟩:=L;refine Ua 1 [1,3,6,13,14,15] Z ?_;refine Ud (fun q=>?_) fun q=>?_
 ·have v:j<3:=by
   simp only [Qs] at q;omega
  rcases (by omega:j=0∨j=1∨j=2) with rfl | rfl | rfl
  ·refine Ub 1 Z fun R a=>?_;refine Ve U11 ag U2 ?_;refine C4 2 [1,3,6,7,8,13,14] a Z ?_;refine Uy [0,1,2,3,4,5,6,7,8,9,10,11,12] [] Z kr_ (fun R w a=>?_);refine Uh 2 Z ?_;refine Uc (PtrTo.block (Mem.get h mup) _) U8 ?_;refine Ue U6 ?_;refine Us h1.m_ U10 om_ (bV (pk (fc d 0))) fl_ (fun x f=>?_);refine Uc f U8 ?_;refine Uh 2 Z ?_;refine Us e.m_ U10 om_ (bV (G2 (n ▸ fc d 0))) fl_ (fun y g=>?_);refine Uc g U8 ?_;refine Uu (yX b c t 0) U8 ?_;refine UA (_) U9 ag U2 ?_;refine Um (j:=0) U12 ?_;refine Ug [1,3,6,13,14] a Z ?_;refine Uf fun R a=>?_;refine Ul _ U7 ?_;refine C4 1 [1,3,6,13,14] a Z ?_;refine Up (m':=2) om_ p (hn_ [1,3,6,13,14] Z) ⟨1,by decide,Z,Z,Z⟩
  ·refine Ub 1 Z fun R a=>?_;refine Ve U11 ag U2 ?_;refine C4 2 [1,3,6,7,8,13,14] a Z ?_;refine Uy [0,1,2,3,4,5,6,7,8,9,10,11,12] [] Z kr_ (fun R w a=>?_);refine Uh 2 Z ?_;refine Uc (PtrTo.block (Mem.get h mup) _) U8 ?_;refine Ue U6 ?_;refine Us h1.m_ U10 om_ (bV (pk (fc d 1))) fl_ (fun x f=>?_);refine Uc f U8 ?_;refine Uh 2 Z ?_;refine Us e.m_ U10 om_ (bV (G2 (n ▸ fc d 1))) fl_ (fun y g=>?_);refine Uc g U8 ?_;refine Uu (yX b c t 1) U8 ?_;refine UA (_) U9 ag U2 ?_;refine Um (j:=0) U12 ?_;refine Ug [1,3,6,13,14] a Z ?_;refine Uf fun R a=>?_;refine Ul _ U7 ?_;refine C4 1 [1,3,6,13,14] a Z ?_;refine Up (m':=1) om_ p (hn_ [1,3,6,13,14] Z) ⟨2,by decide,Z,Z,Z⟩
  refine Ub 1 Z fun R a=>?_;refine Ve U11 ag U2 ?_;refine C4 2 [1,3,6,7,8,13,14] a Z ?_;refine Uy [0,1,2,3,4,5,6,7,8,9,10,11,12] [] Z kr_ (fun R w a=>?_);refine Uh 2 Z ?_;refine Uc (PtrTo.block (Mem.get h mup) _) U8 ?_;refine Ue U6 ?_;refine Us h1.m_ U10 om_ (bV (pk (fc d 2))) fl_ (fun x f=>?_);refine Uc f U8 ?_;refine Uh 2 Z ?_;refine Us e.m_ U10 om_ (bV (G2 (n ▸ fc d 2))) fl_ (fun y g=>?_);refine Uc g U8 ?_;refine Uu (yX b c t 2) U8 ?_;refine UA (_) U9 ag U2 ?_;refine Um (j:=0) U12 ?_;refine Ug [1,3,6,13,14] a Z ?_;refine Uf fun R a=>?_;refine Ul _ U7 ?_;refine C4 1 [1,3,6,13,14] a Z ?_;refine Up (m':=0) om_ p (hn_ [1,3,6,13,14] Z) ⟨3,by decide,Z,Z,Z⟩
 have v:j=3:=by
  simp only [QG] at q;omega
 subst v;refine Uf fun R a=>?_;refine Uj af U9 ?_;refine Um (j:=0) U12 ?_;refine Ug [6] a Z ?_;refine Un (UU af U4 ?_);exact ⟨Z,Z⟩
/-! Finer bounds. -/
theorem jq (c:QB k a)(d:QB m b):QB (k+m) (a*b):=by
 rw [gx];refine hU (Nat.mul_ne_zero a.den_nz b.den_nz) ?_ ?_
 ·rw [RX,Ti];exact Sg c.1 d.1
 rw [Ti];exact Sg c.2 d.2
theorem vk (c:QB k a)(d:QB m b):QB (k+m+1) (a+b):=by
 rw [jF];have e:B9 ^ (k+m+1)=B9 ^ k*B9 ^ m*B9:=by rw [Rv,Ti]
 have f:(a.num*b.den).natAbs<B9 ^ k*B9 ^ m:=by rw [RX,Q4];exact Sg c.1 d.2
 have g:(b.num*a.den).natAbs<B9 ^ k*B9 ^ m:=by rw [RX,Q4,Q5];exact Sg c.2 d.1
 have h:a.den*b.den<B9 ^ k*B9 ^ m:=Sg c.2 d.2;have i:2*(B9 ^ k*B9 ^ m)<=B9 ^ k*B9 ^ m*B9:=by
  rw [Q5];exact RL _ dc_
 refine hU (Nat.mul_ne_zero a.den_nz b.den_nz) ?_ ?_
 ·rw [e];have:=S7 (a.num*b.den) (b.num*a.den);omega
 rw [e];omega
theorem fh (c:QB k a)(d:QB m b):QB (k+m+1) (a-b):=by
 rw [TT];exact vk c (fa d)
theorem QB_one:QB 1 1:=⟨by decide,by decide⟩
theorem QB_zero:QB 1 0:=⟨by decide,by decide⟩
def eF (a b c d:Rat):Rat:=a*d-b*c
theorem pY (C:Mem)(e:Tabs C)(a b c d:Rat)(k:Nat)(f:0<k)(m:k<=2000)(g:QB k a)(h:QB k b)(i:QB k c)(j:QB k d):Gives cx.P 299 [ah (qtx a),ah (qtx b),ah (qtx c),ah (qtx d)] C (ah (qtx (eF a b c d))):=by
 exact Uk func299 16 U3 fun w0=>Ua 1 [0,1,2,3] Z<|Ub 2 Z fun R l=>Ur (dR _ e.m_ a d k f om_ g j) U7 fl_<|Uh 2 Z<|Ur (dR _ e.m_ b c k f om_ h i) U7 fl_<|Ur (ec _ e.m_ (a*d) (b*c) (k+k) om_ om_ (qP g j) (qP h i)) U7 fl_<|C4 1 [8] l Z<|Ui U2<|⟨Z,Z⟩
theorem jX {d:Rat}(e:QB k a)(f:QB k b)(g:QB k c)(h:QB k d):QB (4*k+1) (eF a b c d):=(fh (jq e h) (jq f g)).le om_
def oQ (c0 c1 c2:Pt)(z0 z1 z2:Rat):Pt :=
 ((1 / eF (c1.1-c0.1) (c1.2-c0.2) (c2.1-c0.1) (c2.2-c0.2))*eF (z1-z0) (c1.2-c0.2) (z2-z0) (c2.2-c0.2),
 (1 / eF (c1.1-c0.1) (c1.2-c0.2) (c2.1-c0.1) (c2.2-c0.2))*eF (c1.1-c0.1) (z1-z0) (c2.1-c0.1) (z2-z0))
def dN (pts:List Pt)(fs:List Rat)(t:Tri):Pt:=oQ (cor pts t 0) (cor pts t 1) (cor pts t 2) (fz fs t 0) (fz fs t 1) (fz fs t 2)
theorem Nq (a:MeshOk pts tris)(b:fs.length=pts.length)(c:∀ q∈fs,QB k q)(d:t∈tris)(j:Nat):QB k (fz fs t j) :=
 c _ (Qi (G2 (b ▸ fc (a.ins t d) j)))
theorem vT (d:MeshOk pts tris)(g:fs.length=pts.length)(h:∀ q∈fs,QB k q)(e:t∈tris):QP (8*k+39) (dN pts fs t):=by
 have a:=fun j=>nB d e j;have f:=fun j=>Nq d g h e j;have b:∀ i j,QB 3 ((cor pts t i).1-(cor pts t j).1):=fun i j=>(fh (a i).1 (a j).1).le dc_;have hy:∀ i j,QB 3 ((cor pts t i).2-(cor pts t j).2):=fun i j=>(fh (a i).2 (a j).2).le dc_;have c:∀ i j,QB (2*k+1) (fz fs t i-fz fs t j):=fun i j=>(fh (f i) (f j)).le om_;have hm:QB 13 (eF ((cor pts t 1).1-(cor pts t 0).1) ((cor pts t 1).2-(cor pts t 0).2) ((cor pts t 2).1-(cor pts t 0).1) ((cor pts t 2).2-(cor pts t 0).2)):=(jX (k:=3) (b 1 0) (hy 1 0) (b 2 0) (hy 2 0)).le dc_;have l:eF ((cor pts t 1).1-(cor pts t 0).1) ((cor pts t 1).2-(cor pts t 0).2) ((cor pts t 2).1-(cor pts t 0).1) ((cor pts t 2).2-(cor pts t 0).2)≠0:=jN d e;have h1:QB 26 _:=(jr (k:=13) (QB_one.le dc_) hm l).le dc_;have m:QB (4*(2*k+3)+1) (eF (fz fs t 1-fz fs t 0) ((cor pts t 1).2-(cor pts t 0).2) (fz fs t 2-fz fs t 0) ((cor pts t 2).2-(cor pts t 0).2)):=jX (k:=2*k+3) ((c 1 0).le om_) ((hy 1 0).le om_) ((c 2 0).le om_) ((hy 2 0).le om_);have n:QB (4*(2*k+3)+1) (eF ((cor pts t 1).1-(cor pts t 0).1) (fz fs t 1-fz fs t 0) ((cor pts t 2).1-(cor pts t 0).1) (fz fs t 2-fz fs t 0)):=jX (k:=2*k+3) ((b 1 0).le om_) ((c 1 0).le om_) ((b 2 0).le om_) ((c 2 0).le om_);exact ⟨(jq h1 m).le om_,(jq h1 n).le om_⟩
theorem xg (C:Mem)(d:Tabs C)(r s:Value)(a:List Pt)(n:List Tri)(b:List Rat)(k:Nat)(u:0<k)(K:k<=100)(v:MeshIn C r a n)(o:MeshOk a n)(D:Sl C 1 s (b.map fw))(w:b.length=a.length)(E:∀ q∈b,QB k q)(i:Nat)(t:Tri)(x:n[i]?=some t) :
  Gives cx.P 276 [r,s,.int .i64 i] C (ptV (dN a b t)):=by
 have p:=Qi x;have F:=v;obtain ⟨L,M,rfl,h1,h2⟩:=id v.ex;have e:=fun j=>nB o p j;have m:=fun j=>Nq o w E p j;have g:∀ i j,QB 3 ((cor a t i).1-(cor a t j).1):=fun i j=>(fh (e i).1 (e j).1).le dc_;have hy:∀ i j,QB 3 ((cor a t i).2-(cor a t j).2):=fun i j=>(fh (e i).2 (e j).2).le dc_;have l:∀ i j,QB (2*k+1) (fz b t i-fz b t j):=fun i j=>(fh (m i) (m j)).le om_;have y:QB 13 (eF ((cor a t 1).1-(cor a t 0).1) ((cor a t 1).2-(cor a t 0).2) ((cor a t 2).1-(cor a t 0).1) ((cor a t 2).2-(cor a t 0).2)):=(jX (k:=3) (g 1 0) (hy 1 0) (g 2 0) (hy 2 0)).le dc_;have z:eF ((cor a t 1).1-(cor a t 0).1) ((cor a t 1).2-(cor a t 0).2) ((cor a t 2).1-(cor a t 0).1) ((cor a t 2).2-(cor a t 0).2)≠0:=jN o p;have A:QB 26 (1 / eF ((cor a t 1).1-(cor a t 0).1) ((cor a t 1).2-(cor a t 0).2) ((cor a t 2).1-(cor a t 0).1) ((cor a t 2).2-(cor a t 0).2)):=(jr (k:=13) (QB_one.le dc_) y z).le dc_;have H:QB (8*k+26) (eF (fz b t 1-fz b t 0) ((cor a t 1).2-(cor a t 0).2) (fz b t 2-fz b t 0) ((cor a t 2).2-(cor a t 0).2)):=(jX (k:=2*k+3) ((l 1 0).le om_) ((hy 1 0).le om_) ((l 2 0).le om_) ((hy 2 0).le om_)).le om_;have I:QB (8*k+26) (eF ((cor a t 1).1-(cor a t 0).1) (fz b t 1-fz b t 0) ((cor a t 2).1-(cor a t 0).1) (fz b t 2-fz b t 0)):=(jX (k:=2*k+3) ((g 1 0).le om_) ((l 1 0).le om_) ((g 2 0).le om_) ((l 2 0).le om_)).le om_;refine Uk func276 98 U3 fun w0=>?_;refine Uf fun R c=>?_;refine Uw U6 (fun N=>?_);refine Uv U5 (fun O=>?_);refine Ug [1,2,3,6] c Z ?_;refine Uf fun R c=>?_;refine Uj ae U9 ?_;refine Uh 2 Z ?_;refine Uo (yQ _ _ _ a n b F.m_ o D.m_ w i t x) U7 ?_;refine Uv U5 (fun Q=>?_);refine Um (j:=0) U12 ?_;refine Ug [6,7] c Z ?_;refine G.freeze 0 Z (fun J _ f=>?_);refine Uy [0,1,2,3,4,5,6,7,8,9,10,11,12,13,14,15,16,17,18,19] [(8,1),(17,1)] Z kr_ (fun R B c=>?_);refine UA (3) U9 ag U2 ?_;refine Uh 2 Z ?_;refine Uc (bkT f 1) U8 ?_;refine UA (0) U9 ag U2 ?_;refine Uh 2 Z ?_;refine Uc (bkT f 1) U8 ?_;refine Uz (fun _=>(ec _ d.m_ (cor a t 1).1 (cor a t 0).1 1 dc_ dc_ (e 1).1 (e 0).1)) U9 ?_;refine UA (3) U9 ag U2 ?_;refine Uh 2 Z ?_;refine Uc (bkT f 1) U8 ?_;refine UA (0) U9 ag U2 ?_;refine Uh 2 Z ?_;refine Uc (bkT f 1) U8 ?_;refine Uz (fun _=>(ec _ d.m_ (cor a t 1).2 (cor a t 0).2 1 dc_ dc_ (e 1).2 (e 0).2)) U9 ?_;refine C4 2 [6,7,8,9] c Z ?_;refine Uy [0,1,2,3,4,5,6,7,8,9,10,11,12,13,14,15,16,17,18,19] [(8,1),(17,1)] Z kr_ (fun R B c=>?_);refine UA (6) U9 ag U2 ?_;refine Uh 2 Z ?_;refine Uc (bkT f 1) U8 ?_;refine UA (0) U9 ag U2 ?_;refine Uh 2 Z ?_;refine Uc (bkT f 1) U8 ?_;refine Uz (fun _=>(ec _ d.m_ (cor a t 2).1 (cor a t 0).1 1 dc_ dc_ (e 2).1 (e 0).1)) U9 ?_;refine UA (6) U9 ag U2 ?_;refine Uh 2 Z ?_;refine Uc (bkT f 1) U8 ?_;refine UA (0) U9 ag U2 ?_;refine Uh 2 Z ?_;refine Uc (bkT f 1) U8 ?_;refine Uz (fun _=>(ec _ d.m_ (cor a t 2).2 (cor a t 0).2 1 dc_ dc_ (e 2).2 (e 0).2)) U9 ?_;refine C4 2 [6,7,8,9,10,11] c Z ?_;refine Uy [0,1,2,3,4,5,6,7,8,9,10,11,12,13,14,15] [(6,1),(13,1)] Z kr_ (fun R B c=>?_);refine UA (3) U9 ag U2 ?_;refine Ue U6 ?_;refine Uc (bkT f 1) U8 ?_;refine UA (0) U9 ag U2 ?_;refine Ue U6 ?_;refine Uc (bkT f 1) U8 ?_;refine Uz (fun _=>(ec _ d.m_ (fz b t 1) (fz b t 0) k u om_ (m 1) (m 0))) U9 ?_;refine UA (6) U9 ag U2 ?_;refine Ue U6 ?_;refine Uc (bkT f 1) U8 ?_;refine UA (0) U9 ag U2 ?_;refine Ue U6 ?_;refine Uc (bkT f 1) U8 ?_;refine Uz (fun _=>(ec _ d.m_ (fz b t 2) (fz b t 0) k u om_ (m 2) (m 0))) U9 ?_;refine C4 2 [6,8,9,10,11,12,13] c Z ?_;refine Ua 1 [6,8,9,10,11,12,13,14] Z ?_;refine Ub 5 Z fun R c=>?_;refine Ur (pY _ d.m_ _ _ _ _ 3 dc_ dc_ (g 1 0) (hy 1 0) (g 2 0) (hy 2 0)) U7 fl_ ?_;refine Ur (by have h:=gT J d.m_ 1 _ 13 dc_ dc_ (QB_one.le dc_) y z;rw [dy] at h;exact h) U7 fl_ ?_;refine C4 5 [6,8,9,10,11,12,13,14,15] c Z ?_;refine Ub 6 Z fun R c=>?_;refine Ur (pY _ d.m_ (fz b t 1-fz b t 0) ((cor a t 1).2-(cor a t 0).2) (fz b t 2-fz b t 0) ((cor a t 2).2-(cor a t 0).2) (2*k+3) om_ om_ ((l 1 0).le om_) ((hy 1 0).le om_) ((l 2 0).le om_) ((hy 2 0).le om_)) U7 fl_ ?_;refine Ur (dR _ d.m_ _ _ (8*k+26) om_ om_ (A.le om_) H) U7 fl_ ?_;refine Uh 6 Z ?_;refine Ur (pY _ d.m_ ((cor a t 1).1-(cor a t 0).1) (fz b t 1-fz b t 0) ((cor a t 2).1-(cor a t 0).1) (fz b t 2-fz b t 0) (2*k+3) om_ om_ ((g 1 0).le om_) ((l 1 0).le om_) ((g 2 0).le om_) ((l 2 0).le om_)) U7 fl_ ?_;refine Ur (dR _ d.m_ _ _ (8*k+26) om_ om_ (A.le om_) I) U7 fl_ ?_;refine Uu (gp (dN a b t)) U8 ?_;refine Um (j:=0) U12 ?_;refine Ug [6] c Z ?_;refine Un (UU af U4 ?_);exact ⟨Z,Z⟩
def H5 (l:List Rat):Rat:=l.foldl (·+·) 0
theorem EV (l:List Rat)(q:Rat):H5 (l++[q])=H5 l+q:=by unfold H5;rw [List.foldl_append];rfl
theorem Mr (C:Mem)(g:Tabs C)(v:Value)(l:List Rat)(k:Nat)(h:0<k)(j:k<=10000)(b:Sl C 1 v (l.map fw))(n:∀ q∈l,QB k q)(o:∀ i,QB k (H5 (l.take i))) :
  Gives cx.P 312 [v] C (ah (qtx (H5 l))):=by
 obtain ⟨p,c0,rfl,r,z,_⟩:=id b;have A:maxLen<=9223372036854775807:=by simp [maxLen]
 simp only [aw] at b r ⊢;refine Uk func312 17 U3 fun w0=>Ua 1 [0] Z<|Ua 1 [0,3] Z<|Ua 3 [3,6,7,8] Z<|G.loop (fun fr C' t u=>∃ (i:Nat)(s:Str),(i<=l.length/\s=qtx (H5 (l.take i)))/\fr=[(3,[],ah s),(6,[],.slice p l.length c0),(7,[],.int .i64 l.length),(8,[],.int .i64 i)]/\t=[]/\u=l.length-i) (hn_ [3,6,7,8] Z) ⟨0,[48],⟨Qn _,qtx_zero.symm⟩,Z,Z,Z⟩ (fun fr B D m w x=>?_);obtain ⟨i,s,⟨E,f⟩,rfl,rfl,rfl⟩:=x;refine Ua 1 [3,6,7,8,9] Z<|Ud (fun c=>?_) fun c=>?_
 ·have d:i<l.length:=by simpa using c
  obtain ⟨q,e⟩:∃ q,l[i]?=some q:=⟨l[i],ak d⟩;subst f;refine Uf fun R a=>Us b.m_ U10 om_ (bV e) fl_ fun F y=>Uc y U8<|C4 1 [3,5,6,7,8] a Z<|Ub 2 Z fun R a=>Uo (mQ _ g.m_ (H5 (l.take i)) q k h j (o i) (n q (Qi e))) U7<|C4 1 [3,6,7,8] a Z<|Uf fun R a=>Ul _ U7<|C4 1 [3,6,7,8] a Z<|Up (m':=l.length-(i+1)) om_ w (hn_ [3,6,7,8] Z) ⟨i+1,_,⟨by omega,by rw [QJ,e,RD,EV]⟩,Z,Z,Z⟩
 have d:i=l.length:=by
  have:¬ i<l.length:=by simpa using c
  omega
 exact Ua 2 [2] Z<|Ui U2<|⟨by rw [f,d,Qv],Z⟩
def Dm (q:Rat):Value:=if ba (qtx q) then .tuple #[ah (qtx q),.int .i64 0] else .tuple #[ah [],.int .i64 4]
theorem G4 (C:Mem)(b:Tabs C)(q:Rat)(c:(qtx q).length<=999998):Gives cx.P 296 [ah (qtx q)] C (Dm q):=by
 refine Uk func296 8 U3 fun w0=>Ua 2 [0] Z<|Ub 1 Z fun R d=>Uo (dV _ b.m_ _ c) U7<|C4 1 [0,6] d Z<|Ud (fun a=>?_) fun a=>?_
 ·have e:ba (qtx q)=false:=by
   rcases gM (ba (qtx q)) with ⟨h1,h2⟩ | ⟨h1,h2⟩
   ·rw [h1] at a;exact absurd a dc_
   exact h2
  refine Ua 2 [2,3] Z<|Un (G.dropAll (UC U3 ?_));exact ⟨by unfold Dm;rw [e];rfl,Z⟩
 have f:ba (qtx q)=true:=by
  rcases gM (ba (qtx q)) with ⟨h1,h2⟩ | ⟨h1,h2⟩
  ·exact h2
  rw [h1] at a;exact absurd a dc_
 refine Ua 3 [2,3] Z<|Un (G.dropAll (UC U3 ?_));exact ⟨by unfold Dm;rw [f];rfl,Z⟩
def onQ (pts:List Pt)(fs:List Rat)(t:Tri)(p:Pt):Rat:=H5 [fz fs t 0,(dN pts fs t).1*(p.1-(cor pts t 0).1),(dN pts fs t).2*(p.2-(cor pts t 0).2)]
theorem Ln (n:k<=23)(a:MeshOk pts tris)(c:fs.length=pts.length)(d:∀ q∈fs,QB k q)(b:t∈tris)(e:QP 23 p):QB 600 (onQ pts fs t p)/\(∀ i,QB 600 (H5 ([fz fs t 0,(dN pts fs t).1*(p.1-(cor pts t 0).1),(dN pts fs t).2*(p.2-(cor pts t 0).2)].take i)))/\QB 600 (fz fs t 0)/\QB 600 ((dN pts fs t).1*(p.1-(cor pts t 0).1))/\QB 600 ((dN pts fs t).2*(p.2-(cor pts t 0).2)):=by
 have hs:=vT a c d b;have f:=nB a b 0;have g:=Nq a c d b 0;have h1:QB 248 ((dN pts fs t).1*(p.1-(cor pts t 0).1)):=(jq hs.1 (fh e.1 f.1)).le om_;have h2:QB 248 ((dN pts fs t).2*(p.2-(cor pts t 0).2)):=(jq hs.2 (fh e.2 f.2)).le om_;have h:QB 25 (0+fz fs t 0):=(vk QB_zero g).le om_;have j:QB 274 (0+fz fs t 0+(dN pts fs t).1*(p.1-(cor pts t 0).1)):=(vk h h1).le om_;have l:QB 523 (0+fz fs t 0+(dN pts fs t).1*(p.1-(cor pts t 0).1)+(dN pts fs t).2*(p.2-(cor pts t 0).2)):=(vk j h2).le om_;refine ⟨l.le dc_,fun i=>?_,g.le om_,h1.le dc_,h2.le dc_⟩;rcases (by omega:i=0∨i=1∨i=2∨3<=i) with rfl | rfl | rfl | m
 ·exact QB_zero.le dc_
 ·exact h.le dc_
 ·exact j.le dc_
 rw [Q0 (by simpa using m)];exact l.le dc_
theorem Ma (e:QB k a)(f:QB k b)(g:QB k c):∀ q∈[a,b,c],QB k q:=by
 intro q d;simp only [Qw,Rk,SI] at d;rcases d with rfl | rfl | rfl <;> assumption
theorem PZ (C:Mem)(d:Tabs C)(u v:Value)(a:List Pt)(g:List Tri)(c:List Rat)(k:Nat)(E:0<k)(F:k<=23)(w:MeshIn C u a g)(e:MeshOk a g)(h:Sl C 1 v (c.map fw))(l:c.length=a.length)(r:∀ q∈c,QB k q)(i:Nat)(t:Tri)(m:g[i]?=some t)(p:Pt)(f:QP 23 p) :
  Gives cx.P 297 [u,v,.int .i64 i,ptV p] C (ah (qtx (onQ a c t p))):=by
 have n:=Qi m;have x:=e.ins t n;have y:=w;have z:=h;obtain ⟨X,Y,rfl,h1,h2⟩:=id w.ex;obtain ⟨A1,c1,rfl,H,aa,_⟩:=id h1;obtain ⟨A2,c2,rfl,I,ab,_⟩:=id h2;obtain ⟨A4,c4,rfl,ac,ad,_⟩:=id h;have ae:maxLen<=9223372036854775807:=by simp [maxLen]
 simp only [aw] at h1 h2 h z y H I ⊢;have af:=(aF.1 m).1;have o:=nB e n 0;obtain ⟨ag,J,K,L,M⟩:=Ln F e l r n f;have hs:=vT e l r n;have N:QB 25 (p.1-(cor a t 0).1):=(fh f.1 o.1).le dc_;have O:QB 25 (p.2-(cor a t 0).2):=(fh f.2 o.2).le dc_;refine Uk func297 49 U3 fun w0=>Uf fun R b=>Uw U6 fun b4=>Uw U6 fun b7=>C4 1 [1,2,4,7] b Z<|G.freeze 1 Z fun _ _ s=>Uf fun R b=>Uc (PtrTo.block (Mem.get s mup) _) U8<|Uh 2 Z<|Ur (xg _ d.m_ _ _ a g c k E om_ y.m_ e z.m_ l r i t m) U7 fl_<|Uv U5 fun b9=>Um (j:=0) U12<|Ug [1,2,4,7,9] b Z<|Ub 1 Z fun R b=>Uc (PtrTo.block (Mem.get s mup) _) U8<|Ue U6<|Us h2.m_ U10 om_ (bV m) fl_ fun ai Q=>VK U9 (fun _=>Q) (fun _=>⟨by omega,om_⟩) fl_ Z (fun aj S=>?_);have T:=S trivial;exact Uc T U8<|C4 1 [1,4,7,9,10] b Z<|Ub 1 Z fun R b=>Uc (PtrTo.block (Mem.get s mup) _) U8<|Ue U6<|Us h1.m_ U10 om_ (bV (pk x.1)) fl_ fun ak U=>Uc U U8<|Uv U5 fun al=>Um (j:=0) U12<|Ug [1,7,9,10,11] b Z<|G.freeze 0 Z fun _ _ A=>G.freeze 0 Z fun _ _ B=>G.freeze 0 Z fun _ _ D=>Uy [0,1,2,3,4,5,6,7,8,9,10,11,12,13,14,15,16,17,18,19,20,21,22] [(10,1),(11,1),(18,1),(19,1),(21,1)] Z kr_ fun R hB b=>Uh 2 Z<|Us h.m_ U10 om_ (bV (G2 (l ▸ x.1))) fl_ fun am V=>Uc V U8<|Ue U6<|Uc (bkT B 1) U8<|Ue U6<|Uc (bkT D 1) U8<|Ue U6<|Uc (bkT A 1) U8<|Uz (fun _=>(ec _ d.m_ p.1 (cor a t 0).1 23 dc_ dc_ f.1 (o.1.le dc_))) U9<|Uz (fun _=>(dR _ d.m_ _ _ 300 dc_ dc_ (hs.1.le om_) (N.le dc_))) U9<|Ue U6<|Uc (bkT B 1) U8<|Ue U6<|Uc (bkT D 1) U8<|Ue U6<|Uc (bkT A 1) U8<|Uz (fun _=>(ec _ d.m_ p.2 (cor a t 0).2 23 dc_ dc_ f.2 (o.2.le dc_))) U9<|Uz (fun _=>(dR _ d.m_ _ _ 300 dc_ dc_ (hs.2.le om_) (O.le dc_))) U9<|Ux ([fz c t 0,(dN a c t).1*(p.1-(cor a t 0).1),(dN a c t).2*(p.2-(cor a t 0).2)].map fw) U12 fun an _ _ W=>Uz (fun _=>(Mr _ d.m_ _ _ 600 dc_ dc_ W.m_ (Ma K L M) J)) U9<|C4 1 [8] b Z<|Ui U2<|⟨Z,Z⟩
def EE (pts:List Pt)(tris:List Tri)(fs:List Rat)(p:Pt):Value:=match lP pts tris p with
 | []=>.tuple #[ah [],.int .i64 28]
 | i::_=>Dm (onQ pts fs (tris.getD i (0,0,0)) p)
theorem xM (h:∀ q∈fs,ba (qtx q)=true):(fs.map qtx).all ba=true:=by
 rw [Qx];intro s hs;obtain ⟨q,a,rfl⟩:=Qt.1 hs;exact h q a
theorem yS (a:List Rat):a.map fw=(a.map qtx).map nL:=by rw [Q6];rfl
theorem wq (b:k<=100)(h:∀ q∈fs,QB k q):∀ s∈fs.map qtx,s.length<=999998:=by
 intro s hs;obtain ⟨q,a,rfl⟩:=Qt.1 hs;have:=bK ((h q a).le (SJ k)) om_;omega
theorem xz (C:Mem)(i:Tabs C)(c v d:Value)(b:List Pt)(f:List Tri)(a:List Rat)(j:MeshIn C c b f)(l:Good b f)(m:Sl C 1 v [[d]])(g:Sl C 1 d (a.map fw))(n:a.length=b.length)(r:k<=23)(o:∀ q∈a,QB k q)(p:∀ q∈a,ba (qtx q)=true) :
  Gives cx.P 103 [c,v] C (.int .i64 0):=by
 rw [yS] at g;have h:=xA C i c v d b f (a.map qtx) j l m g (wq om_ o);have e:BH b.length (a.map qtx)=0:=by unfold BH;rw [aH (by simpa using n),xM p];rfl
 rwa [e] at h
theorem O0 (h:i∈lP pts tris p):∃ t,tris[i]?=some t/\tris.getD i (0,0,0)=t/\yE pts p t=true:=by
 unfold lP at h;rw [Si,QA] at h;obtain ⟨h1,h2⟩:=h;obtain ⟨t,a⟩:∃ t,tris[i]?=some t:=⟨tris[i],ak h1⟩;have b:tris.getD i (0,0,0)=t:=by rw [al,a,Rx]
 rw [b] at h2;exact ⟨t,a,b,h2⟩
theorem OS (h:QB 600 q):(qtx q).length<=999998:=QE (bK h dc_) dc_
theorem Ij (C:Mem)(e:Tabs C)(x y:Value)(a:List Pt)(c:List Tri)(b:List Rat)(k:Nat)(I:0<k)(j:k<=23)(z:MeshIn C x a c)(l:Good a c)(f:Sl C 1 y (b.map fw))(m:b.length=a.length)(n:∀ q∈b,QB k q)(J:∀ q∈b,ba (qtx q)=true)(p:Pt)(o:QP 23 p)(K:PtR p) :
  Gives cx.P 275 [x,y,ptV p] C (EE a c b p):=by
 have A:=l.ok;have s:=z;obtain ⟨X,Y,rfl,h1,h2⟩:=id z.ex;obtain ⟨L,M,rfl,aa,ab,_⟩:=id f;simp only [aw] at f ⊢;have ac:maxLen<=9223372036854775807:=by simp [maxLen]
 refine Uk func275 40 U3 fun w0=>Uf fun R d=>Uw U6 fun b3=>Uw U6 fun b5=>C4 2 [1,3,5] d Z<|G.freeze 1 Z fun _ _ u=>G.freeze 0 Z fun _ _ B=>Uf fun R d=>Uc (PtrTo.block (Mem.get u mup) _) U8<|Ue U6<|Ux [[.slice L b.length M]] U12 fun ad _ _ N=>Uo (xz _ e.m_ _ _ _ a c b s.m_ l N.m_ f.m_ m j n J) U7<|C4 1 [1,3,5,8] d Z<|Ua 2 [1,3,5,8,16] Z<|Ud (fun D=>?_) fun D=>?_
 ·exact absurd D dc_
 refine Uf fun R d=>Uc (PtrTo.block (Mem.get u mup) _) U8<|Uc (PtrTo.block (Mem.get B mup) _) U8<|UM (pM _ e.m_ _ a c p s.m_ l o K) U7 (fun ae _ _ O=>?_);obtain ⟨wv,rfl,v⟩:=O;obtain ⟨Aw,cw,E,_⟩:=id v;rw [aw] at E;subst E;refine C4 5 [1,3,5,9,10] d Z<|Ua 2 [1,3,5,9,10,25] Z<|Ud (fun F=>?_) fun F=>?_
 ·exact absurd F dc_
 refine Ua 3 [1,3,5,9,29] Z<|Ud (fun g=>?_) fun g=>?_
 ·have Q:lP a c p=[]:=by
   have h:(((lP a c p).length:Nat):Int)=0:=by simpa using g
   exact Q1 om_
  refine Ua 2 [6,7] Z<|Un (G.dropAll (UC U3 ?_));exact ⟨by unfold EE;rw [Q];rfl,Z⟩
 obtain ⟨i,r,w⟩:∃ i r,lP a c p=i::r:=by
  cases S:lP a c p with
  | nil=>rw [S] at g;exact absurd g dc_
  | cons i r=>exact ⟨i,r,rfl⟩
 obtain ⟨t,H,T,_⟩:=O0 (pts:=a) (tris:=c) (p:=p) (i:=i) (by rw [w];simp);have U:=Ln j A m n (Qi H) o;have V:EE a c b p=Dm (onQ a b t p):=by unfold EE;rw [w];show Dm (onQ a b (c.getD i (0,0,0)) p)=_;rw [T]
 rw [w] at v ⊢;refine Uy [0,1,2,3,4,5,6,7,8,9,10,11] [(6,1),(7,1)] Z kr_ fun R hB d=>Uc (PtrTo.block (Mem.get u mup) _) U8<|Uh 2 Z<|Us v.m_ U10 om_ (rfl:(List.map aO (i::r))[0]?=some (aO i)) fl_ fun af W=>Uc W U8<|Uc (PtrTo.block (Mem.get B mup) _) U8<|UJ (fun _=>(PZ _ e.m_ _ _ a c b k I j s.m_ A f.m_ m n i t H p o)) U9<|UJ (fun _=>(G4 _ e.m_ _ (OS U.1))) U9 ?_;rw [show Dm (onQ a b t p)=.tuple #[if ba (qtx (onQ a b t p)) then ah (qtx (onQ a b t p)) else ah [],.int .i64 (if ba (qtx (onQ a b t p)) then 0 else 4)] by unfold Dm;split <;> rfl];refine C4 4 [6,7] d Z<|Un (G.dropAll (UC U3 ?_));refine ⟨?_,Z⟩;rw [V];unfold Dm;split <;> rfl
theorem OJ (h:QP 22 p):PtR p:=⟨bP h.1,bP h.2⟩
theorem tL (C:Mem)(f:Tabs C)(l m:Value)(c:List Pt)(d:List Tri)(b:List Rat)(k:Nat)(z:0<k)(A:k<=23)(n:MeshIn C l c d)(o:Good c d)(e:Sl C 1 m (b.map fw))(p:b.length=c.length)(r:∀ q∈b,QB k q)(B:∀ q∈b,ba (qtx q)=true)(i:Nat)(t:Tri)(s:d[i]?=some t)(u:QP 22 (dN c b t)) :
  Gives cx.P 244 [l,m,.int .i64 i] C (.tuple #[ptV (dN c b t),.int .i64 0]):=by
 have D:=o.ok;have g:=n;have I:=(aF.1 s).1;obtain ⟨J,K,rfl,h1,h2⟩:=id n.ex;obtain ⟨A2,c2,rfl,L,M,_⟩:=id h2;obtain ⟨E,F,rfl,N,O,_⟩:=id e;simp only [aw] at e h2 g ⊢;have Q:maxLen<=9223372036854775807:=by simp [maxLen]
 refine Uk func244 37 U3 fun w0=>Uf fun R a=>Uw U6 fun S=>Uv U5 fun T=>C4 1 [1,2,3,6] a Z<|G.freeze 1 Z fun _ _ h=>Uf fun R a=>Uc (PtrTo.block (Mem.get h mup) _) U8<|Ue U6<|Ux [[.slice E b.length F]] U12 fun U _ _ H=>Uo (xz _ f.m_ _ _ _ c d b g.m_ o H.m_ e.m_ p A r B) U7<|C4 1 [1,2,3,6,8] a Z<|Ua 2 [1,2,3,6,8,15] Z<|Ud (fun v=>?_) fun v=>?_
 ·exact absurd v dc_
 refine Ub 5 Z fun R a=>UE U6 (fun _=>PtrTo.block (Mem.get h mup) _) U3<|Uh 2 Z<|UF U8<|Ug [1,2,3,6,26] a Z<|Ud (fun w=>?_) fun w=>?_
 ·exfalso;simp only [RY,Qs] at w;omega
 refine Uf fun R a=>Uc (PtrTo.block (Mem.get h mup) _) U8<|Uh 2 Z<|Ur (xg _ f.m_ _ _ c d b k z om_ g.m_ D e.m_ p r i t s) U7 fl_<|Uv U5 fun V=>Um (j:=0) U12<|Ug [6,9] a Z<|G.freeze 0 Z fun _ _ x=>Uf fun R a=>Uc (PtrTo.block (Mem.get x mup) _) U8<|Ur (iv _ f.m_ _ (u.le dc_) (OJ u)) U7 fl_<|C4 1 [6,9,34] a Z<|Ud (fun y=>?_) fun y=>?_
 ·exact absurd y dc_
 refine Uf fun R a=>Uc (PtrTo.block (Mem.get x mup) _) U8<|Um (j:=0) U12<|C4 1 [6,7] a Z<|Un (Vm af U5 ?_);exact ⟨Z,Z⟩
def kf {α:Type}(p:α->Bool):List α->Nat->Int
 | [],_=>-1
 | x::l,k=>if p x then (k:Nat) else kf p l (k+1)
theorem oa {a:Type}{p:a->Bool}:∀ {l:List a}{i k:Nat}{x:a},l[i]?=some x->p x=true->(∀ y∈l.take i,p y=false)->kf p l k=((k+i:Nat):Int)
 | y::l,0,k,x,h,b,_=>by
  simp only [List.getElem?_cons_zero,QR] at h;subst h;simp [kf,b]
 | y::l,i+1,k,x,h,b,c=>by
  simp only [Sp] at h;have hy:p y=false:=c y am;have:=oa (k:=k+1) h b (fun z d=>c z (by simp [d]));simp only [kf,hy,Q9,RF,this];omega
theorem lV {a:Type}{p:a->Bool}:∀ {l:List a}{k:Nat},(∀ y∈l,p y=false)->kf p l k=-1
 | [],_,_=>rfl
 | y::l,k,h=>by
  simp only [kf,h y aL,Q9,RF];exact lV fun z b=>h z (Qq _ b)
theorem mW (p:α->Bool)(l:List α):(kf p l 0=-1/\∀ y∈l,p y=false)∨∃ (i:Nat)(x:α),kf p l 0=(i:Nat)/\l[i]?=some x/\p x=true/\∀ y∈l.take i,p y=false:=by
 by_cases h:∀ y∈l,p y=false
 ·exact .inl ⟨lV h,h⟩
 right;have d:∀ (l:List α),(¬ ∀ y∈l,p y=false)->∃ (i:Nat)(x:α),l[i]?=some x/\p x=true/\∀ y∈l.take i,p y=false:=by
  intro l;induction l with
  | nil=>intro h;exact absurd (fun y hy=>(by cases hy)) h
  | cons a l e =>
   intro h;by_cases b:p a=true
   ·exact ⟨0,a,Z,b,by simp⟩
   have c:p a=false:=by simpa using b
   obtain ⟨i,x,h1,h2,h3⟩:=e (fun h2=>h (fun y hy=>by
    rcases Qw.1 hy with rfl | hy
    ·exact c
    exact h2 y hy))
   refine ⟨i+1,x,by simpa using h1,h2,fun y hy=>?_⟩;rw [List.take_succ_cons] at hy;rcases Qw.1 hy with rfl | hy
   ·exact c
   exact h3 y hy
 obtain ⟨i,x,h1,h2,h3⟩:=d l h;exact ⟨i,x,by rw [oa h1 h2 h3,RC],h1,h2,h3⟩
structure Lay where
 unit:Str
 min:Rat
 max:Option Rat
def vy:Option Rat->Str
 | none=>[]
 | some q=>qtx q
def yT (x:Lay):List Value:=[ah x.unit,ah (qtx x.min),ah (vy x.max)]
def isU (u:Str)(x:Lay):Bool:=decide (x.unit=u)
def N7 (x:Lay):Prop:=QB 22 x.min/\(∀ q,x.max=some q->QB 22 q)/\x.unit.length<=999998
theorem pC (m:Option Rat):(!((⟨(vy m).toArray⟩:ByteArray).data.toList == (⟨#[]⟩:ByteArray).data.toList))=m.isSome:=by
 cases m with
 | none=>rfl
 | some q =>
  have:=FC q;show (!(qtx q == []))=true;cases h:qtx q with
  | nil=>rw [h] at this;simp at this
  | cons a l=>rfl
theorem lU (C:Mem)(v:Value)(l:List Lay)(g:Nat)(d:List Value)(a:Lay->Bool)(e:Sl C 3 v (l.map yT))(_A:Jog.Enters cx.P g=true)
  (n:∀ x∈l,∀ D:Mem,C.le D->Gives cx.P g (.agg ⟨yT x⟩::d) D (.bool (a x))) :
  Gives cx.P 159 [v,.func (.func g) #[] ⟨d⟩] C (.int .i64 (kf a l 0)):=by
 obtain ⟨o,c0,rfl,p,B,_⟩:=id e;have E:maxLen<=9223372036854775807:=by simp [maxLen]
 simp only [aw] at e p ⊢;refine Uk func159 19 U3 fun w0=>Ua 1 [0,1] Z<|Ua 3 [0,1,7,8] Z<|G.loop (fun fr C' q r=>∃ (i:Nat),(i<=l.length/\∀ y∈l.take i,a y=false)/\fr=[(0,[],.slice o l.length c0),(1,[],.func (.func g) #[] ⟨d⟩),(7,[],.int .i64 l.length),(8,[],.int .i64 i)]/\q=[]/\r=l.length-i) (hn_ [0,1,7,8] Z) ⟨0,⟨Qn _,by simp⟩,Z,Z,Z⟩ (fun fr F H m s t=>?_);obtain ⟨i,⟨I,b⟩,rfl,rfl,rfl⟩:=t;refine Ua 1 [0,1,7,8,9] Z<|Ud (fun f=>?_) fun f=>?_
 ·have h:i<l.length:=by simpa using f
  obtain ⟨x,c⟩:∃ x,l[i]?=some x:=⟨l[i],ak h⟩;refine Ua 2 [0,1,5,7,8] Z<|Ub 3 Z fun R j=>Us e.m_ U10 om_ (bV c) fl_ fun J u=>Uc u U8<|Uo (n x (Qi c) _ mup) U7<|Ug [0,1,5,7,8,16] j Z<|Ud (fun k=>?_) fun k=>?_
  ·have w:a x=true:=k;exact Ua 2 [4] Z<|Ui U2<|⟨by rw [oa c w b,RC],Z⟩
  have z:a x=false:=k;refine Uf fun R j=>Ul _ U7<|C4 1 [0,1,7,8] j Z<|Up (m':=l.length-(i+1)) om_ s (hn_ [0,1,7,8] Z) ⟨i+1,⟨by omega,fun y hy=>by
   rw [QJ,c] at hy;rcases Qy.1 hy with hy | hy
   ·exact b y hy
   simp only [RD,QF] at hy;subst hy;exact z⟩,Z,Z,Z⟩
 have h:i=l.length:=by
  have:¬ i<l.length:=by simpa using f
  omega
 exact Ua 1 [4] Z<|Ui U2<|⟨by rw [h,Qv] at b;rw [lV b],Z⟩
theorem Iy (a b:Str):((⟨a.toArray⟩:ByteArray).data.toList == (⟨b.toArray⟩:ByteArray).data.toList)=decide (a=b):=by
 show (a == b)=_;by_cases h:a=b <;> simp [h]
theorem Hx (C:Mem)(b:Nat)(u:Str)(x:Lay)(c:C b=some (.cells ⟨[ah u]⟩ 9 (0,0))):Gives cx.P 160 [.agg ⟨yT x⟩,.pointer (some ⟨b,0,none⟩)] C (.bool (isU u x)):=by
 exact Uk func160 8 U3 fun w0=>Uf fun R a=>Uw U6 fun d=>C4 1 [1,2] a Z<|Ub 1 Z fun R a=>Uj af U9<|Uc (PtrTo.block (Mem.get c mup) _) U8<|C4 2 [3] a Z<|Ui U2<|⟨by unfold isU;rw [<- Iy],Z⟩
theorem zl (C:Mem)(b:Nat)(u:Str)(x:Lay)(c:C b=some (.cells ⟨[ah u]⟩ 9 (0,0))):Gives cx.P 163 [.agg ⟨yT x⟩,.pointer (some ⟨b,0,none⟩)] C (.bool (isU u x)):=by
 exact Uk func163 8 U3 fun w0=>Uf fun R a=>Uw U6 fun d=>C4 1 [1,2] a Z<|Ub 1 Z fun R a=>Uj af U9<|Uc (PtrTo.block (Mem.get c mup) _) U8<|C4 2 [3] a Z<|Ui U2<|⟨by unfold isU;rw [<- Iy],Z⟩
theorem BX (C:Mem)(v:Value)(l:List Lay)(u:Str)(c:Sl C 3 v (l.map yT)):Gives cx.P 106 [v,ah u] C (.int .i64 (kf (isU u) l 0)):=by
 exact Uk func106 8 U3 fun w0=>Uf fun R a=>Uw U6 fun b=>C4 1 [0,3] a Z<|G.freeze 0 Z fun _ _ d=>Ub 2 Z fun R a=>Uo (lU _ _ l 160 [.pointer (some ⟨b,0,none⟩)] (isU u) c.m_ Z (fun x _ D e=>Hx D b u x (e _ _ (Mem.get d mup)))) U7<|C4 1 [4] a Z<|Ui U2<|⟨Z,Z⟩
theorem jW (C:Mem)(v:Value)(l:List Lay)(u:Str)(c:Sl C 3 v (l.map yT)):Gives cx.P 109 [v,ah u] C (.int .i64 (kf (isU u) l 0)):=by
 exact Uk func109 8 U3 fun w0=>Uf fun R a=>Uw U6 fun b=>C4 1 [0,3] a Z<|G.freeze 0 Z fun _ _ d=>Ub 2 Z fun R a=>Uo (lU _ _ l 163 [.pointer (some ⟨b,0,none⟩)] (isU u) c.m_ Z (fun x _ D e=>zl D b u x (e _ _ (Mem.get d mup)))) U7<|C4 1 [4] a Z<|Ui U2<|⟨Z,Z⟩
theorem tU (h:QB 22 q):(qtx q).length<=999998:=QE (bK h dc_) dc_
theorem Dc (h:QB 22 q):(qtx q).length<=1000000:=QE (bK h dc_) dc_
theorem JN (C:Mem)(d:Tabs C)(x:Lay)(e:N7 x):Gives cx.P 104 [.agg ⟨yT x⟩] C (.int .i64 0):=by
 obtain ⟨u,f,c⟩:=x;obtain ⟨h1,h2,h3⟩:=e;simp only at h1 h2 h3;clear h3;have g:(vy c).length<=999998:=by
  cases c with
  | none=>decide
  | some q=>exact tU (h2 q rfl)
 refine Uk func104 17 U3 fun w0=>Uf fun R a=>Uw U6 fun h=>C4 1 [1] a Z<|Ub 1 Z fun R a=>Uj af U9<|Uo (dV _ d.m_ (qtx f) (tU h1)) U7<|C4 2 [1,3] a Z<|Ud (fun h3=>?_) fun h3=>?_
 ·exfalso;rw [xy h1] at h3;exact absurd h3 dc_
 refine Ub 1 Z fun R a=>Uj af U9<|Uh 3 Z<|Uj af U9<|UJ (fun _=>(dV _ d.m_ (vy c) g)) U9<|Ue U6<|UD U8<|C4 1 [3] a Z<|Ud (fun b=>?_) fun b=>?_
 ·exfalso;simp only [] at b;cases c with
  | none=>exact absurd b dc_
  | some q =>
   rw [show vy (some q)=qtx q from rfl,xy (h2 q rfl)] at b;simp at b
 exact Ua 1 [2] Z<|Ui U2<|⟨Z,Z⟩
end Go.Proofs.YthnpijdjlddpmaaGreatDoor
