/- Laws that the proofs of this seat share, part 8. -/
import Derived.Test.YthnpijdjlddpmaaGreatDoorG7
import Derived.Test.YthnpijdjlddpmaaGreatDoorShelf
set_option maxHeartbeats 4000000
namespace Go.Proofs.YthnpijdjlddpmaaGreatDoor
open Go.Proofs.Tryz
open Go Go.Jog
set_option maxRecDepth 100000
variable {C:Mem}{a b c:Rat}{cyc:List Nat}{fs:List Rat}{i k:Nat}{l:List Pt}{m n:Nat}{p:Pt}{pts:List Pt}{q:Rat}{t:Tri}{tris:List Tri}{α:Type}
theorem HY {m:Mg}{s:ik}:(cW m (s.2,s.1)).isSome=!jG (m.map (·.1)) s:=by
 unfold jG Mt;rw [Bool.not_not];cases h:cW m (s.2,s.1) with
 | none=>rw [ck] at h;simp [h]
 | some v =>
  have:=QE (f:=(·.1)) (gF h);simp only [Option.isSome_some];exact (OK this).symm
theorem HV (C:Mem)(v1 v2:Value)(b:Nat)(m:Mg)(o:C b=some (aN pi m))(hn:(m.map (·.1)).Nodup)(Q:∀ s∈m.map (·.1),0<=s.1)(aF:m.length<=1000000) :
  Pur cx.P 154 [.agg ⟨[v1,v2]⟩,.map (some b)] C fun u D=>∃ v,u=.tuple #[v,.bool (decide (vo (m.map (·.1))≠[]))]/\Sl D 1 v ((vo (m.map (·.1))).map jF):=by
 have aG:maxLen<=9223372036854775807:=by simp [maxLen]
 have S:=fun s:ik=>HY (m:=m) (s:=s);obtain ⟨c,K⟩:∃ c,m.map (·.1)=c:=⟨_,rfl⟩;rw [K] at hn Q ⊢;simp only [K] at S;have al:c.length=m.length:=by rw [<- K];simp
 refine Sc func154 93 U3 fun w0=>R8 fun R d=>So U6 fun b2=>C4 2 [1] d Z<|R8 fun R d=>D.makeMap keyZ Z Z Z Z fl_ fun n=>C4 1 [1,6] d Z<|C6 1 [1,6,7] Z<|R4 1 Z fun R d=>UF kI2.enc (Mem.get o mup) Z Z Z Z Z Z Z fl_ fun F=>Sa [1,6,7,19] d Z<|SQ 2 Z<|G.loop (fun fr C' x T=>∃ (seen:List Nat)(f:Int),(seen.Nodup/\(∀ j∈seen,j<c.length)/\((eN c seen).map (·.1)).Nodup/\kT (eN c seen) f)/\fr=[(1,[],.map (some b)),(6,[],.map (some n)),(7,[],.int .i64 f),(19,[],.pointer (some ⟨F,0,none⟩))]/\x=[.obj F (bl b m.length seen),.obj n (aN keyZ.enc (sR (eN c seen)))]/\T=c.length-seen.length) (hn_ [1,6,7,19] Z) ⟨[], -1,⟨List.nodup_nil,by simp,by simp [eN],.inl ⟨Z,Z⟩⟩,Z,Z,Z⟩ (fun fr aH aJ m _ U=>?_);obtain ⟨seen,f,⟨an,ao,L,M⟩,rfl,rfl,rfl⟩:=U;refine R8 fun R d=>Un kI2.enc (q:=0) (Mem.get o mup) Z Z Z Z Z Z fl_ fun ap aK N aq=>C4 1 [1,6,7,19,21] d Z<|R6 (fun H=>?_) fun H=>?_
 ·obtain ⟨aL,j,hj,az,rfl⟩:ap=true/\∃ j,j<m.length/\j ∉ seen/\N=seen++[j]:=by
   rcases aq with ⟨h1,_⟩ | h1
   ·rw [h1] at H;cases H
   exact h1
  rw [<- al] at hj;obtain ⟨⟨s,bv⟩,hs⟩:∃ p,m[j]?=some p:=⟨m[j]'om_,ak om_⟩;have ar:c[j]?=some s:=by rw [<- K,Ou,hs];rfl
  have I:(seen++[j]).Nodup:=by
   rw [P3];exact ⟨an,by simp,fun a V b o e=>by rw [OP.1 o] at e;subst e;exact az V⟩
  have A:∀ i∈seen++[j],i<c.length:=fun i W=>by
   rcases OJ.1 W with h | h
   ·exact ao i h
   rw [OP.1 h];exact hj
  have aM:(seen++[j]).length<=c.length:=by
   have:=List.Nodup.length_le_of_subset I (l₂:=List.range c.length) (fun i W=>ON.2 (A i W));simpa using this
  have aO:(seen++[j]).length=seen.length+1:=by simp
  have g:=Bv ar (seen:=seen);have aB:0<=s.1:=Q s (Oq ar);refine R8 fun R d=>UI kI2.enc (Mem.get o mup) hs af Z Z Z Z Z Z Z<|R7 U6<|Sq U5 fun b8=>Sf (j:=0) U12<|Sa [1,6,7,8,19] d Z<|R4 1 Z fun R d=>Sw (1) U9 ag U2<|Sd af U9<|Sw (0) U9 ag U2<|Sd af U9<|Sn [.int .i64 s.2,.int .i64 s.1] U8<|Uo kI2 (fun _=>(Mem.get o mup)) Z Z Z Z Z Z Z Z Z (oN _ (cW m (s.2,s.1))) Z Z<|C4 5 [1,6,7,8,10,19] d Z<|C6 1 [1,6,7,8,19,34] Z<|R6 (fun X=>?_) fun X=>?_
  ·have Y:jG c s=false:=by
    have h:(cW m (s.2,s.1)).isSome=true:=X;rw [S] at h;simpa using h
   rw [Y] at g;simp only [Pf,PG,OX] at g;refine SQ 0 Z<|Sp (L':=[.obj F (bl b m.length (seen++[j])),.obj n (aN keyZ.enc (sR (eN c (seen++[j]))))]) (by rw [g];rfl)<|Sj (m':=c.length-(seen++[j]).length) om_ mup (hn_ [1,6,7,19] Z) ⟨seen++[j],f,⟨I,A,by rw [g];exact L,by rw [g];exact M⟩,Z,Z,Z⟩
  have Y:jG c s=true:=by
   have h:(cW m (s.2,s.1)).isSome=false:=X;rw [S] at h;simpa using h
  rw [Y] at g;simp only [Qa] at g;refine R4 1 Z fun R d=>Sw (0) U9 ag U2<|Sd af U9<|Tn keyZ ac Z Z Z Z Z Z Z Z kr_ Z (oN _ (cW (sR (eN c seen)) s.1)) Z Z<|C4 5 [1,6,7,8,12,19] d Z<|C6 1 [1,6,7,8,19,42] Z<|R6 (fun aa=>?_) fun aa=>?_
  ·have z:(cW (sR (eN c seen)) s.1).isSome=true:=aa;rw [gA] at z;have ab:Db c=none:=by
    cases l:cW (eN c seen) s.1 with
    | none=>rw [l] at z;cases z
    | some q=>exact BM (B:=eN c seen) (s:=s) (t:=(s.1,q)) (by rw [<- g];exact xj hn I A) (by rw [<- g];exact DZ A) (gF l) rfl
   have J:vo c=[]:=by unfold vo;rw [ab];rfl
   refine C6 2 [4,5] Z<|Sh (G.dropAll (Sy U3 ?_));exact ⟨Z,.slice none 0 0,by rw [J];rfl,by rw [J];exact Sl.nil _ _⟩
  have z:(cW (sR (eN c seen)) s.1).isSome=false:=aa;have ad:cW (eN c seen) s.1=none:=by
   rw [gA] at z;cases l:cW (eN c seen) s.1 with
   | none=>rfl
   | some q=>rw [l] at z;cases z
  have au:((eN c (seen++[j])).map (·.1)).Nodup:=by
   rw [g,O7,P3];refine ⟨L,by simp,fun a V b o e=>?_⟩;rw [List.map_singleton,OP] at o;subst o;subst e;exact (ck.1 ad) V
  have O:=oT M s aB;refine R4 1 Z fun R d=>Sw (0) U9 ag U2<|Sd af U9<|Sw (1) U9 ag U2<|Sd af U9<|D.mapUpdate keyZ (j:=2) Z Z Z Z Z Z Z Z Z Z kr_<|Sa [1,6,7,8,19] d Z<|R4 3 Z fun R d=>Sw (0) U9 ag U2<|Sd ae U9<|R9 2 Z<|SA U8<|Sa [1,6,7,8,19,55] d Z<|R6 (fun ah=>?_) fun ah=>?_
  ·have ai:f<0∨s.1<f:=by simpa using ah
   rw [aI ai] at O;refine R8 fun R d=>Sw (0) U9 ag U2<|Sd ae U9<|C4 1 [1,6,7,19] d Z<|SQ 1 Z<|G.perm (L':=[.obj F (bl b m.length (seen++[j])),.obj n (aN keyZ.enc (sR (eN c (seen++[j]))))]) (by
    rw [g,<- zK ad];exact List.Perm.swap _ _ _) ?_
   refine Sj (m':=c.length-(seen++[j]).length) om_ mup (hn_ [1,6,7,19] Z) ⟨seen++[j],s.1,⟨I,A,au,by rw [g];exact O⟩,Z,Z,Z⟩
  have ai:¬ (f<0∨s.1<f):=by simpa using ah
  rw [aA ai] at O;refine SQ 1 Z<|G.perm (L':=[.obj F (bl b m.length (seen++[j])),.obj n (aN keyZ.enc (sR (eN c (seen++[j]))))]) (by
   rw [g,<- zK ad];exact List.Perm.swap _ _ _) ?_
  refine Sj (m':=c.length-(seen++[j]).length) om_ mup (hn_ [1,6,7,19] Z) ⟨seen++[j],f,⟨I,A,au,by rw [g];exact O⟩,Z,Z,Z⟩
 obtain ⟨aP,rfl,av⟩:ap=false/\N=seen/\∀ j,j<m.length->j∈seen:=by
  rcases aq with h1 | ⟨h1,_⟩
  ·exact h1
  rw [h1] at H;cases H
 rw [<- al] at av;have hp:(eN c N).Perm (c.filter (jG c)):=(uT an ao av).filter _;obtain ⟨B,g⟩:∃ B,eN c N=B:=⟨_,rfl⟩;rw [g] at hp L M;have hO:=HW hp L Q M;have aQ:B.length<=c.length:=by rw [hp.length_eq];exact P2 _ _
 refine C6 1 [6,7,13] Z<|C6 2 [6,7,13,14] Z<|SQ 0 Z<|G.nilArr 3 1<|Sp (L':=[.arr (.slice none 0 0) 3 1 0 [],.obj n (aN keyZ.enc (sR B))]) (by rw [g];rfl)<|G.loop (fun fr C' x T=>∃ (out:List Int)(w:Value)(p:Int),(out.length<=B.length/\ip B f (B.length-out.length) p out=Db c)/\fr=[(6,[],.map (some n)),(7,[],.int .i64 f),(13,[],w),(14,[],.int .i64 p)]/\x=[.arr w 3 1 out.length (out.map (Value.int .i64)),.obj n (aN keyZ.enc (sR B))]/\T=B.length-out.length) (hn_ [6,7,13,14] Z) ⟨[],_,f,⟨Ow _,hO.symm⟩,Z,Z,Z⟩ (fun fr aR aS m _ U=>?_);obtain ⟨out,w,p,⟨aT,E⟩,rfl,rfl,rfl⟩:=U;refine U1 af (fun Aw cw hw aU aW aX=>?_);subst hw;refine Sx [(3,1)] Z fun R d=>R9 3 Z<|Ua keyZ.enc ae Z Z Z Z Z Z Z Z Z<|C4 1 [6,7,13,14,63] d Z<|R6 (fun aj=>?_) fun aj=>?_
 ·have aY:out.length<B.length:=by
   simp only [Oz,zL] at aj;omega
  obtain ⟨r,hr⟩:∃ r,B.length-out.length=r+1:=⟨B.length-out.length-1,by omega⟩;rw [hr] at E;refine R4 2 Z fun R d=>Tn keyZ ae Z Z Z Z Z Z Z Z kr_ Z (oN _ (cW (sR B) p)) Z Z<|C4 5 [6,7,13,14,16] d Z<|R4 10 Z fun R d=>Sv U8<|SA U8<|Sa [6,7,13,14,84] d Z<|R6 (fun k=>?_) fun k=>?_
  ·have ab:Db c=none:=by
    rw [<- E];refine Bg ?_;rw [gA] at k;cases l:cW B p with
    | none=>exact .inl rfl
    | some q =>
     rw [l] at k;simp only [PY,Option.isSome_some,Bool.not_true,Bool.false_or,OC,PV,Oz] at k;exact .inr ⟨k.1,fun e=>by rw [e] at k;simp at k⟩
   have J:vo c=[]:=by unfold vo;rw [ab];rfl
   refine C6 2 [4,5] Z<|Sh (G.dropAll (Sy U3 ?_));exact ⟨Z,.slice none 0 0,by rw [J];rfl,by rw [J];exact Sl.nil _ _⟩
  obtain ⟨q,l⟩:∃ q,cW B p=some q:=by
   rw [gA] at k;cases l:cW B p with
   | some q=>exact ⟨q,rfl⟩
   | none=>rw [l] at k;simp at k
  have aC:¬ (p=f/\out≠[]):=by
   rintro ⟨e1,e2⟩;rw [gA,l] at k;have:=O9.2 e2;simp [e1] at k;exact e2 k
  rw [Bf l aC] at E;have aZ:(out++[p]).length=out.length+1:=by simp
  refine R4 2 Z fun R d=>Sr [jF p] U12 fun a0 _ _ aD=>D.append (j:=0) U11 aD Z aw (by simp only [aV];omega) fl_ fun ax=>C4 1 [6,7,13,14] d Z<|R4 2 Z fun R d=>Tn keyZ ae Z Z Z Z Z Z Z Z kr_ Z (by rw [gA,l];rfl:jZ _ false (cW (sR B) p)=.int .i64 q) Z Z<|C4 1 [6,7,13,14] d Z<|Sp (L':=[.arr ax 3 1 (out++[p]).length ((out++[p]).map (Value.int .i64)),.obj n (aN keyZ.enc (sR B))]) (by simp [jF])<|Sj (m':=B.length-(out++[p]).length) om_ mup (hn_ [6,7,13,14] Z) ⟨out++[p],ax,q,⟨by omega,by rw [show B.length-(out++[p]).length=r by omega];exact E⟩,Z,Z,Z⟩
 have a1:B.length<=out.length:=by
  simp only [OL,zL] at aj;omega
 have ay:vo c=out:=by
  rw [show B.length-out.length=0 by omega] at E;unfold vo;rw [<- E];rfl
 refine C6 6 [4,5] Z<|Sp (L':=[.arr (.slice Aw out.length cw) 3 1 out.length (out.map jF).flatten,.obj n (aN keyZ.enc (sR B))]) (by rw [show (out.map jF).flatten=out.map (Value.int .i64) from dW _ _])<|G.freezeArr 0 (out.map jF) rfl rfl (by intro r hr;obtain ⟨y,_,rfl⟩:=OB.1 hr;rfl) am fun Cg hg aE=>Sh (G.dropAll (Sy U3 ?_));refine ⟨Z,_, ?_,by rw [ay];exact aE⟩;rw [ay];have:decide ((out.length:Int) > 0)=decide (out≠[]):=by
  rw [Pp,<- O9];omega
 rw [<- this]
def qt (pts:List Pt)(cyc:List Nat)(i:Nat):Pt:=pts.getD (cyc.getD (i % cyc.length) 0) (0,0)
def upB (p q:Pt):Bool:=decide (p.2<q.2) || (decide (p.2=q.2) && decide (p.1<q.1))
def Iu (pts:List Pt)(cyc:List Nat)(i:Nat):Bool:=!upB (qt pts cyc i) (qt pts cyc (i+1)) && upB (qt pts cyc (i+1)) (qt pts cyc (i+1+1))
def vD (pts:List Pt)(cyc:List Nat)(i:Nat):Bool:=decide (0<=fw (qt pts cyc i) (qt pts cyc (i+1)) (qt pts cyc (i+2)))
def H1 (pts:List Pt)(cyc:List Nat):Bool:=(List.range cyc.length).all (vD pts cyc) && decide (((List.range cyc.length).filter (Iu pts cyc)).length=1)
structure OnceC (C:Mem)(b2 b3 b5:Nat)(pts:List Pt)(cyc:List Nat):Prop where
 ex:∃ v1 v2,C b2=some (.cells ⟨[v1,v2]⟩ 36 (0,0))/\Sl C 2 v1 (pts.map fR)
 ey:∃ cv,C b3=some (.cells ⟨[cv]⟩ 50 (0,0))/\Sl C 1 cv (cyc.map aQ)
 ez:C b5=some (.cells ⟨[.int .i64 (cyc.length:Nat)]⟩ 3 (0,0))
 ne:0<cyc.length
 ins:∀ z∈cyc,z<pts.length
 q:∀ p∈pts,QP 1 p
theorem OnceC.mono {C D:Mem}{b c d:Nat}{e:List Pt}{f:List Nat}(h:OnceC C b c d e f)(a:C.le D):OnceC D b c d e f:=by
 obtain ⟨g,i,h1,h2⟩:=h.ex;obtain ⟨j,h3,h4⟩:=h.ey;exact ⟨⟨g,i,a _ _ h1,h2.mono a⟩,⟨j,a _ _ h3,h4.mono a⟩,a _ _ h.ez,h.ne,h.ins,h.q⟩
theorem OnceC.m_ {D:Mem}{a b c:Nat}(h:OnceC C a b c pts cyc)(d:C.le D:=by exact mup):OnceC D a b c pts cyc:=OnceC.mono h d
theorem JY (h:0<cyc.length)(b:∀ z∈cyc,z<pts.length)(i:Nat):∃ z,cyc[i % cyc.length]?=some z/\pts[z]?=some (qt pts cyc i):=by
 have a:=Pd i h;refine ⟨cyc[i % cyc.length],ak a, ?_⟩;have c:=b _ (Pn a);simp [qt,ak a,ak c]
theorem JX (h:0<cyc.length)(a:∀ z∈cyc,z<pts.length)(b:∀ p∈pts,QP 1 p)(i:Nat):QP 1 (qt pts cyc i):=by
 obtain ⟨z,_,h2⟩:=JY h a i;exact b _ (Oq h2)
theorem ox (C:Mem)(e f c:Nat)(b:List Pt)(a:List Nat)(h:OnceC C e f c b a)(i:Nat) :
  Gives cx.P 228 [.int .i64 i,.pointer (some ⟨e,0,none⟩),.pointer (some ⟨f,0,none⟩),.pointer (some ⟨c,0,none⟩)] C (ptV (qt b a i)):=by
 obtain ⟨q,r,g,h1⟩:=h.ex;obtain ⟨s,k,h3⟩:=h.ey;have l:=h.ez;have t:=h.ne;obtain ⟨z,m,n⟩:=JY h.ne h.ins i;obtain ⟨u,v,rfl,w,x,_⟩:=id h1;obtain ⟨y,A,rfl,B,D,_⟩:=id h3;simp only [al] at h1 h3 g k;refine Sc func228 16 U3 fun w0=>R8 fun R d=>Sq U5 fun c=>Sa [0,1,2,3,5] d Z<|Ss [0,1,2,3,4,5,6,7,8,9,10] [] Z kr_ fun R E d=>R7 U6<|R5 (PtrTo.block (Mem.get g mup) _) U8<|R5 (PtrTo.block (Mem.get k mup) _) U8<|R7 U6<|R5 (PtrTo.block (Mem.get l mup) _) U8<|SZ (i) (a.length) U6 om_ U2<|Sm h3.m_ U10 om_ (by rw [Ou,show ((i % a.length:Nat):Int).toNat=i % a.length from Z,m];rfl:(a.map aQ)[((i % a.length:Nat):Int).toNat]?=some (aQ z)) fl_ fun F o=>R5 o U8<|Sm h1.m_ U10 om_ (by rw [Ou,show ((z:Nat):Int).toNat=z from Z,n];rfl:(b.map fR)[((z:Nat):Int).toNat]?=some (fR (qt b a i))) fl_ fun G p=>R5 p U8<|Sf (j:=0) U12<|Sa [5] d Z<|Sh (SV af U4 ?_);exact ⟨Z,Z⟩
def fn1V (b2 b3 b5:Nat):Value:=.func (.func 228) #[] #[.pointer (some ⟨b2,0,none⟩),.pointer (some ⟨b3,0,none⟩),.pointer (some ⟨b5,0,none⟩)]
theorem F6 (a b:Rat):decide (Df a b > 0)=decide (b<a):=by
 unfold Df;by_cases h1:a<b
 ·have:¬ b<a:=by grind
  simp [h1,this]
 by_cases h2:b<a <;> simp [h1,h2]
theorem LL (a b:Rat):(Df a b == 0)=decide (b=a):=by
 unfold Df;by_cases h1:a<b
 ·have:¬ b=a:=by grind
  simp [h1,this]
 by_cases h2:b<a
 ·have:¬ b=a:=by grind
  simp [h1,h2,this]
 have:b=a:=by grind
 subst this;simp [h1]
theorem Jn (C:Mem)(k:Tabs C)(c d e l:Nat)(a:List Pt)(b:List Nat)(h:OnceC C c d e a b)(f:C l=some (.cells ⟨[fn1V c d e]⟩ 318 (0,0)))(i:Nat)(n:i<=1000000) :
  Gives cx.P 229 [.int .i64 i,.pointer (some ⟨l,0,none⟩)] C (.bool (upB (qt a b i) (qt a b (i+1)))):=by
 have g:=fun i=>JX h.ne h.ins h.q i;unfold fn1V at f;refine Sc func229 34 U3 fun w0=>C6 1 [0,1] Z<|Ss [0,1,2,3,4,5,6,7,8,9,10] [(3,1),(7,1),(9,1)] Z kr_ fun R m j=>R5 (PtrTo.block (Mem.get f mup) _) U8<|R7 U6<|Se _ U7<|SF (fun _=>(ox _ c d e a b h.m_ (i+1))) U9<|Tj U12<|R5 (PtrTo.block (Mem.get f mup) _) U8<|R7 U6<|SF (fun _=>(ox _ c d e a b h.m_ i)) U9<|Tj U12<|Su (fun _=>(jV _ k.m_ (qt a b (i+1)).2 (qt a b i).2 1 dc_ dc_ (g (i+1)).2 (g i).2)) U9<|C4 1 [0,1,4] j Z<|Ss [0,1,2,3,4,5,6,7,8,9,10,11,12,13,14,15,16,17,18,19] [] Z kr_ fun R m j=>R9 6 Z<|Sz U6 (fun _=>PtrTo.block (Mem.get f mup) _) U3<|R7 U6<|Se _ U7<|SF (fun _=>(ox _ c d e a b h.m_ (i+1))) U9<|Tj U12<|Sz U6 (fun _=>PtrTo.block (Mem.get f mup) _) U3<|R7 U6<|SF (fun _=>(ox _ c d e a b h.m_ i)) U9<|Tj U12<|Su (fun _=>(jV _ k.m_ (qt a b (i+1)).1 (qt a b i).1 1 dc_ dc_ (g (i+1)).1 (g i).1)) U9<|R7 U6<|Sv U8<|SA U8<|C4 1 [3] j Z<|Sb U2<|⟨?_,Z⟩;rw [F6,LL,F6];rfl
theorem DV (q:Rat):decide (eL q.num<0)=!decide (0<=q):=by
 rw [<- decide_not,Pp,<- Rat.num_nonneg];rcases dT q.num with h | h | h <;> omega
theorem K4 (C:Mem)(r:Tabs C)(s B D:Value)(b:List Pt)(a:List Nat)(I:Sl C 2 s (b.map fR))(t:Sl C 1 D (a.map aQ))(J:0<a.length)(K:∀ z∈a,z<b.length)(L:∀ p∈b,QP 1 p)(W:a.length<=100000) :
  Gives cx.P 155 [.agg ⟨[s,B]⟩,D] C (.bool (H1 b a)):=by
 obtain ⟨X,Y,rfl,aa,ab,_⟩:=id t;simp only [al] at t ⊢;refine Sc func155 46 U3 fun w0=>R8 fun R c=>So U6 fun e=>So U6 fun f=>C4 1 [2,3] c Z<|R8 fun R c=>Sd af U9<|R7 U6<|Sq U5 fun g=>Sf (j:=0) U12<|Sa [2,3,5] c Z<|R4 1 Z fun R c=>Sq U5 fun o=>Sf (j:=0) U12<|Sa [5,6] c Z<|G.freeze 0 Z fun _ _ h=>G.freeze 0 Z fun _ _ E=>G.freeze 0 Z fun _ _ M=>G.freeze 0 Z (fun N _ O=>?_);have d:OnceC N e f g b a:=⟨⟨s,B,O,I.mono mup⟩,⟨_,Mem.get M mup,t.mono mup⟩,Mem.get E mup,J,K,L⟩;have u:=fun i=>JX d.ne d.ins d.q i;refine C6 2 [5,6,7] Z<|C6 1 [5,6,7,8] Z<|R8 fun R c=>R5 (PtrTo.block (Mem.get E mup) _) U8<|C4 1 [6,7,8,14,15] c Z<|G.loop (fun fr C' Q S=>∃ (i k:Nat),(i<=a.length/\(List.range i).all (vD b a)=true/\((List.range i).filter (Iu b a)).length=k)/\fr=[(6,[],.pointer (some ⟨o,0,none⟩)),(7,[],.func (.func 229) #[] #[.pointer (some ⟨o,0,none⟩)]),(8,[],.int .i64 k),(14,[],.int .i64 a.length),(15,[],.int .i64 i)]/\Q=[]/\S=a.length-i) (hn_ [6,7,8,14,15] Z) ⟨0,0,⟨Ow _,Z,Z⟩,Z,Z,Z⟩ (fun fr ac ad m F T=>?_);obtain ⟨i,k,⟨hi,v,l⟩,rfl,rfl,rfl⟩:=T;refine C6 1 [6,7,8,14,15,16] Z<|R6 (fun w=>?_) fun w=>?_
 ·have x:i<a.length:=by simpa using w
  have ae:k<=i:=by
   rw [<- l];exact OQ (P2 _ _) am
  refine C6 2 [6,7,8,9,14,15] Z<|Ss [0,1,2,3,4,5,6,7,8,9,10,11,12] [(2,1),(6,1),(10,1),(11,1)] Z kr_ fun R hB c=>R5 (PtrTo.block (Mem.get h mup) _) U8<|R7 U6<|SF (fun _=>(ox _ e f g b a d.m_ i)) U9<|R5 (PtrTo.block (Mem.get h mup) _) U8<|R7 U6<|Se _ U7<|SF (fun _=>(ox _ e f g b a d.m_ (i+1))) U9<|R5 (PtrTo.block (Mem.get h mup) _) U8<|R7 U6<|Se _ U7<|SF (fun _=>(ox _ e f g b a d.m_ (i+2))) U9<|Su (fun _=>(nN _ r.m_ (qt b a i) (qt b a (i+1)) (qt b a (i+2)) 1 dc_ dc_ (u i) (u (i+1)) (u (i+2)))) U9<|C4 1 [6,7,8,9,14,15,30] c Z<|R6 (fun n=>?_) fun n=>?_
  ·have U:vD b a i=false:=by
    rw [DV] at n;simpa [vD] using n
   refine C6 1 [4] Z<|Sb U2<|⟨?_,Z⟩;have:(List.range a.length).all (vD b a)=false:=Q3.2 ⟨i,ON.2 x,by rw [U];decide⟩;unfold H1;rw [this];rfl
  have V:vD b a i=true:=by
   rw [DV] at n;simpa [vD] using n
  have H:(List.range (i+1)).all (vD b a)=true:=by rw [PB,RM,v];simp [V]
  refine R4 2 Z fun R c=>Sk (Jn _ r.m_ e f g o b a d.m_ (Mem.get h mup) i om_) U7 fl_<|R9 4 Z<|Se _ U7<|Su (fun _=>(Jn _ r.m_ e f g o b a d.m_ (Mem.get h mup) (i+1) om_)) U9<|Sv U8<|Sa [6,7,8,14,15,40] c Z<|R6 (fun y=>?_) fun y=>?_
  ·have A:Iu b a i=true:=y;refine R4 1 Z fun R c=>Se _ U7<|C4 1 [6,7,8,14,15] c Z<|R8 fun R c=>Se _ U7<|C4 1 [6,7,8,14,15] c Z<|Sj (m':=a.length-(i+1)) om_ F (hn_ [6,7,8,14,15] Z) ⟨i+1,k+1,⟨by omega,H,by rw [PB,P8,Oy,l];simp [A]⟩,Z,Z,Z⟩
  have A:Iu b a i=false:=y;refine R8 fun R c=>Se _ U7<|C4 1 [6,7,8,14,15] c Z<|Sj (m':=a.length-(i+1)) om_ F (hn_ [6,7,8,14,15] Z) ⟨i+1,k,⟨by omega,H,by rw [PB,P8,Oy,l];simp [A]⟩,Z,Z,Z⟩
 have x:i=a.length:=by
  have:¬ i<a.length:=by simpa using w
  omega
 refine C6 3 [4] Z<|Sb U2<|⟨?_,Z⟩;rw [x] at v l;unfold H1;rw [v,l,Rc];congr 1;rw [RQ,Oz];simp;omega
/-! The sides of triangles, in order. -/
def pX (t:Tri):List ik:=[nZ t 0,nZ t 1,nZ t 2]
def cP (tris:List Tri):List ik:=tris.flatMap pX
theorem ze (t:Tri)(a:k<3):(pX t)[k]?=some (nZ t k):=by
 rcases (by omega:k=0∨k=1∨k=2) with rfl | rfl | rfl <;> rfl
theorem oC (m:Mg)(i:Nat)(t:Tri):∀ k,k<=3->(m.map (·.1)++(pX t).take k).Nodup->(Da m i t k).map (·.1)=m.map (·.1)++(pX t).take k
 | 0,_,_=>by simp [Da]
 | k+1,e,a=>by
  have h3:=ze t (show k<3 by omega);rw [OS,h3,PF,<- OU] at a ⊢;have b:=(P3.1 a);have c:=oC m i t k om_ b.1;have d:cW (Da m i t k) (nZ t k)=none:=by
   rw [ck,c];intro h;exact b.2.2 _ h _ am Z
  rw [Da,jl d,O7,c];rfl
theorem nX (h:tris[n]?=some t):cP (tris.take (n+1))=cP (tris.take n)++pX t:=by
 unfold cP;rw [OS,h,List.flatMap_append];simp
theorem qG (h:(cP tris).Nodup)(n:Nat):(cP (tris.take n)).Nodup:=by
 have:cP tris=cP (tris.take n)++cP (tris.drop n):=by
  unfold cP;rw [<- List.flatMap_append,Pq]
 rw [this] at h;exact (P3.1 h).1
theorem fZ {a:List Tri}(h:(cP a).Nodup):∀ n,n<=a.length->(wS a n).map (·.1)=cP (a.take n)
 | 0,_=>by simp [wS,cP]
 | n+1,d=>by
  have b:a[n]?=some a[n]:=ak om_;have h1:=qG h (n+1);rw [nX b] at h1 ⊢;have c:=fZ h n om_;rw [wS,ax,b];show (Da (wS a n) n a[n] 3).map (·.1)=_;rw [oC _ _ _ 3 (Oo _) (by rw [c];exact h1),c];rfl
theorem BK (h:(cP tris).Nodup)(i:Nat)(t:Tri)(k:Nat)(a:tris[i]?=some t)(c:k<3):cW (Da (wS tris i) i t k) (nZ t k)=none:=by
 have d:=(aF.1 a).1;have h1:=qG h (i+1);rw [nX a] at h1;have b:=fZ h i om_;have h3:=ze t c;have h2:(cP (tris.take i)++(pX t).take (k+1)).Nodup:=by
  refine List.Nodup.sublist (List.Sublist.append (List.Sublist.refl _) (List.take_sublist _ _)) h1
 rw [OS,h3,PF,<- OU] at h2;have h4:=P3.1 h2;rw [ck,oC _ _ _ k om_ (by rw [b];exact h4.1),b];intro h5;exact h4.2.2 _ h5 _ am Z
theorem ul {B:List ik}{d:Int}:∀ (k:Nat)(p:Int)(out r:List Int),ip B d k p out=some r->(∀ z∈out,z∈B.map (·.1))->∀ z∈r,z∈B.map (·.1)
 | 0,p,out,r,h,b=>by simp only [ip,O0] at h;subst h;exact b
 | k+1,p,out,r,h,b=>by
  simp only [ip] at h;cases c:cW B p with
  | none=>rw [c] at h;cases h
  | some q =>
   rw [c] at h;simp only at h;split at h
   ·cases h
   refine ul k q _ r h (fun z a=>?_);rcases OJ.1 a with a | a
   ·exact b z a
   rw [OP.1 a];exact QE (f:=(·.1)) (gF c)
theorem um {B:List ik}{b:Int}:∀ (k:Nat)(p:Int)(out r:List Int),ip B b k p out=some r->r.length=out.length+k
 | 0,p,out,r,h=>by simp only [ip,O0] at h;subst h;rfl
 | k+1,p,out,r,h=>by
  simp only [ip] at h;cases a:cW B p with
  | none=>rw [a] at h;cases h
  | some q =>
   rw [a] at h;simp only at h;split at h
   ·cases h
   have:=um k q _ r h;simp at this;omega
theorem zH {c:List ik}:∀ z∈vo c,z∈c.map (·.1):=by
 intro z a;unfold vo at a;cases b:Db c with
 | none=>rw [b] at a;simp at a
 | some r =>
  rw [b] at a;simp only [Pu] at a;unfold Db at b;split at b
  ·have:=ul _ _ _ _ b am z a;obtain ⟨s,hs,rfl⟩:=OB.1 this;exact QE (f:=(·.1)) (Qs.1 hs).1
  cases b
theorem HX (a:List ik):(vo a).length<=a.length:=by
 unfold vo;cases b:Db a with
 | none=>simp
 | some r =>
  unfold Db at b;split at b
  ·have:=um _ _ _ _ b;have h2:=P2 (jG a) a;simp at this ⊢;omega
  cases b
def qB (n:Nat)(t:Tri):Prop:=t.1<n/\t.2.1<n/\t.2.2<n
theorem Hl (h:qB n t):∀ s∈pX t,0<=s.1/\s.1.toNat<n:=by
 obtain ⟨h1,h2,h3⟩:=h;intro s hs;simp only [pX,OE,PL,QW] at hs;rcases hs with rfl | rfl | rfl <;> simp [nZ,Dw] <;> omega
theorem nY (h:∀ t∈tris,qB n t):∀ s∈cP tris,0<=s.1/\s.1.toNat<n:=by
 intro s hs;obtain ⟨t,a,hs⟩:=List.mem_flatMap.1 hs;exact Hl (h t a) s hs
theorem qJ (a:List Tri):(cP a).length=3*a.length:=by
 induction a with
 | nil=>rfl
 | cons t l b =>
  have:cP (t::l)=pX t++cP l:=rfl;rw [this,Oy,b];simp [pX];omega
def ft (tris:List Tri):List Nat:=(vo (cP tris)).map Int.toNat
theorem CI (h:∀ t∈tris,qB n t):∀ z∈ft tris,z<n:=by
 intro z a;obtain ⟨y,hy,rfl⟩:=OB.1 a;obtain ⟨s,hs,rfl⟩:=OB.1 (zH y hy);exact (nY h s hs).2
theorem yh (h:∀ t∈tris,qB n t):(vo (cP tris)).map jF=(ft tris).map aQ:=by
 unfold ft;rw [Pc];refine List.map_congr_left (fun y hy=>?_);obtain ⟨s,hs,rfl⟩:=OB.1 (zH y hy);have:=(nY h s hs).1;show jF s.1=aQ s.1.toNat;unfold jF aQ;rw [Int.toNat_of_nonneg this]
/-! Sets of ints as maps. -/
def GE (ks:List Int):List (Int × Value):=ks.map fun z=>(z,.bool true)
def Nq (ks:List Int)(z:Int):List Int:=if z∈ks then ks else ks++[z]
theorem Ht (a:List Int):(GE a).length=a.length:=by simp [GE]
theorem vx:∀ {ks:List Int}{z:Int},fD (GE ks) z (.bool true)=GE (Nq ks z)
 | [],z=>by simp [GE,fD,Nq]
 | k::ks,z=>by
  have a:=vx (ks:=ks) (z:=z);unfold GE at a ⊢;simp only [O1,fD];by_cases e:k=z
  ·subst e;simp [Nq]
  have b:¬ z=k:=fun h=>e h.symm;rw [aA e,a];unfold Nq;by_cases h:z∈ks
  ·simp [h]
  simp [h,b]
def Ke (ks:List Int)(t:Tri):Nat->List Int
 | 0=>ks
 | k+1=>Nq (Ke ks t k) (Dw t k)
def uv (tris:List Tri):Nat->List Int
 | 0=>[]
 | n+1=>Ke (uv tris n) (tris.getD n (0,0,0)) 3
theorem FD (t:Tri)(a:k<3):(jP t)[k]?=some (.int .i64 (Dw t k)):=by
 rcases (by omega:k=0∨k=1∨k=2) with rfl | rfl | rfl <;> rfl
theorem CH (h:decide (vo (cP tris)≠[])=true):0<(ft tris).length:=by
 unfold ft;rw [al];exact O9.2 (NM h)
theorem Gg (a:List Tri):decide (vo (cP a)≠[])=decide (ft a≠[]):=by
 rw [Pp];unfold ft;simp
def mr (pts:List Pt)(tris:List Tri):Bool:=decide (ft tris≠[]) && (decide ((uv tris tris.length).length=pts.length) && H1 pts (ft tris))
theorem sk (C:Mem)(I:Tabs C)(x y:Value)(c:List Pt)(a:List Tri)(J:a≠[])(k:Sl C 2 x (c.map fR))(g:Sl C 3 y (a.map jP))(d:(cP a).Nodup)(l:∀ t∈a,qB c.length t)(K:∀ p∈c,QP 1 p)(z:a.length<=10000) :
  Gives cx.P 101 [.agg ⟨[x,y]⟩] C (.bool (mr c a)):=by
 obtain ⟨U,V,rfl,L,W,_⟩:=id k;obtain ⟨A2,c2,rfl,M,X,_⟩:=id g;have Y:maxLen<=9223372036854775807:=by simp [maxLen]
 simp only [al] at k g L M ⊢;refine Sc func101 55 U3 fun w0=>R8 fun R b=>So U6 fun A=>C4 1 [1] b Z<|G.freeze 0 Z fun _ B e=>R8 fun R b=>R5 (PtrTo.block (Mem.get e mup) _) U8<|SI (EA _ _ _ a J g.m_ (BK d)) U7 (fun aa _ _ N=>?_);obtain ⟨n,rfl,O⟩:=N;refine C4 5 [1,3,4] b Z<|C6 2 [1,3,18] Z<|R6 (fun E=>?_) fun E=>?_
 ·exact absurd E dc_
 refine R8 fun R b=>D.makeMap keyZ Z Z Z Z fl_ fun f=>C4 1 [1,3,5] b Z<|R4 1 Z fun R b=>R5 (PtrTo.block (Mem.get e mup) _) U8<|C4 2 [1,3,5,21,22,23] b Z<|G.loop (fun fr C' h o=>∃ (i:Nat),(i<=a.length)/\fr=[(1,[],.pointer (some ⟨A,0,none⟩)),(3,[],.map (some n)),(5,[],.map (some f)),(21,[],.slice A2 a.length c2),(22,[],.int .i64 a.length),(23,[],.int .i64 i)]/\h=[.obj f (aN keyZ.enc (GE (uv a i)))]/\o=a.length-i) (hn_ [1,3,5,21,22,23] Z) ⟨0,Ow _,Z,Z,Z⟩ (fun fr ab ac m _ q=>?_);obtain ⟨i,hi,rfl,rfl,rfl⟩:=q;refine C6 1 [1,3,5,21,22,23,24] Z<|R6 (fun r=>?_) fun r=>?_
 ·have u:i<a.length:=by simpa using r
  obtain ⟨t,F⟩:∃ t,a[i]?=some t:=⟨a[i],ak u⟩;refine R8 fun R b=>Sm g.m_ U10 om_ (by rw [Ou,F];rfl:(a.map jP)[i]?=some (jP t)) fl_ fun ad Q=>R5 Q U8<|Sq U5 fun b7=>Sf (j:=0) U12<|Sa [1,3,5,7,21,22,23] b Z<|R8 fun R b=>Sd af U9<|C4 1 [1,3,5,21,22,23,27,28] b Z<|SQ 0 Z<|G.loop (fun fr C' h o=>∃ (j:Nat),(j<=3)/\fr=[(1,[],.pointer (some ⟨A,0,none⟩)),(3,[],.map (some n)),(5,[],.map (some f)),(21,[],.slice A2 a.length c2),(22,[],.int .i64 a.length),(23,[],.int .i64 i),(27,[],.agg ⟨jP t⟩),(28,[],.int .i64 j)]/\h=[.obj f (aN keyZ.enc (GE (Ke (uv a i) t j)))]/\o=3-j) (hn_ [1,3,5,21,22,23,27,28] Z) ⟨0,Ow _,Z,Z,Z⟩ (fun fr ae ag m B q=>?_);obtain ⟨j,hj,rfl,rfl,rfl⟩:=q;refine C6 1 [1,3,5,21,22,23,27,28,29] Z<|R6 (fun v=>?_) fun v=>?_
  ·have w:j<3:=by
    simp only [Oz] at v;omega
   refine R8 fun R b=>S5 U11 (fun _=>⟨by omega,by omega,FD t w⟩) U2<|C4 1 [1,3,5,9,21,22,23,27,28] b Z<|R4 2 Z fun R b=>D.mapUpdate keyZ (j:=0) Z Z Z Z Z Z Z Z Z Z kr_<|Sa [1,3,5,21,22,23,27,28] b Z<|R8 fun R b=>Se _ U7<|C4 1 [1,3,5,21,22,23,27,28] b Z ?_;rw [vx];refine Sj (m':=3-(j+1)) om_ B (hn_ [1,3,5,21,22,23,27,28] Z) ⟨j+1,om_,Z,Z,Z⟩
  have w:j=3:=by
   simp only [OL] at v;omega
  subst w;refine R8 fun R b=>Se _ U7<|C4 1 [1,3,5,21,22,23] b Z<|Sp (L':=[.obj f (aN keyZ.enc (GE (uv a (i+1))))]) (by rw [uv,ax,F];rfl)<|Sj (m':=a.length-(i+1)) om_ mup (hn_ [1,3,5,21,22,23] Z) ⟨i+1,om_,Z,Z,Z⟩
 have u:i=a.length:=by
  have:¬ i<a.length:=by simpa using r
  omega
 subst u;refine R8 fun R b=>R5 (PtrTo.block (Mem.get e mup) _) U8<|R7 U6<|SD (HV _ _ _ n (wS a a.length) (Mem.get O mup) (by rw [fZ d _ (Oo _),OH];exact d) (by rw [fZ d _ (Oo _),OH];exact fun s S=>(nY l s S).1) (by have:=congrArg List.length (fZ d _ (Oo _));rw [OH,qJ,al] at this;omega)) U7 fl_ (fun ah _ _ H=>?_);rw [fZ d _ (Oo _),OH] at H;obtain ⟨bv,rfl,hbv⟩:=H;rw [yh l] at hbv;refine C4 5 [1,5,10,11] b Z<|Sx [(3,1)] Z fun R b=>R9 3 Z<|Ua keyZ.enc af Z Z Z Z Z Z Z Z Z<|R7 U6<|Sz U6 (fun _=>PtrTo.block (Mem.get e mup) _) U3<|R9 2 Z<|Sv U8<|R7 U6<|Sz U6 (fun _=>PtrTo.block (Mem.get e mup) _) U3<|R7 U6<|Su (fun T=>(K4 _ I.m_ _ _ bv c (ft a) k.m_ hbv.m_ (by exact CH (RR.1 (show (decide (vo (cP a)≠[]) && _)=true/\True from T).1).1) (CI l) K (by have:=HX (cP a);rw [qJ] at this;unfold ft;rw [al];omega))) U9<|Sv U8<|C4 1 [2] b Z<|Sb U2<|⟨?_,Z⟩;have z:(((GE (uv a a.length)).length:Int) == (c.length:Int))=decide ((uv a a.length).length=c.length):=by
  rw [Ht,RQ,PV,Oz];omega
 unfold mr;rw [<- Gg,<- z,<- Bool.and_assoc]
noncomputable def kP2:KeyP cx.P 58 (Str × Str):=Oa rfl rfl rfl dc_ dc_ rfl rfl kr_
def ptK (p:Pt):Str × Str:=(qtx p.1,qtx p.2)
theorem KK {q:Pt}(h:ptK p=ptK q):p=q:=by
 have h1:=mD (congrArg (·.1) h);have h2:=mD (congrArg (·.2) h);exact Prod.ext h1 h2
def H5 (l:List Pt):List ((Str × Str) × Value):=l.map fun p=>(ptK p,.bool true)
theorem zR (h:p ∉ l):cW (H5 l) (ptK p)=none:=by
 rw [ck];unfold H5;rw [Pc];intro hm;obtain ⟨q,a,b⟩:=OB.1 hm;exact h (KK b ▸ a)
theorem La (h:p ∉ l):fD (H5 l) (ptK p) (.bool true)=H5 (l++[p]):=by
 rw [jl (zR h)];simp [H5]
def nq (n:Nat)(X:Nat->Nat->Bool):Bool:=(List.range n).any fun i=>(List.range i).any fun k=>X i k
def xw (pts:List Pt)(tris:List Tri)(X:Nat->Nat->Bool):Int:=if tris=[] then 13 else if mr pts tris then 0 else if nq tris.length X then 26 else 25
structure MeshOk (pts:List Pt)(tris:List Tri):Prop where
 q:∀ p∈pts,QP 1 p
 nd:pts.Nodup
 ins:∀ t∈tris,qB pts.length t
 pos:∀ t∈tris,0<fw (pts.getD t.1 (0,0)) (pts.getD t.2.1 (0,0)) (pts.getD t.2.2 (0,0))
 sides:(cP tris).Nodup
 lt:tris.length<=800
 lp:pts.length<=400
theorem ow (h:i<pts.length):pts[i]?=some (pts.getD i (0,0)):=by
 rw [ax,ak h];rfl
theorem zx (h:i<pts.length):pts.getD i (0,0)∈pts:=Oq (ow h)
def lM (t:Tri)(j:Nat):Nat:=if j=0 then t.1 else if j=1 then t.2.1 else t.2.2
theorem Mr (t:Tri)(j:Nat):Dw t j=(lM t j:Nat):=by
 unfold Dw lM;split
 ·rfl
 split <;> rfl
theorem eI (h:qB n t)(j:Nat):lM t j<n:=by
 obtain ⟨h1,h2,h3⟩:=h;unfold lM;split
 ·exact h1
 split <;> assumption
theorem MC (q:Rat):decide (eL q.num<=0)=!decide (0<q):=by
 have h1:=zu q;have h2:q.num=0 ↔ q=0:=Rk;rw [<- decide_not,Pp];have h3:¬ 0<q ↔ (q<0∨q=0):=by grind
 rw [h3,<- h1,<- h2];rcases dT q.num with h | h | h <;> omega
theorem ES (C:Mem)(E:Tabs C)(F H:Value)(c:List Pt)(b:List Tri)(X:Nat->Nat->Bool)(r:Sl C 2 F (c.map fR))(w:Sl C 3 H (b.map jP))(d:MeshOk c b)
  (T:b≠[]->mr c b=false->∀ D:Mem,C.le D->∀ i k:Nat,i<b.length->k<i->Gives cx.P 102 [.agg ⟨[F,H]⟩,.int .i64 i,.int .i64 k] D (.bool (X i k))) :
  Gives cx.P 66 [.agg ⟨[F,H]⟩] C (.int .i64 (xw c b X)):=by
 obtain ⟨A1,c1,rfl,ad,ay,_⟩:=id r;obtain ⟨A2,c2,rfl,ah,az,_⟩:=id w;have aB:maxLen<=9223372036854775807:=by simp [maxLen]
 have aC:=d.lt;have aD:=d.lp;simp only [al] at r w ad ah T ⊢;refine Sc func66 105 U3 fun w0=>R8 fun R a=>So U6 fun u=>C4 1 [1] a Z<|G.freeze 0 Z fun _ _ f=>R4 1 Z fun R a=>R5 (PtrTo.block (Mem.get f mup) _) U8<|C4 3 [1,12] a Z<|R6 (fun x=>?_) fun x=>?_
 ·have h0:b=[]:=by
   have h:((b.length:Nat):Int)=0:=by simpa using x
   exact O6 om_
  exact C6 1 [2] Z<|Sb U2<|⟨by unfold xw;rw [aI h0],Z⟩
 have h0:b≠[]:=by
  intro e;rw [e] at x;exact absurd x dc_
 refine R4 1 Z fun R a=>R5 (PtrTo.block (Mem.get f mup) _) U8<|R9 4 Z<|Sz U6 (fun _=>PtrTo.block (Mem.get f mup) _) U3<|R9 2 Z<|SA U8<|C4 1 [1,17] a Z<|R6 (fun U=>?_) fun U=>?_
 ·exfalso;simp only [PX,Oz] at U;omega
 refine R8 fun R a=>TW kP2 Z Z Z Z fl_ fun I=>C4 1 [1,3] a Z<|R4 1 Z fun R a=>R5 (PtrTo.block (Mem.get f mup) _) U8<|C4 2 [1,3,30,31,32] a Z<|G.loop (fun fr C' g l=>∃ (i:Nat),(i<=c.length)/\fr=[(1,[],.pointer (some ⟨u,0,none⟩)),(3,[],.map (some I)),(30,[],.slice A1 c.length c1),(31,[],.int .i64 c.length),(32,[],.int .i64 i)]/\g=[.obj I (aN Cl (H5 (c.take i)))]/\l=c.length-i) (hn_ [1,3,30,31,32] Z) ⟨0,Ow _,Z,Z,Z⟩ (fun fr aE aG m _ n=>?_);obtain ⟨i,hi,rfl,rfl,rfl⟩:=n;refine C6 1 [1,3,30,31,32,33] Z<|R6 (fun V=>?_) fun V=>?_
 ·have o:i<c.length:=by simpa using V
  obtain ⟨p,y⟩:∃ p,c[i]?=some p:=⟨c[i],ak o⟩;have z:=d.q p (Oq y);have W:p ∉ c.take i:=by
   intro hm;obtain ⟨j,v⟩:=PQ hm;rw [O8] at v;split at v
   ·rename_i aH;have h3:=(aF.1 v);have h4:=(aF.1 y);have:=(List.getElem_inj d.nd).1 (h3.2.trans h4.2.symm);omega
   cases v
  have ai:H5 (c.take (i+1))=H5 (c.take i++[p]):=by rw [OS,y];rfl
  refine R8 fun R a=>Sm r.m_ U10 om_ (by rw [Ou,y];rfl:(c.map fR)[i]?=some (fR p)) fl_ fun aJ aj=>R5 aj U8<|Sq U5 fun b5=>Sf (j:=0) U12<|Sa [1,3,5,30,31,32] a Z<|R8 fun R a=>Sd af U9<|Sk (gZ _ E.m_ (qtx p.1) (qtx p.2) (by have:=bK z.1 dc_;omega) (by have:=bK z.2 dc_;omega)) U7 fl_<|C4 1 [1,3,5,30,31,32,38] a Z<|R6 (fun J=>?_) fun J=>?_
  ·exfalso;rw [bM (z.1.le dc_),bM (z.2.le dc_)] at J;exact absurd J dc_
  refine R4 1 Z fun R a=>Sd af U9<|TX kP2 ae Z Z Z Z Z Z Z Z Z (congrArg (jZ (.bool false) false) (zR W)) Z Z<|Sa [1,3,5,30,31,32,41] a Z<|R6 (fun Y=>?_) fun Y=>?_
  ·exact absurd Y dc_
  refine R4 1 Z fun R a=>Sd af U9<|TT kP2 (j:=1) (key:=ptK p) Z Z Z Z Z Z Z Z Z Z<|Sa [1,3,30,31,32] a Z<|R8 fun R a=>Se _ U7<|C4 1 [1,3,30,31,32] a Z<|SQ 1 Z<|Sp (L':=[.obj I (aN Cl (H5 (c.take (i+1))))]) (by rw [ai,<- La W];rfl)<|Sj (m':=c.length-(i+1)) om_ mup (hn_ [1,3,30,31,32] Z) ⟨i+1,om_,Z,Z,Z⟩
 refine R4 1 Z fun R a=>R5 (PtrTo.block (Mem.get f mup) _) U8<|C4 2 [1,46,47,48] a Z<|G.dropAll<|G.loop (fun fr C' g l=>∃ (i:Nat),(i<=b.length)/\fr=[(1,[],.pointer (some ⟨u,0,none⟩)),(46,[],.slice A2 b.length c2),(47,[],.int .i64 b.length),(48,[],.int .i64 i)]/\g=[]/\l=b.length-i) (hn_ [1,46,47,48] Z) ⟨0,Ow _,Z,Z,Z⟩ (fun fr aK aL m _ n=>?_);obtain ⟨i,hi,rfl,rfl,rfl⟩:=n;refine C6 1 [1,46,47,48,49] Z<|R6 (fun K=>?_) fun K=>?_
 ·have o:i<b.length:=by simpa using K
  obtain ⟨t,ht⟩:∃ t,b[i]?=some t:=⟨b[i],ak o⟩;have aa:=Oq ht;have s:=d.ins t aa;have am:=d.pos t aa;refine R8 fun R a=>Sm w.m_ U10 om_ (by rw [Ou,ht];rfl:(b.map jP)[i]?=some (jP t)) fl_ fun aM an=>R5 an U8<|Sq U5 fun b7=>Sf (j:=0) U12<|Sa [1,7,46,47,48] a Z<|R8 fun R a=>Sd af U9<|C4 1 [1,7,46,47,48,52,53] a Z<|G.loop (fun fr C' g l=>∃ (j:Nat),(j<=3)/\fr=[(1,[],.pointer (some ⟨u,0,none⟩)),(7,[],.pointer (some ⟨b7,0,none⟩)),(46,[],.slice A2 b.length c2),(47,[],.int .i64 b.length),(48,[],.int .i64 i),(52,[],.agg ⟨jP t⟩),(53,[],.int .i64 j)]/\g=[.obj b7 (.cells ⟨jP t⟩ 108 (0,0))]/\l=3-j) (hn_ [1,7,46,47,48,52,53] Z) ⟨0,Ow _,Z,Z,Z⟩ (fun fr aO aP m ao n=>?_);obtain ⟨j,v,rfl,rfl,rfl⟩:=n;refine C6 1 [1,7,46,47,48,52,53,54] Z<|R6 (fun L=>?_) fun L=>?_
  ·have ap:j<3:=by
    simp only [Oz] at L;omega
   have aQ:=eI s j;refine R8 fun R a=>S5 U11 (fun _=>⟨by omega,by omega,(show (jP t)[((j:Nat):Int).toNat]?=some (.int .i64 ((lM t j:Nat):Int)) from by rw [<- Mr];exact FD t ap)⟩) U2<|C4 1 [1,7,9,46,47,48,52,53] a Z<|R4 5 Z fun R a=>Sz U6 (fun _=>PtrTo.block (Mem.get f mup) _) U3<|R9 2 Z<|SA U8<|Sa [1,7,46,47,48,52,53,64] a Z<|R6 (fun ab=>?_) fun ab=>?_
   ·exfalso;simp only [PX,Oz] at ab;omega
   refine R8 fun R a=>Se _ U7<|C4 1 [1,7,46,47,48,52,53] a Z<|Sj (m':=3-(j+1)) om_ ao (hn_ [1,7,46,47,48,52,53] Z) ⟨j+1,om_,Z,Z,Z⟩
  clear L;refine Ss [0,1,2,3,4,5,6,7,8,9,10,11,12,13,14,15,16,17,18,19] [(18,1)] Z kr_ fun R hB a=>R7 U6<|R5 (PtrTo.block (Mem.get f mup) _) U8<|Sw (0) U9 ag U2<|Sd af U9<|Sm r.m_ U10 om_ (by rw [Ou,show (((t.1:Nat):Int)).toNat=t.1 from Z,ow s.1];rfl:(c.map fR)[(((t.1:Nat):Int)).toNat]?=some (fR (c.getD t.1 (0,0)))) fl_ fun aR aq=>R5 aq U8<|R7 U6<|R5 (PtrTo.block (Mem.get f mup) _) U8<|Sw (1) U9 ag U2<|Sd af U9<|Sm r.m_ U10 om_ (by rw [Ou,show (((t.2.1:Nat):Int)).toNat=t.2.1 from Z,ow s.2.1];rfl:(c.map fR)[(((t.2.1:Nat):Int)).toNat]?=some (fR (c.getD t.2.1 (0,0)))) fl_ fun aS ar=>R5 ar U8<|R7 U6<|R5 (PtrTo.block (Mem.get f mup) _) U8<|Sw (2) U9 ag U2<|Sd af U9<|Sm r.m_ U10 om_ (by rw [Ou,show (((t.2.2:Nat):Int)).toNat=t.2.2 from Z,ow s.2.2];rfl:(c.map fR)[(((t.2.2:Nat):Int)).toNat]?=some (fR (c.getD t.2.2 (0,0)))) fl_ fun aT au=>R5 au U8<|Su (fun _=>(nN _ E.m_ (c.getD t.1 (0,0)) (c.getD t.2.1 (0,0)) (c.getD t.2.2 (0,0)) 1 dc_ dc_ (d.q _ (zx s.1)) (d.q _ (zx s.2.1)) (d.q _ (zx s.2.2)))) U9<|C4 1 [1,46,47,48,85] a Z<|R6 (fun M=>?_) fun M=>?_
  ·exfalso;rw [MC,OK am] at M;exact absurd M dc_
  refine R8 fun R a=>Se _ U7<|C4 1 [1,46,47,48] a Z<|G.dropAll<|Sj (m':=b.length-(i+1)) om_ mup (hn_ [1,46,47,48] Z) ⟨i+1,om_,Z,Z,Z⟩
 clear K;refine R8 fun R a=>R5 (PtrTo.block (Mem.get f mup) _) U8<|Sk (sk _ E.m_ _ _ c b h0 r.m_ w.m_ d.sides d.ins d.q om_) U7 fl_<|Sa [1,88] a Z<|R6 (fun N=>?_) fun N=>?_
 ·have hw:mr c b=true:=N;exact C6 1 [2] Z<|Sb U2<|⟨by unfold xw;rw [aA h0,aI hw],Z⟩
 have hw:mr c b=false:=N;refine R4 1 Z fun R a=>R5 (PtrTo.block (Mem.get f mup) _) U8<|C4 2 [1,91,92] a Z<|G.loop (fun fr C' g l=>∃ (i:Nat),(i<=b.length/\nq i X=false)/\fr=[(1,[],.pointer (some ⟨u,0,none⟩)),(91,[],.int .i64 b.length),(92,[],.int .i64 i)]/\g=[]/\l=b.length-i) (hn_ [1,91,92] Z) ⟨0,⟨Ow _,Z⟩,Z,Z,Z⟩ (fun fr aU aW m _ n=>?_);obtain ⟨i,⟨aX,A⟩,rfl,rfl,rfl⟩:=n;refine C6 1 [1,91,92,93] Z<|R6 (fun O=>?_) fun O=>?_
 ·have o:i<b.length:=by simpa using O
  refine C6 2 [1,10,91,92] Z<|C6 2 [1,10,91,92,95,96] Z<|G.loop (fun fr C' g l=>∃ (k:Nat),(k<=i/\(List.range k).any (fun k=>X i k)=false)/\fr=[(1,[],.pointer (some ⟨u,0,none⟩)),(10,[],.int .i64 i),(91,[],.int .i64 b.length),(92,[],.int .i64 i),(95,[],.int .i64 i),(96,[],.int .i64 k)]/\g=[]/\l=i-k) (hn_ [1,10,91,92,95,96] Z) ⟨0,⟨Ow _,Z⟩,Z,Z,Z⟩ (fun fr aY aZ m av n=>?_);obtain ⟨k,⟨a0,ac⟩,rfl,rfl,rfl⟩:=n;refine C6 1 [1,10,91,92,95,96,97] Z<|R6 (fun Q=>?_) fun Q=>?_
  ·have B:k<i:=by simpa using Q
   refine C6 2 [1,10,11,91,92,95,96] Z<|R8 fun R a=>R5 (PtrTo.block (Mem.get f mup) _) U8<|R9 2 Z<|Sg (T h0 hw _ mup i k o B) U7<|Sa [1,10,91,92,95,96,102] a Z<|R6 (fun S=>?_) fun S=>?_
   ·have aw:X i k=true:=S;have hc:nq b.length X=true:=QT.2 ⟨i,ON.2 o,QT.2 ⟨k,ON.2 B,aw⟩⟩;exact C6 1 [2] Z<|Sb U2<|⟨by unfold xw;rw [aA h0,hw,aA dc_,aI hc],Z⟩
   have ax:X i k=false:=S;refine R8 fun R a=>Se _ U7<|C4 1 [1,10,91,92,95,96] a Z<|Sj (m':=i-(k+1)) om_ av (hn_ [1,10,91,92,95,96] Z) ⟨k+1,⟨by omega,by rw [PB,List.any_append,ac];simp [ax]⟩,Z,Z,Z⟩
  have B:k=i:=by
   have:¬ k<i:=by simpa using Q
   omega
  subst B;refine R8 fun R a=>Se _ U7<|C4 1 [1,91,92] a Z<|Sj (m':=b.length-(k+1)) om_ mup (hn_ [1,91,92] Z) ⟨k+1,⟨by omega,by unfold nq at A ⊢;rw [PB,List.any_append,A];simp [ac]⟩,Z,Z,Z⟩
 have o:i=b.length:=by
  have:¬ i<b.length:=by simpa using O
  omega
 refine C6 1 [2] Z<|Sb U2<|⟨?_,Z⟩;rw [o] at A;unfold xw;rw [aA h0,hw,aA dc_,A];rfl
structure Good (pts:List Pt)(tris:List Tri):Prop where
 ok:MeshOk pts tris
 ne:tris≠[]
 whole:mr pts tris=true
structure MeshIn (C:Mem)(mv:Value)(pts:List Pt)(tris:List Tri):Prop where
 ex:∃ v1 v2,mv=.agg ⟨[v1,v2]⟩/\Sl C 2 v1 (pts.map fR)/\Sl C 3 v2 (tris.map jP)
theorem MeshIn.mono {C D:Mem}{a:Value}{b:List Pt}{c:List Tri}(h:MeshIn C a b c)(d:C.le D):MeshIn D a b c:=by
 obtain ⟨e,f,h1,h2,h3⟩:=h.ex;exact ⟨e,f,h1,h2.mono d,h3.mono d⟩
theorem MeshIn.m_ {D:Mem}{a:Value}(h:MeshIn C a pts tris)(b:C.le D:=by exact mup):MeshIn D a pts tris:=MeshIn.mono h b
def nox:Nat->Nat->Bool:=fun _ _=>false
theorem jo (C:Mem)(f:Tabs C)(d:Value)(a:List Pt)(b:List Tri)(g:MeshIn C d a b)(c:Good a b):Gives cx.P 66 [d] C (.int .i64 0):=by
 obtain ⟨i,j,rfl,h1,h2⟩:=g.ex;have h:=ES C f i j a b nox h1 h2 c.ok (fun _ h3=>by rw [c.whole] at h3;cases h3);have e:xw a b nox=0:=by unfold xw;rw [aA c.ne,aI c.whole]
 rwa [e] at h
def cor (pts:List Pt)(t:Tri)(j:Nat):Pt:=pts.getD (lM t j) (0,0)
def xB (pts:List Pt)(p:Pt)(t:Tri):Bool:=decide (0<=fw (cor pts t 0) (cor pts t 1) p) && decide (0<=fw (cor pts t 1) (cor pts t 2) p) && decide (0<=fw (cor pts t 2) (cor pts t 0) p)
def oP (pts:List Pt)(tris:List Tri)(p:Pt):List Nat:=(List.range tris.length).filter fun i=>xB pts p (tris.getD i (0,0,0))
theorem mI (h:MeshOk pts tris)(a:t∈tris)(j:Nat):QP 1 (cor pts t j):=h.q _ (zx (eI (h.ins t a) j))
theorem QP.le {k m:Nat}{p:Pt}(h:QP k p)(a:k<=m):QP m p:=⟨h.1.le a,h.2.le a⟩
theorem rM (C:Mem)(d:Value)(a:List Pt)(b:List Tri)(f:MeshIn C d a b)(g:MeshOk a b)(i:Nat)(t:Tri)(e:b[i]?=some t) :
  Gives cx.P 156 [d,.int .i64 i] C (LH (cor a t 0) (cor a t 1) (cor a t 2)):=by
 obtain ⟨h,j,rfl,h1,h2⟩:=f.ex;have c:=g.ins t (Oq e);exact Cv C h j a b i t _ _ _ h1 h2 e (ow c.1) (ow c.2.1) (ow c.2.2)
theorem Ea (h:QP k p)(a:k<=1000):(qtx p.1).length<=999998/\(qtx p.2).length<=999998:=by
 have h1:=bK (h.1.le (QH k)) om_;have h2:=bK (h.2.le (QH k)) om_;exact ⟨by omega,by omega⟩
def PtR (p:Pt):Prop:=bg (qtx p.1)=true/\bg (qtx p.2)=true
theorem gY (C:Mem)(c:Tabs C)(p:Pt)(a:QP 23 p)(b:PtR p):Gives cx.P 99 [ptV p] C (.int .i64 0):=by
 have h:=gZ C c (qtx p.1) (qtx p.2) (Ea a dc_).1 (Ea a dc_).2;rw [b.1,b.2] at h;exact h
theorem oO (C:Mem)(f:Tabs C)(A:Value)(c:List Pt)(a:List Tri)(p:Pt)(B:MeshIn C A c a)(E:Good c a)(F:QP 23 p)(g:PtR p) :
  Pur cx.P 149 [A,ptV p] C fun u D=>∃ v,u=.tuple #[v,.int .i64 0]/\Sl D 1 v ((oP c a p).map aQ):=by
 have d:=E.ok;have V:=d.lt;have W:maxLen<=9223372036854775807:=by simp [maxLen]
 have h:=B;obtain ⟨X,Y,rfl,h1,h2⟩:=id B.ex;obtain ⟨A1,c1,rfl,aa,ab,_⟩:=id h1;obtain ⟨A2,c2,rfl,ac,ad,_⟩:=id h2;simp only [al] at h1 h2 h ⊢;refine Sc func149 34 U3 fun w0=>R8 fun R b=>So U6 fun N=>So U6 fun O=>C4 2 [2,3] b Z<|G.freeze 1 Z fun _ _ k=>G.freeze 0 Z fun _ _ H=>R8 fun R b=>R5 (PtrTo.block (Mem.get k mup) _) U8<|Sg (jo _ f.m_ _ c a h.m_ E) U7<|C4 1 [2,3,6] b Z<|C6 2 [2,3,6,12] Z<|R6 (fun I=>?_) fun I=>?_
 ·exact absurd I dc_
 refine R8 fun R b=>R5 (PtrTo.block (Mem.get H mup) _) U8<|Sg (gY _ f.m_ p F g) U7<|C4 1 [2,3,16] b Z<|R6 (fun J=>?_) fun J=>?_
 ·exact absurd J dc_
 refine C6 1 [2,3,7] Z<|R4 1 Z fun R b=>R5 (PtrTo.block (Mem.get k mup) _) U8<|C4 2 [2,3,7,19,20] b Z<|G.nilArr 3 1<|G.loop (fun fr C' K Q=>∃ (i:Nat)(out:List Nat)(w:Value),(i<=a.length/\out=(List.range i).filter (fun i=>xB c p (a.getD i (0,0,0))))/\fr=[(2,[],.pointer (some ⟨N,0,none⟩)),(3,[],.pointer (some ⟨O,0,none⟩)),(7,[],w),(19,[],.int .i64 a.length),(20,[],.int .i64 i)]/\K=[.arr w 3 1 out.length (out.map aQ).flatten]/\Q=a.length-i) (hn_ [2,3,7,19,20] Z) ⟨0,[],_,⟨Ow _,Z⟩,Z,Z,Z⟩ (fun fr ae af m _ S=>?_);obtain ⟨i,out,w,⟨hi,e⟩,rfl,rfl,rfl⟩:=S;refine C6 1 [2,3,7,19,20,21] Z<|R6 (fun l=>?_) fun l=>?_
 ·have n:i<a.length:=by simpa using l
  obtain ⟨t,o⟩:∃ t,a[i]?=some t:=⟨a[i],ak n⟩;have q:=Oq o;have L:a.getD i (0,0,0)=t:=by rw [ax,o];rfl
  have ag:out.length<=i:=by
   rw [e];exact OQ (P2 _ _) am
  refine C6 2 [2,3,7,8,19,20] Z<|Ss [0,1,2,3,4] [(2,1),(4,1)] Z kr_ fun R hB b=>R5 (PtrTo.block (Mem.get k mup) _) U8<|R7 U6<|SF (fun _=>(rM _ _ c a h.m_ d i t o)) U9<|R5 (PtrTo.block (Mem.get H mup) _) U8<|Su (fun _=>(Ff _ f.m_ (cor c t 0) (cor c t 1) (cor c t 2) p 23 dc_ dc_ ((mI d q 0).le dc_) ((mI d q 1).le dc_) ((mI d q 2).le dc_) F)) U9<|Sa [2,3,7,8,19,20,27] b Z<|R6 (fun s=>?_) fun s=>?_
  ·have x:xB c p t=true:=s;have z:(List.range (i+1)).filter (fun i=>xB c p (a.getD i (0,0,0)))=out++[i]:=by rw [PB,P8,<- e,List.filter_cons,L,x];rfl
   refine R4 2 Z fun R b=>Sr [aQ i] U12 fun ah _ _ T=>D.append (j:=0) U11 T Z aw (by simp only [aV];omega) fl_ fun M=>C4 1 [2,3,7,19,20] b Z<|R8 fun R b=>Se _ U7<|C4 1 [2,3,7,19,20] b Z<|Sp (L':=[.arr M 3 1 (out++[i]).length ((out++[i]).map aQ).flatten]) (by simp [aQ])<|Sj (m':=a.length-(i+1)) om_ mup (hn_ [2,3,7,19,20] Z) ⟨i+1,out++[i],M,⟨by omega,z.symm⟩,Z,Z,Z⟩
  have x:xB c p t=false:=s;have z:(List.range (i+1)).filter (fun i=>xB c p (a.getD i (0,0,0)))=out:=by rw [PB,P8,<- e,List.filter_cons,L,x];simp
  refine R8 fun R b=>Se _ U7<|C4 1 [2,3,7,19,20] b Z<|Sj (m':=a.length-(i+1)) om_ mup (hn_ [2,3,7,19,20] Z) ⟨i+1,out,w,⟨by omega,z.symm⟩,Z,Z,Z⟩
 have n:i=a.length:=by
  have:¬ i<a.length:=by simpa using l
  omega
 refine C6 3 [4,5] Z<|G.freezeArr 0 (out.map aQ) rfl rfl (by intro r g;obtain ⟨y,_,rfl⟩:=OB.1 g;rfl) am fun Cg hg U=>Sh (G.dropAll (Sy U3 ?_));refine ⟨Z,_,Z, ?_⟩;rw [n] at e;unfold oP;rw [<- e];exact U
theorem pq (C:Mem)(g:Tabs C)(d:Value)(a:List Pt)(b:List Tri)(p:Pt)(e:MeshIn C d a b)(h:Good a b)(i:QP 23 p)(j:PtR p) :
  Gives cx.P 97 [d,ptV p] C (.tuple #[.bool (decide (oP a b p≠[])),.int .i64 0]):=by
 have k:=e;obtain ⟨n,o,rfl,h1,h2⟩:=id e.ex;refine Sc func97 18 U3 fun w0=>R8 fun R c=>So U6 fun q=>So U6 fun r=>C4 2 [2,3] c Z<|R8 fun R c=>Sd ae U9<|Sd af U9<|SI (oO _ g.m_ _ a b p k.m_ h i j) U7 (fun s _ _ l=>?_);obtain ⟨t,rfl,m⟩:=l;obtain ⟨u,v,f,_⟩:=id m;rw [al] at f;subst f;refine C4 5 [6,7] c Z<|C6 6 [4,5] Z<|Sh (G.dropAll (Sy U3 ?_));refine ⟨?_,Z⟩;have:decide (((oP a b p).length:Int) > 0)=decide (oP a b p≠[]):=by
  rw [Pp,<- O9];omega
 rw [<- this]
theorem yd (C:Mem)(j:Tabs C)(d:Value)(c:List Pt)(b:List Tri)(i:Nat)(e:MeshIn C d c b)(k:Good c b)(l:i<b.length) :
  Gives cx.P 273 [d,.int .i64 i] C (.int .i64 0):=by
 have f:=e;obtain ⟨m,n,rfl,h1,h2⟩:=id e.ex;obtain ⟨A2,c2,rfl,o,p,_⟩:=id h2;simp only [al] at h1 h2 f ⊢;refine Sc func273 20 U3 fun w0=>R8 fun R a=>So U6 fun q=>C4 1 [1,2] a Z<|R8 fun R a=>Sd af U9<|Sg (jo _ j.m_ _ c b f.m_ k) U7<|C4 1 [1,2,5] a Z<|C6 2 [1,2,5,9] Z<|R6 (fun g=>?_) fun g=>?_
 ·exact absurd g dc_
 refine R4 5 Z fun R a=>Sd af U9<|R9 2 Z<|SA U8<|Sa [19] a Z<|R6 (fun h=>?_) fun h=>?_
 ·exfalso;simp only [PX,Oz] at h;omega
 exact C6 1 [4] Z<|Sb U2<|⟨Z,Z⟩
def wgt (pts:List Pt)(t:Tri)(p:Pt)(j:Nat):Rat:=fw p (cor pts t ((j+1) % 3)) (cor pts t ((j+2) % 3)) / fw (cor pts t 0) (cor pts t 1) (cor pts t 2)
theorem nn (a:MeshOk pts tris)(b:t∈tris):fw (cor pts t 0) (cor pts t 1) (cor pts t 2)≠0:=by
 have h:=a.pos t b;intro e;have c:fw (pts.getD t.1 (0,0)) (pts.getD t.2.1 (0,0)) (pts.getD t.2.2 (0,0))=0:=e;rw [c] at h;exact absurd h dc_
theorem DR (C:Mem)(g:Tabs C)(x:Value)(c:List Pt)(h:List Tri)(p:Pt)(i:Nat)(t:Tri)(y:MeshIn C x c h)(z:Good c h)(l:QP 23 p)(O:PtR p)(o:h[i]?=some t)(q:∀ j,QB 22 (wgt c t p j)) :
  Gives cx.P 239 [x,.int .i64 i,ptV p] C (.tuple #[.agg ⟨[ai (qtx (wgt c t p 0)),ai (qtx (wgt c t p 1)),ai (qtx (wgt c t p 2))]⟩,.int .i64 0]):=by
 have r:=z.ok;have A:=Oq o;have Q:=(aF.1 o).1;have B:=y;obtain ⟨v1,v2,rfl,h1,h2⟩:=id y.ex;have e:=fun j=>(mI r A j).le (show 1<=23 by decide);have s:=nn r A;have u:∀ a b,QP 23 a->QP 23 b->QB 189 (fw p a b):=fun a b S T=>(yn l S T).le dc_;have v:QB 189 (fw (cor c t 0) (cor c t 1) (cor c t 2)):=(yn (e 0) (e 1) (e 2)).le dc_;refine Sc func239 69 U3 fun w0=>R8 fun R d=>So U6 fun b3=>So U6 fun U=>Sq U5 fun D=>C4 1 [1,3,5,6] d Z<|G.freeze 2 Z fun _ _ E=>G.freeze 1 Z fun _ _ n=>R8 fun R d=>R5 (PtrTo.block (Mem.get E mup) _) U8<|R7 U6<|Sg (yd _ g.m_ _ c h i B.m_ z Q) U7<|C4 1 [1,3,5,6,8] d Z<|C6 2 [1,3,5,6,8,18] Z<|R6 (fun F=>?_) fun F=>?_
 ·exact absurd F dc_
 refine R8 fun R d=>R5 (PtrTo.block (Mem.get n mup) _) U8<|Sg (gY _ g.m_ p l O) U7<|C4 1 [1,3,5,6,23] d Z<|R6 (fun H=>?_) fun H=>?_
 ·exact absurd H dc_
 refine R8 fun R d=>R5 (PtrTo.block (Mem.get E mup) _) U8<|R7 U6<|Sg (rM _ _ c h B.m_ r i t o) U7<|Sq U5 fun V=>Sf (j:=0) U12<|Sa [5,6,9] d Z<|G.freeze 0 Z fun _ _ f=>R8 fun R d=>Sq U5 fun I=>Sa [5,6,9,10] d Z<|C6 1 [5,6,9,10,28] Z<|G.loop (fun fr C' W X=>∃ (j:Nat),(j<=3)/\fr=[(5,[],.pointer (some ⟨U,0,none⟩)),(6,[],.pointer (some ⟨D,0,none⟩)),(9,[],.pointer (some ⟨V,0,none⟩)),(10,[],.pointer (some ⟨I,0,none⟩)),(28,[],.int .i64 j)]/\W=[.obj I (.cells ⟨(List.range 3).map fun k=>if k<j then ai (qtx (wgt c t p k)) else ai []⟩ 328 (0,0)),.obj D (.cells ⟨[ai [],ai [],ai []]⟩ 328 (0,0))]/\X=3-j) (hn_ [5,6,9,10,28] Z) ⟨0,Ow _,Z,Z,Z⟩ (fun fr aa ab m _ Y=>?_);obtain ⟨j,hj,rfl,rfl,rfl⟩:=Y;refine C6 1 [5,6,9,10,28,29] Z<|R6 (fun w=>?_) fun w=>?_
 ·have J:j<3:=by
   simp only [Oz] at w;omega
  rcases (by omega:j=0∨j=1∨j=2) with rfl | rfl | rfl
  ·refine C6 2 [5,6,9,10,11,28] Z<|Ss [0,1,2,3,4,5,6,7,8,9,10,11,12,13,14,15,16,17,18,19,20,21,22,23,24,25] [(12,1),(19,1),(20,1)] Z kr_ fun R K d=>R7 U6<|R5 (PtrTo.block (Mem.get n mup) _) U8<|R7 U6<|Se _ U7<|Tb U6 om_ om_ U2<|Sw (_) U9 ag U2<|R5 (bkT f 2) U8<|R7 U6<|Se _ U7<|Tb U6 om_ om_ U2<|Sw (_) U9 ag U2<|R5 (bkT f 2) U8<|Su (fun _=>(kl _ g.m_ p (cor c t ((0+1) % 3)) (cor c t ((0+2) % 3)) 23 dc_ dc_ l (e _) (e _))) U9<|Sw (0) U9 ag U2<|R5 (bkT f 2) U8<|Sw (2) U9 ag U2<|R5 (bkT f 2) U8<|Sw (4) U9 ag U2<|R5 (bkT f 2) U8<|Su (fun _=>(kl _ g.m_ (cor c t 0) (cor c t 1) (cor c t 2) 23 dc_ dc_ (e 0) (e 1) (e 2))) U9<|Su (fun _=>(iF _ g.m_ _ _ 189 dc_ dc_ (u _ _ (e _) (e _)) v s)) U9<|R9 3 Z<|Sw (_) U9 ag U2<|Sf (j:=0) U12<|Sa [5,6,9,10,11,28] d Z<|R4 1 Z fun R d=>Sw (_) U9 ag U2<|Sd af U9<|Sg (sz _ g.m_ (wgt c t p 0) (q 0)) U7<|C4 5 [5,6,9,10,13,28] d Z<|C6 2 [5,6,9,10,13,28,64] Z<|R6 (fun L=>?_) fun L=>?_
   ·exact absurd L dc_
   refine R8 fun R d=>Se _ U7<|C4 1 [5,6,9,10,28] d Z<|Sj (m':=2) om_ mup (hn_ [5,6,9,10,28] Z) ⟨1,by decide,Z,Z,Z⟩
  ·refine C6 2 [5,6,9,10,11,28] Z<|Ss [0,1,2,3,4,5,6,7,8,9,10,11,12,13,14,15,16,17,18,19,20,21,22,23,24,25] [(12,1),(19,1),(20,1)] Z kr_ fun R K d=>R7 U6<|R5 (PtrTo.block (Mem.get n mup) _) U8<|R7 U6<|Se _ U7<|Tb U6 om_ om_ U2<|Sw (_) U9 ag U2<|R5 (bkT f 2) U8<|R7 U6<|Se _ U7<|Tb U6 om_ om_ U2<|Sw (_) U9 ag U2<|R5 (bkT f 2) U8<|Su (fun _=>(kl _ g.m_ p (cor c t ((1+1) % 3)) (cor c t ((1+2) % 3)) 23 dc_ dc_ l (e _) (e _))) U9<|Sw (0) U9 ag U2<|R5 (bkT f 2) U8<|Sw (2) U9 ag U2<|R5 (bkT f 2) U8<|Sw (4) U9 ag U2<|R5 (bkT f 2) U8<|Su (fun _=>(kl _ g.m_ (cor c t 0) (cor c t 1) (cor c t 2) 23 dc_ dc_ (e 0) (e 1) (e 2))) U9<|Su (fun _=>(iF _ g.m_ _ _ 189 dc_ dc_ (u _ _ (e _) (e _)) v s)) U9<|R9 3 Z<|Sw (_) U9 ag U2<|Sf (j:=0) U12<|Sa [5,6,9,10,11,28] d Z<|R4 1 Z fun R d=>Sw (_) U9 ag U2<|Sd af U9<|Sg (sz _ g.m_ (wgt c t p 1) (q 1)) U7<|C4 5 [5,6,9,10,13,28] d Z<|C6 2 [5,6,9,10,13,28,64] Z<|R6 (fun M=>?_) fun M=>?_
   ·exact absurd M dc_
   refine R8 fun R d=>Se _ U7<|C4 1 [5,6,9,10,28] d Z<|Sj (m':=1) om_ mup (hn_ [5,6,9,10,28] Z) ⟨2,by decide,Z,Z,Z⟩
  refine C6 2 [5,6,9,10,11,28] Z<|Ss [0,1,2,3,4,5,6,7,8,9,10,11,12,13,14,15,16,17,18,19,20,21,22,23,24,25] [(12,1),(19,1),(20,1)] Z kr_ fun R K d=>R7 U6<|R5 (PtrTo.block (Mem.get n mup) _) U8<|R7 U6<|Se _ U7<|Tb U6 om_ om_ U2<|Sw (_) U9 ag U2<|R5 (bkT f 2) U8<|R7 U6<|Se _ U7<|Tb U6 om_ om_ U2<|Sw (_) U9 ag U2<|R5 (bkT f 2) U8<|Su (fun _=>(kl _ g.m_ p (cor c t ((2+1) % 3)) (cor c t ((2+2) % 3)) 23 dc_ dc_ l (e _) (e _))) U9<|Sw (0) U9 ag U2<|R5 (bkT f 2) U8<|Sw (2) U9 ag U2<|R5 (bkT f 2) U8<|Sw (4) U9 ag U2<|R5 (bkT f 2) U8<|Su (fun _=>(kl _ g.m_ (cor c t 0) (cor c t 1) (cor c t 2) 23 dc_ dc_ (e 0) (e 1) (e 2))) U9<|Su (fun _=>(iF _ g.m_ _ _ 189 dc_ dc_ (u _ _ (e _) (e _)) v s)) U9<|R9 3 Z<|Sw (_) U9 ag U2<|Sf (j:=0) U12<|Sa [5,6,9,10,11,28] d Z<|R4 1 Z fun R d=>Sw (_) U9 ag U2<|Sd af U9<|Sg (sz _ g.m_ (wgt c t p 2) (q 2)) U7<|C4 5 [5,6,9,10,13,28] d Z<|C6 2 [5,6,9,10,13,28,64] Z<|R6 (fun N=>?_) fun N=>?_
  ·exact absurd N dc_
  refine R8 fun R d=>Se _ U7<|C4 1 [5,6,9,10,28] d Z<|Sj (m':=0) om_ mup (hn_ [5,6,9,10,28] Z) ⟨3,by decide,Z,Z,Z⟩
 have J:j=3:=by
  simp only [OL] at w;omega
 subst J;refine R8 fun R d=>Sd af U9<|Sf (j:=1) U12<|C4 1 [6,7] d Z<|Sh (Tl af U5 ?_);exact ⟨Z,Z⟩
theorem bO {f:α->List Value}{l:List α}{x:α}(h:l[i]?=some x):(l.map f)[i]?=some (f x):=by rw [Ou,h];rfl
def Dd (n:Nat)(l:List Str):Int:=if l.length=n then pU (l.all bg) else 5
theorem wi (C:Mem)(y:Tabs C)(z v A:Value)(b:List Pt)(f:List Tri)(l:List Str)(B:MeshIn C z b f)(D:Good b f)(g:Sl C 1 v [[A]])(k:Sl C 1 A (l.map mR))(N:∀ s∈l,s.length<=999998) :
  Gives cx.P 103 [z,v] C (.int .i64 (Dd b.length l)):=by
 have E:=B;have Y:=D.ok.lp;obtain ⟨v1,v2,rfl,h1,h2⟩:=id B.ex;obtain ⟨A1,c1,rfl,aa,ab,_⟩:=id h1;obtain ⟨F,H,rfl,ac,ad,_⟩:=id g;obtain ⟨n,o,rfl,O,ae,_⟩:=id k;have af:maxLen<=9223372036854775807:=by simp [maxLen]
 simp only [al,aV] at h1 g k E O ⊢;refine Sc func103 41 U3 fun w0=>R8 fun R a=>So U6 fun I=>C4 1 [1,2] a Z<|G.freeze 0 Z fun _ _ J=>R8 fun R a=>R5 (PtrTo.block (Mem.get J mup) _) U8<|Sg (jo _ y.m_ _ b f E.m_ D) U7<|C4 1 [1,2,5] a Z<|C6 2 [1,2,5,14] Z<|R6 (fun K=>?_) fun K=>?_
 ·exact absurd K dc_
 refine C6 3 [2,16,17,18] Z<|G.loop (fun fr C' p q=>∃ (i:Nat),(i<=1/\(i=1->l.length=b.length/\l.all bg=true))/\fr=[(2,[],.pointer (some ⟨I,0,none⟩)),(16,[],.slice F 1 H),(17,[],.int .i64 1),(18,[],.int .i64 i)]/\p=[]/\q=1-i) (hn_ [2,16,17,18] Z) ⟨0,⟨Ow _,fun h=>absurd h dc_⟩,Z,Z,Z⟩ (fun fr ag ah m _ r=>?_);obtain ⟨i,⟨hi,Q⟩,rfl,rfl,rfl⟩:=r;refine C6 1 [2,16,17,18,19] Z<|R6 (fun t=>?_) fun t=>?_
 ·obtain rfl:i=0:=by
   simp only [Oz] at t;omega
  refine R8 fun R a=>Sm g.m_ U10 om_ (rfl:([[.slice n l.length o]]:List (List Value))[0]?=some [.slice n l.length o]) fl_ fun ai S=>R5 S U8<|C4 1 [2,7,16,17,18] a Z<|R4 3 Z fun R a=>R5 (PtrTo.block (Mem.get J mup) _) U8<|C4 2 [2,7,16,17,18,27] a Z<|R6 (fun d=>?_) fun d=>?_
  ·have T:l.length≠b.length:=by
    intro e;rw [e] at d;simp at d
   exact C6 1 [4] Z<|Sb U2<|⟨by unfold Dd;rw [aA T],Z⟩
  have L:l.length=b.length:=by
   have h:((l.length:Nat):Int)=(b.length:Nat):=by simpa using d
   omega
  refine C6 3 [2,16,17,18,28,29,30] Z<|G.loop (fun fr C' p q=>∃ (j:Nat),(j<=l.length/\(l.take j).all bg=true)/\fr=[(2,[],.pointer (some ⟨I,0,none⟩)),(16,[],.slice F 1 H),(17,[],.int .i64 1),(18,[],.int .i64 0),(28,[],.slice n l.length o),(29,[],.int .i64 l.length),(30,[],.int .i64 j)]/\p=[]/\q=l.length-j) (hn_ [2,16,17,18,28,29,30] Z) ⟨0,⟨Ow _,by simp⟩,Z,Z,Z⟩ (fun fr aj am m U r=>?_);obtain ⟨j,⟨hj,u⟩,rfl,rfl,rfl⟩:=r;refine C6 1 [2,16,17,18,28,29,30,31] Z<|R6 (fun w=>?_) fun w=>?_
  ·have x:j<l.length:=by simpa using w
   obtain ⟨s,hs⟩:∃ s,l[j]?=some s:=⟨l[j],ak x⟩;refine R8 fun R a=>Sm k.m_ U10 om_ (bO hs) fl_ fun an V=>R5 V U8<|C4 1 [2,9,16,17,18,28,29,30] a Z<|R4 1 Z fun R a=>Sg (dF _ y.m_ s (N s (Oq hs))) U7<|C4 1 [2,10,16,17,18,28,29,30] a Z<|C6 2 [2,10,16,17,18,28,29,30,37] Z<|R6 (fun c=>?_) fun c=>?_
   ·have M:bg s=false:=by
     rcases gk (bg s) with ⟨h1,h2⟩ | ⟨h1,h2⟩
     ·rw [h1] at c;exact absurd c dc_
     exact h2
    refine C6 2 [4] Z<|Sb U2<|⟨?_,Z⟩;unfold Dd;rw [aI L,M,show l.all bg=false from Q3.2 ⟨s,Oq hs,by rw [M];decide⟩]
   have W:bg s=true:=by
    rcases gk (bg s) with ⟨h1,h2⟩ | ⟨h1,h2⟩
    ·exact h2
    rw [h1] at c;exact absurd c dc_
   refine R8 fun R a=>Se _ U7<|C4 1 [2,16,17,18,28,29,30] a Z<|Sj (m':=l.length-(j+1)) om_ U (hn_ [2,16,17,18,28,29,30] Z) ⟨j+1,⟨by omega,by rw [OS,hs,RM,u];simp [W]⟩,Z,Z,Z⟩
  have x:j=l.length:=by
   have:¬ j<l.length:=by simpa using w
   omega
  refine R8 fun R a=>Se _ U7<|C4 1 [2,16,17,18] a Z<|Sj (m':=0) om_ mup (hn_ [2,16,17,18] Z) ⟨1,⟨Oo _,fun _=>⟨L,by rw [x,OH] at u;exact u⟩⟩,Z,Z,Z⟩
 have X:i=1:=by
  simp only [OL] at t;omega
 refine C6 1 [4] Z<|Sb U2<|⟨?_,Z⟩;obtain ⟨h3,h4⟩:=Q X;unfold Dd;rw [aI h3,h4];rfl
theorem tw (C:Mem)(h:Tabs C)(e f:Value)(a:List Pt)(b:List Tri)(l:List Str)(g:MeshIn C e a b)(i:Good a b)(c:Sl C 1 f (l.map mR))(j:∀ s∈l,s.length<=999998) :
  Gives cx.P 67 [e,f] C (.int .i64 (Dd a.length l)):=by
 have k:=g;obtain ⟨p,q,rfl,h1,h2⟩:=id g.ex;obtain ⟨m,n,rfl,r,t,_⟩:=id c;simp only [al] at c ⊢;exact Sc func67 9 U3 fun w0=>R8 fun R d=>So U6 fun u=>C4 1 [1,2] d Z<|R8 fun R d=>Sd af U9<|R7 U6<|Sr [[.slice m l.length n]] U12 fun v _ _ o=>Sg (wi _ h.m_ _ _ _ a b l k.m_ i o.m_ c.m_ j) U7<|C4 1 [4] d Z<|Sb U2<|⟨Z,Z⟩
def eR (q:Rat):List Value:=[ai (qtx q)]
def fz (fs:List Rat)(t:Tri)(j:Nat):Rat:=fs.getD (lM t j) 0
def xW (pts:List Pt)(fs:List Rat)(t:Tri)(j:Nat):List Value:=fR (cor pts t j)++eR (fz fs t j)
theorem Fw (h:i<fs.length):fs[i]?=some (fs.getD i 0):=by
 rw [ax,ak h];rfl
theorem xM (C:Mem)(r s:Value)(b:List Pt)(l:List Tri)(c:List Rat)(z:MeshIn C r b l)(A:MeshOk b l)(e:Sl C 1 s (c.map eR))(n:c.length=b.length)(i:Nat)(t:Tri)(o:l[i]?=some t) :
  Gives cx.P 298 [r,s,.int .i64 i] C (.agg ⟨xW b c t 0++xW b c t 1++xW b c t 2⟩):=by
 have d:=A.ins t (Oq o);obtain ⟨M,N,rfl,h1,h2⟩:=id z.ex;obtain ⟨O,Q,rfl,B,S,_⟩:=id h1;obtain ⟨A2,c2,rfl,D,T,_⟩:=id h2;obtain ⟨E,F,rfl,U,V,_⟩:=id e;have W:maxLen<=9223372036854775807:=by simp [maxLen]
 simp only [al] at h1 h2 e B D ⊢;have X:=(aF.1 o).1;refine Sc func298 32 U3 fun w0=>?_;refine R8 fun R a=>?_;refine So U6 (fun H=>?_);refine Sq U5 (fun u=>?_);refine Sa [1,2,3,6] a Z ?_;refine G.freeze 1 Z (fun _ _ h=>?_);refine R4 1 Z fun R a=>?_;refine R5 (PtrTo.block (Mem.get h mup) _) U8 ?_;refine R7 U6 ?_;refine Sm h2.m_ U10 om_ (bO o) fl_ (fun Y I=>?_);refine R5 I U8 ?_;refine C4 1 [1,3,6,13,14] a Z ?_;refine G.loop (fun fr C' J K=>∃ (j:Nat),(j<=3)/\fr=[(1,[],.slice E c.length F),(3,[],.pointer (some ⟨H,0,none⟩)),(6,[],.pointer (some ⟨u,0,none⟩)),(13,[],.agg ⟨jP t⟩),(14,[],.int .i64 j)]/\J=[.obj u (.cells ⟨(List.range 3).flatMap fun k=>if k<j then xW b c t k else [ai [],ai [],ai []]⟩ 391 (0,0))]/\K=3-j) (hn_ [1,3,6,13,14] Z) ⟨0,Ow _,Z,Z,Z⟩ (fun fr aa ab m p L=>?_);obtain ⟨j,hj,rfl,rfl,rfl⟩:=L;refine C6 1 [1,3,6,13,14,15] Z ?_;refine R6 (fun q=>?_) fun q=>?_
 ·have v:j<3:=by
   simp only [Oz] at q;omega
  rcases (by omega:j=0∨j=1∨j=2) with rfl | rfl | rfl
  ·refine R4 1 Z fun R a=>?_;refine S5 U11 ag U2 ?_;refine C4 2 [1,3,6,7,8,13,14] a Z ?_;refine Ss [0,1,2,3,4,5,6,7,8,9,10,11,12] [] Z kr_ (fun R w a=>?_);refine R9 2 Z ?_;refine R5 (PtrTo.block (Mem.get h mup) _) U8 ?_;refine R7 U6 ?_;refine Sm h1.m_ U10 om_ (bO (ow (eI d 0))) fl_ (fun x f=>?_);refine R5 f U8 ?_;refine R9 2 Z ?_;refine Sm e.m_ U10 om_ (bO (Fw (n ▸ eI d 0))) fl_ (fun y g=>?_);refine R5 g U8 ?_;refine Sn (xW b c t 0) U8 ?_;refine Sw (_) U9 ag U2 ?_;refine Sf (j:=0) U12 ?_;refine Sa [1,3,6,13,14] a Z ?_;refine R8 fun R a=>?_;refine Se _ U7 ?_;refine C4 1 [1,3,6,13,14] a Z ?_;refine Sj (m':=2) om_ p (hn_ [1,3,6,13,14] Z) ⟨1,by decide,Z,Z,Z⟩
  ·refine R4 1 Z fun R a=>?_;refine S5 U11 ag U2 ?_;refine C4 2 [1,3,6,7,8,13,14] a Z ?_;refine Ss [0,1,2,3,4,5,6,7,8,9,10,11,12] [] Z kr_ (fun R w a=>?_);refine R9 2 Z ?_;refine R5 (PtrTo.block (Mem.get h mup) _) U8 ?_;refine R7 U6 ?_;refine Sm h1.m_ U10 om_ (bO (ow (eI d 1))) fl_ (fun x f=>?_);refine R5 f U8 ?_;refine R9 2 Z ?_;refine Sm e.m_ U10 om_ (bO (Fw (n ▸ eI d 1))) fl_ (fun y g=>?_);refine R5 g U8 ?_;refine Sn (xW b c t 1) U8 ?_;refine Sw (_) U9 ag U2 ?_;refine Sf (j:=0) U12 ?_;refine Sa [1,3,6,13,14] a Z ?_;refine R8 fun R a=>?_;refine Se _ U7 ?_;refine C4 1 [1,3,6,13,14] a Z ?_;refine Sj (m':=1) om_ p (hn_ [1,3,6,13,14] Z) ⟨2,by decide,Z,Z,Z⟩
  refine R4 1 Z fun R a=>?_;refine S5 U11 ag U2 ?_;refine C4 2 [1,3,6,7,8,13,14] a Z ?_;refine Ss [0,1,2,3,4,5,6,7,8,9,10,11,12] [] Z kr_ (fun R w a=>?_);refine R9 2 Z ?_;refine R5 (PtrTo.block (Mem.get h mup) _) U8 ?_;refine R7 U6 ?_;refine Sm h1.m_ U10 om_ (bO (ow (eI d 2))) fl_ (fun x f=>?_);refine R5 f U8 ?_;refine R9 2 Z ?_;refine Sm e.m_ U10 om_ (bO (Fw (n ▸ eI d 2))) fl_ (fun y g=>?_);refine R5 g U8 ?_;refine Sn (xW b c t 2) U8 ?_;refine Sw (_) U9 ag U2 ?_;refine Sf (j:=0) U12 ?_;refine Sa [1,3,6,13,14] a Z ?_;refine R8 fun R a=>?_;refine Se _ U7 ?_;refine C4 1 [1,3,6,13,14] a Z ?_;refine Sj (m':=0) om_ p (hn_ [1,3,6,13,14] Z) ⟨3,by decide,Z,Z,Z⟩
 have v:j=3:=by
  simp only [OL] at q;omega
 subst v;refine R8 fun R a=>?_;refine Sd af U9 ?_;refine Sf (j:=0) U12 ?_;refine Sa [6] a Z ?_;refine Sh (SV af U4 ?_);exact ⟨Z,Z⟩
/-! Finer bounds. -/
theorem mj (c:QB k a)(d:QB m b):QB (k+m) (a*b):=by
 rw [fY];refine gE (Nat.mul_ne_zero a.den_nz b.den_nz) ?_ ?_
 ·rw [P5,Rf];exact Qf c.1 d.1
 rw [Rf];exact Qf c.2 d.2
theorem tW (c:QB k a)(d:QB m b):QB (k+m+1) (a+b):=by
 rw [jg];have e:B9 ^ (k+m+1)=B9 ^ k*B9 ^ m*B9:=by rw [PE,Rf]
 have f:(a.num*b.den).natAbs<B9 ^ k*B9 ^ m:=by rw [P5,Pb];exact Qf c.1 d.2
 have g:(b.num*a.den).natAbs<B9 ^ k*B9 ^ m:=by rw [P5,Pb,Pe];exact Qf c.2 d.1
 have h:a.den*b.den<B9 ^ k*B9 ^ m:=Qf c.2 d.2;have i:2*(B9 ^ k*B9 ^ m)<=B9 ^ k*B9 ^ m*B9:=by
  rw [Pe];exact PO _ dc_
 refine gE (Nat.mul_ne_zero a.den_nz b.den_nz) ?_ ?_
 ·rw [e];have:=Q2 (a.num*b.den) (b.num*a.den);omega
 rw [e];omega
theorem fx (c:QB k a)(d:QB m b):QB (k+m+1) (a-b):=by
 rw [RV];exact tW c (im d)
theorem QB_one:QB 1 1:=⟨by decide,by decide⟩
theorem QB_zero:QB 1 0:=⟨by decide,by decide⟩
def fj (a b c d:Rat):Rat:=a*d-b*c
theorem pd (C:Mem)(e:Tabs C)(a b c d:Rat)(k:Nat)(f:0<k)(m:k<=2000)(g:QB k a)(h:QB k b)(i:QB k c)(j:QB k d):Gives cx.P 299 [ai (qtx a),ai (qtx b),ai (qtx c),ai (qtx d)] C (ai (qtx (fj a b c d))):=by
 exact Sc func299 16 U3 fun w0=>C6 1 [0,1,2,3] Z<|R4 2 Z fun R l=>Sk (dN _ e.m_ a d k f om_ g j) U7 fl_<|R9 2 Z<|Sk (dN _ e.m_ b c k f om_ h i) U7 fl_<|Sk (dM _ e.m_ (a*d) (b*c) (k+k) om_ om_ (pM g j) (pM h i)) U7 fl_<|C4 1 [8] l Z<|Sb U2<|⟨Z,Z⟩
theorem jx {d:Rat}(e:QB k a)(f:QB k b)(g:QB k c)(h:QB k d):QB (4*k+1) (fj a b c d):=(fx (mj e h) (mj f g)).le om_
def Mz (c0 c1 c2:Pt)(z0 z1 z2:Rat):Pt :=
 ((1 / fj (c1.1-c0.1) (c1.2-c0.2) (c2.1-c0.1) (c2.2-c0.2))*fj (z1-z0) (c1.2-c0.2) (z2-z0) (c2.2-c0.2),
 (1 / fj (c1.1-c0.1) (c1.2-c0.2) (c2.1-c0.1) (c2.2-c0.2))*fj (c1.1-c0.1) (z1-z0) (c2.1-c0.1) (z2-z0))
def dX (pts:List Pt)(fs:List Rat)(t:Tri):Pt:=Mz (cor pts t 0) (cor pts t 1) (cor pts t 2) (fz fs t 0) (fz fs t 1) (fz fs t 2)
theorem Lq (a:MeshOk pts tris)(b:fs.length=pts.length)(c:∀ q∈fs,QB k q)(d:t∈tris)(j:Nat):QB k (fz fs t j) :=
 c _ (Oq (Fw (b ▸ eI (a.ins t d) j)))
theorem uJ (d:MeshOk pts tris)(g:fs.length=pts.length)(h:∀ q∈fs,QB k q)(e:t∈tris):QP (8*k+39) (dX pts fs t):=by
 have a:=fun j=>mI d e j;have f:=fun j=>Lq d g h e j;have b:∀ i j,QB 3 ((cor pts t i).1-(cor pts t j).1):=fun i j=>(fx (a i).1 (a j).1).le dc_;have hy:∀ i j,QB 3 ((cor pts t i).2-(cor pts t j).2):=fun i j=>(fx (a i).2 (a j).2).le dc_;have c:∀ i j,QB (2*k+1) (fz fs t i-fz fs t j):=fun i j=>(fx (f i) (f j)).le om_;have hm:QB 13 (fj ((cor pts t 1).1-(cor pts t 0).1) ((cor pts t 1).2-(cor pts t 0).2) ((cor pts t 2).1-(cor pts t 0).1) ((cor pts t 2).2-(cor pts t 0).2)):=(jx (k:=3) (b 1 0) (hy 1 0) (b 2 0) (hy 2 0)).le dc_;have l:fj ((cor pts t 1).1-(cor pts t 0).1) ((cor pts t 1).2-(cor pts t 0).2) ((cor pts t 2).1-(cor pts t 0).1) ((cor pts t 2).2-(cor pts t 0).2)≠0:=nn d e;have h1:QB 26 _:=(pN (k:=13) (QB_one.le dc_) hm l).le dc_;have m:QB (4*(2*k+3)+1) (fj (fz fs t 1-fz fs t 0) ((cor pts t 1).2-(cor pts t 0).2) (fz fs t 2-fz fs t 0) ((cor pts t 2).2-(cor pts t 0).2)):=jx (k:=2*k+3) ((c 1 0).le om_) ((hy 1 0).le om_) ((c 2 0).le om_) ((hy 2 0).le om_);have n:QB (4*(2*k+3)+1) (fj ((cor pts t 1).1-(cor pts t 0).1) (fz fs t 1-fz fs t 0) ((cor pts t 2).1-(cor pts t 0).1) (fz fs t 2-fz fs t 0)):=jx (k:=2*k+3) ((b 1 0).le om_) ((c 1 0).le om_) ((b 2 0).le om_) ((c 2 0).le om_);exact ⟨(mj h1 m).le om_,(mj h1 n).le om_⟩
theorem vP (C:Mem)(d:Tabs C)(r s:Value)(a:List Pt)(n:List Tri)(b:List Rat)(k:Nat)(u:0<k)(K:k<=100)(v:MeshIn C r a n)(o:MeshOk a n)(D:Sl C 1 s (b.map eR))(w:b.length=a.length)(E:∀ q∈b,QB k q)(i:Nat)(t:Tri)(x:n[i]?=some t) :
  Gives cx.P 276 [r,s,.int .i64 i] C (ptV (dX a b t)):=by
 have p:=Oq x;have F:=v;obtain ⟨L,M,rfl,h1,h2⟩:=id v.ex;have e:=fun j=>mI o p j;have m:=fun j=>Lq o w E p j;have g:∀ i j,QB 3 ((cor a t i).1-(cor a t j).1):=fun i j=>(fx (e i).1 (e j).1).le dc_;have hy:∀ i j,QB 3 ((cor a t i).2-(cor a t j).2):=fun i j=>(fx (e i).2 (e j).2).le dc_;have l:∀ i j,QB (2*k+1) (fz b t i-fz b t j):=fun i j=>(fx (m i) (m j)).le om_;have y:QB 13 (fj ((cor a t 1).1-(cor a t 0).1) ((cor a t 1).2-(cor a t 0).2) ((cor a t 2).1-(cor a t 0).1) ((cor a t 2).2-(cor a t 0).2)):=(jx (k:=3) (g 1 0) (hy 1 0) (g 2 0) (hy 2 0)).le dc_;have z:fj ((cor a t 1).1-(cor a t 0).1) ((cor a t 1).2-(cor a t 0).2) ((cor a t 2).1-(cor a t 0).1) ((cor a t 2).2-(cor a t 0).2)≠0:=nn o p;have A:QB 26 (1 / fj ((cor a t 1).1-(cor a t 0).1) ((cor a t 1).2-(cor a t 0).2) ((cor a t 2).1-(cor a t 0).1) ((cor a t 2).2-(cor a t 0).2)):=(pN (k:=13) (QB_one.le dc_) y z).le dc_;have H:QB (8*k+26) (fj (fz b t 1-fz b t 0) ((cor a t 1).2-(cor a t 0).2) (fz b t 2-fz b t 0) ((cor a t 2).2-(cor a t 0).2)):=(jx (k:=2*k+3) ((l 1 0).le om_) ((hy 1 0).le om_) ((l 2 0).le om_) ((hy 2 0).le om_)).le om_;have I:QB (8*k+26) (fj ((cor a t 1).1-(cor a t 0).1) (fz b t 1-fz b t 0) ((cor a t 2).1-(cor a t 0).1) (fz b t 2-fz b t 0)):=(jx (k:=2*k+3) ((g 1 0).le om_) ((l 1 0).le om_) ((g 2 0).le om_) ((l 2 0).le om_)).le om_;refine Sc func276 98 U3 fun w0=>?_;refine R8 fun R c=>?_;refine So U6 (fun N=>?_);refine Sq U5 (fun O=>?_);refine Sa [1,2,3,6] c Z ?_;refine R8 fun R c=>?_;refine Sd ae U9 ?_;refine R9 2 Z ?_;refine Sg (xM _ _ _ a n b F.m_ o D.m_ w i t x) U7 ?_;refine Sq U5 (fun Q=>?_);refine Sf (j:=0) U12 ?_;refine Sa [6,7] c Z ?_;refine G.freeze 0 Z (fun J _ f=>?_);refine Ss [0,1,2,3,4,5,6,7,8,9,10,11,12,13,14,15,16,17,18,19] [(8,1),(17,1)] Z kr_ (fun R B c=>?_);refine Sw (3) U9 ag U2 ?_;refine R9 2 Z ?_;refine R5 (bkT f 1) U8 ?_;refine Sw (0) U9 ag U2 ?_;refine R9 2 Z ?_;refine R5 (bkT f 1) U8 ?_;refine Su (fun _=>(dM _ d.m_ (cor a t 1).1 (cor a t 0).1 1 dc_ dc_ (e 1).1 (e 0).1)) U9 ?_;refine Sw (3) U9 ag U2 ?_;refine R9 2 Z ?_;refine R5 (bkT f 1) U8 ?_;refine Sw (0) U9 ag U2 ?_;refine R9 2 Z ?_;refine R5 (bkT f 1) U8 ?_;refine Su (fun _=>(dM _ d.m_ (cor a t 1).2 (cor a t 0).2 1 dc_ dc_ (e 1).2 (e 0).2)) U9 ?_;refine C4 2 [6,7,8,9] c Z ?_;refine Ss [0,1,2,3,4,5,6,7,8,9,10,11,12,13,14,15,16,17,18,19] [(8,1),(17,1)] Z kr_ (fun R B c=>?_);refine Sw (6) U9 ag U2 ?_;refine R9 2 Z ?_;refine R5 (bkT f 1) U8 ?_;refine Sw (0) U9 ag U2 ?_;refine R9 2 Z ?_;refine R5 (bkT f 1) U8 ?_;refine Su (fun _=>(dM _ d.m_ (cor a t 2).1 (cor a t 0).1 1 dc_ dc_ (e 2).1 (e 0).1)) U9 ?_;refine Sw (6) U9 ag U2 ?_;refine R9 2 Z ?_;refine R5 (bkT f 1) U8 ?_;refine Sw (0) U9 ag U2 ?_;refine R9 2 Z ?_;refine R5 (bkT f 1) U8 ?_;refine Su (fun _=>(dM _ d.m_ (cor a t 2).2 (cor a t 0).2 1 dc_ dc_ (e 2).2 (e 0).2)) U9 ?_;refine C4 2 [6,7,8,9,10,11] c Z ?_;refine Ss [0,1,2,3,4,5,6,7,8,9,10,11,12,13,14,15] [(6,1),(13,1)] Z kr_ (fun R B c=>?_);refine Sw (3) U9 ag U2 ?_;refine R7 U6 ?_;refine R5 (bkT f 1) U8 ?_;refine Sw (0) U9 ag U2 ?_;refine R7 U6 ?_;refine R5 (bkT f 1) U8 ?_;refine Su (fun _=>(dM _ d.m_ (fz b t 1) (fz b t 0) k u om_ (m 1) (m 0))) U9 ?_;refine Sw (6) U9 ag U2 ?_;refine R7 U6 ?_;refine R5 (bkT f 1) U8 ?_;refine Sw (0) U9 ag U2 ?_;refine R7 U6 ?_;refine R5 (bkT f 1) U8 ?_;refine Su (fun _=>(dM _ d.m_ (fz b t 2) (fz b t 0) k u om_ (m 2) (m 0))) U9 ?_;refine C4 2 [6,8,9,10,11,12,13] c Z ?_;refine C6 1 [6,8,9,10,11,12,13,14] Z ?_;refine R4 5 Z fun R c=>?_;refine Sk (pd _ d.m_ _ _ _ _ 3 dc_ dc_ (g 1 0) (hy 1 0) (g 2 0) (hy 2 0)) U7 fl_ ?_;refine Sk (by have h:=iF J d.m_ 1 _ 13 dc_ dc_ (QB_one.le dc_) y z;rw [de] at h;exact h) U7 fl_ ?_;refine C4 5 [6,8,9,10,11,12,13,14,15] c Z ?_;refine R4 6 Z fun R c=>?_;refine Sk (pd _ d.m_ (fz b t 1-fz b t 0) ((cor a t 1).2-(cor a t 0).2) (fz b t 2-fz b t 0) ((cor a t 2).2-(cor a t 0).2) (2*k+3) om_ om_ ((l 1 0).le om_) ((hy 1 0).le om_) ((l 2 0).le om_) ((hy 2 0).le om_)) U7 fl_ ?_;refine Sk (dN _ d.m_ _ _ (8*k+26) om_ om_ (A.le om_) H) U7 fl_ ?_;refine R9 6 Z ?_;refine Sk (pd _ d.m_ ((cor a t 1).1-(cor a t 0).1) (fz b t 1-fz b t 0) ((cor a t 2).1-(cor a t 0).1) (fz b t 2-fz b t 0) (2*k+3) om_ om_ ((g 1 0).le om_) ((l 1 0).le om_) ((g 2 0).le om_) ((l 2 0).le om_)) U7 fl_ ?_;refine Sk (dN _ d.m_ _ _ (8*k+26) om_ om_ (A.le om_) I) U7 fl_ ?_;refine Sn (fR (dX a b t)) U8 ?_;refine Sf (j:=0) U12 ?_;refine Sa [6] c Z ?_;refine Sh (SV af U4 ?_);exact ⟨Z,Z⟩
def G5 (l:List Rat):Rat:=l.foldl (·+·) 0
theorem DE (l:List Rat)(q:Rat):G5 (l++[q])=G5 l+q:=by unfold G5;rw [List.foldl_append];rfl
theorem Kx (C:Mem)(g:Tabs C)(v:Value)(l:List Rat)(k:Nat)(h:0<k)(j:k<=10000)(b:Sl C 1 v (l.map eR))(n:∀ q∈l,QB k q)(o:∀ i,QB k (G5 (l.take i))) :
  Gives cx.P 312 [v] C (ai (qtx (G5 l))):=by
 obtain ⟨p,c0,rfl,r,z,_⟩:=id b;have A:maxLen<=9223372036854775807:=by simp [maxLen]
 simp only [al] at b r ⊢;refine Sc func312 17 U3 fun w0=>C6 1 [0] Z<|C6 1 [0,3] Z<|C6 3 [3,6,7,8] Z<|G.loop (fun fr C' t u=>∃ (i:Nat)(s:Str),(i<=l.length/\s=qtx (G5 (l.take i)))/\fr=[(3,[],ai s),(6,[],.slice p l.length c0),(7,[],.int .i64 l.length),(8,[],.int .i64 i)]/\t=[]/\u=l.length-i) (hn_ [3,6,7,8] Z) ⟨0,[48],⟨Ow _,qtx_zero.symm⟩,Z,Z,Z⟩ (fun fr B D m w x=>?_);obtain ⟨i,s,⟨E,f⟩,rfl,rfl,rfl⟩:=x;refine C6 1 [3,6,7,8,9] Z<|R6 (fun c=>?_) fun c=>?_
 ·have d:i<l.length:=by simpa using c
  obtain ⟨q,e⟩:∃ q,l[i]?=some q:=⟨l[i],ak d⟩;subst f;refine R8 fun R a=>Sm b.m_ U10 om_ (bO e) fl_ fun F y=>R5 y U8<|C4 1 [3,5,6,7,8] a Z<|R4 2 Z fun R a=>Sg (lT _ g.m_ (G5 (l.take i)) q k h j (o i) (n q (Oq e))) U7<|C4 1 [3,6,7,8] a Z<|R8 fun R a=>Se _ U7<|C4 1 [3,6,7,8] a Z<|Sj (m':=l.length-(i+1)) om_ w (hn_ [3,6,7,8] Z) ⟨i+1,_,⟨by omega,by rw [OS,e,PF,DE]⟩,Z,Z,Z⟩
 have d:i=l.length:=by
  have:¬ i<l.length:=by simpa using c
  omega
 exact C6 2 [2] Z<|Sb U2<|⟨by rw [f,d,OH],Z⟩
def EK (q:Rat):Value:=if bg (qtx q) then .tuple #[ai (qtx q),.int .i64 0] else .tuple #[ai [],.int .i64 4]
theorem Fz (C:Mem)(b:Tabs C)(q:Rat)(c:(qtx q).length<=999998):Gives cx.P 296 [ai (qtx q)] C (EK q):=by
 refine Sc func296 8 U3 fun w0=>C6 2 [0] Z<|R4 1 Z fun R d=>Sg (dF _ b.m_ _ c) U7<|C4 1 [0,6] d Z<|R6 (fun a=>?_) fun a=>?_
 ·have e:bg (qtx q)=false:=by
   rcases gk (bg (qtx q)) with ⟨h1,h2⟩ | ⟨h1,h2⟩
   ·rw [h1] at a;exact absurd a dc_
   exact h2
  refine C6 2 [2,3] Z<|Sh (G.dropAll (Sy U3 ?_));exact ⟨by unfold EK;rw [e];rfl,Z⟩
 have f:bg (qtx q)=true:=by
  rcases gk (bg (qtx q)) with ⟨h1,h2⟩ | ⟨h1,h2⟩
  ·exact h2
  rw [h1] at a;exact absurd a dc_
 refine C6 3 [2,3] Z<|Sh (G.dropAll (Sy U3 ?_));exact ⟨by unfold EK;rw [f];rfl,Z⟩
def onQ (pts:List Pt)(fs:List Rat)(t:Tri)(p:Pt):Rat:=G5 [fz fs t 0,(dX pts fs t).1*(p.1-(cor pts t 0).1),(dX pts fs t).2*(p.2-(cor pts t 0).2)]
theorem JH (n:k<=23)(a:MeshOk pts tris)(c:fs.length=pts.length)(d:∀ q∈fs,QB k q)(b:t∈tris)(e:QP 23 p):QB 600 (onQ pts fs t p)/\(∀ i,QB 600 (G5 ([fz fs t 0,(dX pts fs t).1*(p.1-(cor pts t 0).1),(dX pts fs t).2*(p.2-(cor pts t 0).2)].take i)))/\QB 600 (fz fs t 0)/\QB 600 ((dX pts fs t).1*(p.1-(cor pts t 0).1))/\QB 600 ((dX pts fs t).2*(p.2-(cor pts t 0).2)):=by
 have hs:=uJ a c d b;have f:=mI a b 0;have g:=Lq a c d b 0;have h1:QB 248 ((dX pts fs t).1*(p.1-(cor pts t 0).1)):=(mj hs.1 (fx e.1 f.1)).le om_;have h2:QB 248 ((dX pts fs t).2*(p.2-(cor pts t 0).2)):=(mj hs.2 (fx e.2 f.2)).le om_;have h:QB 25 (0+fz fs t 0):=(tW QB_zero g).le om_;have j:QB 274 (0+fz fs t 0+(dX pts fs t).1*(p.1-(cor pts t 0).1)):=(tW h h1).le om_;have l:QB 523 (0+fz fs t 0+(dX pts fs t).1*(p.1-(cor pts t 0).1)+(dX pts fs t).2*(p.2-(cor pts t 0).2)):=(tW j h2).le om_;refine ⟨l.le dc_,fun i=>?_,g.le om_,h1.le dc_,h2.le dc_⟩;rcases (by omega:i=0∨i=1∨i=2∨3<=i) with rfl | rfl | rfl | m
 ·exact QB_zero.le dc_
 ·exact h.le dc_
 ·exact j.le dc_
 rw [Pa (by simpa using m)];exact l.le dc_
theorem Ki (e:QB k a)(f:QB k b)(g:QB k c):∀ q∈[a,b,c],QB k q:=by
 intro q d;simp only [OE,PL,QW] at d;rcases d with rfl | rfl | rfl <;> assumption
theorem N5 (C:Mem)(d:Tabs C)(u v:Value)(a:List Pt)(g:List Tri)(c:List Rat)(k:Nat)(E:0<k)(F:k<=23)(w:MeshIn C u a g)(e:MeshOk a g)(h:Sl C 1 v (c.map eR))(l:c.length=a.length)(r:∀ q∈c,QB k q)(i:Nat)(t:Tri)(m:g[i]?=some t)(p:Pt)(f:QP 23 p) :
  Gives cx.P 297 [u,v,.int .i64 i,ptV p] C (ai (qtx (onQ a c t p))):=by
 have n:=Oq m;have x:=e.ins t n;have y:=w;have z:=h;obtain ⟨X,Y,rfl,h1,h2⟩:=id w.ex;obtain ⟨A1,c1,rfl,H,aa,_⟩:=id h1;obtain ⟨A2,c2,rfl,I,ab,_⟩:=id h2;obtain ⟨A4,c4,rfl,ac,ad,_⟩:=id h;have ae:maxLen<=9223372036854775807:=by simp [maxLen]
 simp only [al] at h1 h2 h z y H I ⊢;have af:=(aF.1 m).1;have o:=mI e n 0;obtain ⟨ag,J,K,L,M⟩:=JH F e l r n f;have hs:=uJ e l r n;have N:QB 25 (p.1-(cor a t 0).1):=(fx f.1 o.1).le dc_;have O:QB 25 (p.2-(cor a t 0).2):=(fx f.2 o.2).le dc_;refine Sc func297 49 U3 fun w0=>R8 fun R b=>So U6 fun b4=>So U6 fun b7=>C4 1 [1,2,4,7] b Z<|G.freeze 1 Z fun _ _ s=>R8 fun R b=>R5 (PtrTo.block (Mem.get s mup) _) U8<|R9 2 Z<|Sk (vP _ d.m_ _ _ a g c k E om_ y.m_ e z.m_ l r i t m) U7 fl_<|Sq U5 fun b9=>Sf (j:=0) U12<|Sa [1,2,4,7,9] b Z<|R4 1 Z fun R b=>R5 (PtrTo.block (Mem.get s mup) _) U8<|R7 U6<|Sm h2.m_ U10 om_ (bO m) fl_ fun ah Q=>TC U9 (fun _=>Q) (fun _=>⟨by omega,om_⟩) fl_ Z (fun aj S=>?_);have T:=S trivial;exact R5 T U8<|C4 1 [1,4,7,9,10] b Z<|R4 1 Z fun R b=>R5 (PtrTo.block (Mem.get s mup) _) U8<|R7 U6<|Sm h1.m_ U10 om_ (bO (ow x.1)) fl_ fun ak U=>R5 U U8<|Sq U5 fun am=>Sf (j:=0) U12<|Sa [1,7,9,10,11] b Z<|G.freeze 0 Z fun _ _ A=>G.freeze 0 Z fun _ _ B=>G.freeze 0 Z fun _ _ D=>Ss [0,1,2,3,4,5,6,7,8,9,10,11,12,13,14,15,16,17,18,19,20,21,22] [(10,1),(11,1),(18,1),(19,1),(21,1)] Z kr_ fun R hB b=>R9 2 Z<|Sm h.m_ U10 om_ (bO (Fw (l ▸ x.1))) fl_ fun an V=>R5 V U8<|R7 U6<|R5 (bkT B 1) U8<|R7 U6<|R5 (bkT D 1) U8<|R7 U6<|R5 (bkT A 1) U8<|Su (fun _=>(dM _ d.m_ p.1 (cor a t 0).1 23 dc_ dc_ f.1 (o.1.le dc_))) U9<|Su (fun _=>(dN _ d.m_ _ _ 300 dc_ dc_ (hs.1.le om_) (N.le dc_))) U9<|R7 U6<|R5 (bkT B 1) U8<|R7 U6<|R5 (bkT D 1) U8<|R7 U6<|R5 (bkT A 1) U8<|Su (fun _=>(dM _ d.m_ p.2 (cor a t 0).2 23 dc_ dc_ f.2 (o.2.le dc_))) U9<|Su (fun _=>(dN _ d.m_ _ _ 300 dc_ dc_ (hs.2.le om_) (O.le dc_))) U9<|Sr ([fz c t 0,(dX a c t).1*(p.1-(cor a t 0).1),(dX a c t).2*(p.2-(cor a t 0).2)].map eR) U12 fun ao _ _ W=>Su (fun _=>(Kx _ d.m_ _ _ 600 dc_ dc_ W.m_ (Ki K L M) J)) U9<|C4 1 [8] b Z<|Sb U2<|⟨Z,Z⟩
def GS (pts:List Pt)(tris:List Tri)(fs:List Rat)(p:Pt):Value:=match oP pts tris p with
 | []=>.tuple #[ai [],.int .i64 28]
 | i::_=>EK (onQ pts fs (tris.getD i (0,0,0)) p)
theorem Gp (h:∀ q∈fs,bg (qtx q)=true):(fs.map qtx).all bg=true:=by
 rw [OM];intro s hs;obtain ⟨q,a,rfl⟩:=OB.1 hs;exact h q a
theorem xQ (a:List Rat):a.map eR=(a.map qtx).map mR:=by rw [Pc];rfl
theorem vh (b:k<=100)(h:∀ q∈fs,QB k q):∀ s∈fs.map qtx,s.length<=999998:=by
 intro s hs;obtain ⟨q,a,rfl⟩:=OB.1 hs;have:=bK ((h q a).le (QH k)) om_;omega
theorem wh (C:Mem)(i:Tabs C)(c v d:Value)(b:List Pt)(f:List Tri)(a:List Rat)(j:MeshIn C c b f)(l:Good b f)(m:Sl C 1 v [[d]])(g:Sl C 1 d (a.map eR))(n:a.length=b.length)(r:k<=23)(o:∀ q∈a,QB k q)(p:∀ q∈a,bg (qtx q)=true) :
  Gives cx.P 103 [c,v] C (.int .i64 0):=by
 rw [xQ] at g;have h:=wi C i c v d b f (a.map qtx) j l m g (vh om_ o);have e:Dd b.length (a.map qtx)=0:=by unfold Dd;rw [aI (by simpa using n),Gp p];rfl
 rwa [e] at h
theorem M5 (h:i∈oP pts tris p):∃ t,tris[i]?=some t/\tris.getD i (0,0,0)=t/\xB pts p t=true:=by
 unfold oP at h;rw [Qs,ON] at h;obtain ⟨h1,h2⟩:=h;obtain ⟨t,a⟩:∃ t,tris[i]?=some t:=⟨tris[i],ak h1⟩;have b:tris.getD i (0,0,0)=t:=by rw [ax,a,Pu]
 rw [b] at h2;exact ⟨t,a,b,h2⟩
theorem MX (h:QB 600 q):(qtx q).length<=999998:=OQ (bK h dc_) dc_
theorem GR (C:Mem)(e:Tabs C)(x y:Value)(a:List Pt)(c:List Tri)(b:List Rat)(k:Nat)(I:0<k)(j:k<=23)(z:MeshIn C x a c)(l:Good a c)(f:Sl C 1 y (b.map eR))(m:b.length=a.length)(n:∀ q∈b,QB k q)(J:∀ q∈b,bg (qtx q)=true)(p:Pt)(o:QP 23 p)(K:PtR p) :
  Gives cx.P 275 [x,y,ptV p] C (GS a c b p):=by
 have A:=l.ok;have s:=z;obtain ⟨X,Y,rfl,h1,h2⟩:=id z.ex;obtain ⟨L,M,rfl,aa,ab,_⟩:=id f;simp only [al] at f ⊢;have ac:maxLen<=9223372036854775807:=by simp [maxLen]
 refine Sc func275 40 U3 fun w0=>R8 fun R d=>So U6 fun b3=>So U6 fun b5=>C4 2 [1,3,5] d Z<|G.freeze 1 Z fun _ _ u=>G.freeze 0 Z fun _ _ B=>R8 fun R d=>R5 (PtrTo.block (Mem.get u mup) _) U8<|R7 U6<|Sr [[.slice L b.length M]] U12 fun ad _ _ N=>Sg (wh _ e.m_ _ _ _ a c b s.m_ l N.m_ f.m_ m j n J) U7<|C4 1 [1,3,5,8] d Z<|C6 2 [1,3,5,8,16] Z<|R6 (fun D=>?_) fun D=>?_
 ·exact absurd D dc_
 refine R8 fun R d=>R5 (PtrTo.block (Mem.get u mup) _) U8<|R5 (PtrTo.block (Mem.get B mup) _) U8<|SI (oO _ e.m_ _ a c p s.m_ l o K) U7 (fun ae _ _ O=>?_);obtain ⟨wv,rfl,v⟩:=O;obtain ⟨Aw,cw,E,_⟩:=id v;rw [al] at E;subst E;refine C4 5 [1,3,5,9,10] d Z<|C6 2 [1,3,5,9,10,25] Z<|R6 (fun F=>?_) fun F=>?_
 ·exact absurd F dc_
 refine C6 3 [1,3,5,9,29] Z<|R6 (fun g=>?_) fun g=>?_
 ·have Q:oP a c p=[]:=by
   have h:(((oP a c p).length:Nat):Int)=0:=by simpa using g
   exact O6 om_
  refine C6 2 [6,7] Z<|Sh (G.dropAll (Sy U3 ?_));exact ⟨by unfold GS;rw [Q];rfl,Z⟩
 obtain ⟨i,r,w⟩:∃ i r,oP a c p=i::r:=by
  cases S:oP a c p with
  | nil=>rw [S] at g;exact absurd g dc_
  | cons i r=>exact ⟨i,r,rfl⟩
 obtain ⟨t,H,T,_⟩:=M5 (pts:=a) (tris:=c) (p:=p) (i:=i) (by rw [w];simp);have U:=JH j A m n (Oq H) o;have V:GS a c b p=EK (onQ a b t p):=by unfold GS;rw [w];show EK (onQ a b (c.getD i (0,0,0)) p)=_;rw [T]
 rw [w] at v ⊢;refine Ss [0,1,2,3,4,5,6,7,8,9,10,11] [(6,1),(7,1)] Z kr_ fun R hB d=>R5 (PtrTo.block (Mem.get u mup) _) U8<|R9 2 Z<|Sm v.m_ U10 om_ (rfl:(List.map aQ (i::r))[0]?=some (aQ i)) fl_ fun af W=>R5 W U8<|R5 (PtrTo.block (Mem.get B mup) _) U8<|SF (fun _=>(N5 _ e.m_ _ _ a c b k I j s.m_ A f.m_ m n i t H p o)) U9<|SF (fun _=>(Fz _ e.m_ _ (MX U.1))) U9 ?_;rw [show EK (onQ a b t p)=.tuple #[if bg (qtx (onQ a b t p)) then ai (qtx (onQ a b t p)) else ai [],.int .i64 (if bg (qtx (onQ a b t p)) then 0 else 4)] by unfold EK;split <;> rfl];refine C4 4 [6,7] d Z<|Sh (G.dropAll (Sy U3 ?_));refine ⟨?_,Z⟩;rw [V];unfold EK;split <;> rfl
theorem MP (h:QP 22 p):PtR p:=⟨bM h.1,bM h.2⟩
theorem sw (C:Mem)(f:Tabs C)(l m:Value)(c:List Pt)(d:List Tri)(b:List Rat)(k:Nat)(z:0<k)(A:k<=23)(n:MeshIn C l c d)(o:Good c d)(e:Sl C 1 m (b.map eR))(p:b.length=c.length)(r:∀ q∈b,QB k q)(B:∀ q∈b,bg (qtx q)=true)(i:Nat)(t:Tri)(s:d[i]?=some t)(u:QP 22 (dX c b t)) :
  Gives cx.P 244 [l,m,.int .i64 i] C (.tuple #[ptV (dX c b t),.int .i64 0]):=by
 have D:=o.ok;have g:=n;have I:=(aF.1 s).1;obtain ⟨J,K,rfl,h1,h2⟩:=id n.ex;obtain ⟨A2,c2,rfl,L,M,_⟩:=id h2;obtain ⟨E,F,rfl,N,O,_⟩:=id e;simp only [al] at e h2 g ⊢;have Q:maxLen<=9223372036854775807:=by simp [maxLen]
 refine Sc func244 37 U3 fun w0=>R8 fun R a=>So U6 fun S=>Sq U5 fun T=>C4 1 [1,2,3,6] a Z<|G.freeze 1 Z fun _ _ h=>R8 fun R a=>R5 (PtrTo.block (Mem.get h mup) _) U8<|R7 U6<|Sr [[.slice E b.length F]] U12 fun U _ _ H=>Sg (wh _ f.m_ _ _ _ c d b g.m_ o H.m_ e.m_ p A r B) U7<|C4 1 [1,2,3,6,8] a Z<|C6 2 [1,2,3,6,8,15] Z<|R6 (fun v=>?_) fun v=>?_
 ·exact absurd v dc_
 refine R4 5 Z fun R a=>Sz U6 (fun _=>PtrTo.block (Mem.get h mup) _) U3<|R9 2 Z<|SA U8<|Sa [1,2,3,6,26] a Z<|R6 (fun w=>?_) fun w=>?_
 ·exfalso;simp only [PX,Oz] at w;omega
 refine R8 fun R a=>R5 (PtrTo.block (Mem.get h mup) _) U8<|R9 2 Z<|Sk (vP _ f.m_ _ _ c d b k z om_ g.m_ D e.m_ p r i t s) U7 fl_<|Sq U5 fun V=>Sf (j:=0) U12<|Sa [6,9] a Z<|G.freeze 0 Z fun _ _ x=>R8 fun R a=>R5 (PtrTo.block (Mem.get x mup) _) U8<|Sk (gY _ f.m_ _ (u.le dc_) (MP u)) U7 fl_<|C4 1 [6,9,34] a Z<|R6 (fun y=>?_) fun y=>?_
 ·exact absurd y dc_
 refine R8 fun R a=>R5 (PtrTo.block (Mem.get x mup) _) U8<|Sf (j:=0) U12<|C4 1 [6,7] a Z<|Sh (Tl af U5 ?_);exact ⟨Z,Z⟩
def kb {α:Type}(p:α->Bool):List α->Nat->Int
 | [],_=>-1
 | x::l,k=>if p x then (k:Nat) else kb p l (k+1)
theorem nl {a:Type}{p:a->Bool}:∀ {l:List a}{i k:Nat}{x:a},l[i]?=some x->p x=true->(∀ y∈l.take i,p y=false)->kb p l k=((k+i:Nat):Int)
 | y::l,0,k,x,h,b,_=>by
  simp only [List.getElem?_cons_zero,O0] at h;subst h;simp [kb,b]
 | y::l,i+1,k,x,h,b,c=>by
  simp only [Qq] at h;have hy:p y=false:=c y am;have:=nl (k:=k+1) h b (fun z d=>c z (by simp [d]));simp only [kb,hy,Pf,PG,this];omega
theorem kX {a:Type}{p:a->Bool}:∀ {l:List a}{k:Nat},(∀ y∈l,p y=false)->kb p l k=-1
 | [],_,_=>rfl
 | y::l,k,h=>by
  simp only [kb,h y aJ,Pf,PG];exact kX fun z b=>h z (OA _ b)
theorem lY (p:α->Bool)(l:List α):(kb p l 0=-1/\∀ y∈l,p y=false)∨∃ (i:Nat)(x:α),kb p l 0=(i:Nat)/\l[i]?=some x/\p x=true/\∀ y∈l.take i,p y=false:=by
 by_cases h:∀ y∈l,p y=false
 ·exact .inl ⟨kX h,h⟩
 right;have d:∀ (l:List α),(¬ ∀ y∈l,p y=false)->∃ (i:Nat)(x:α),l[i]?=some x/\p x=true/\∀ y∈l.take i,p y=false:=by
  intro l;induction l with
  | nil=>intro h;exact absurd (fun y hy=>(by cases hy)) h
  | cons a l e =>
   intro h;by_cases b:p a=true
   ·exact ⟨0,a,Z,b,by simp⟩
   have c:p a=false:=by simpa using b
   obtain ⟨i,x,h1,h2,h3⟩:=e (fun h2=>h (fun y hy=>by
    rcases OE.1 hy with rfl | hy
    ·exact c
    exact h2 y hy))
   refine ⟨i+1,x,by simpa using h1,h2,fun y hy=>?_⟩;rw [List.take_succ_cons] at hy;rcases OE.1 hy with rfl | hy
   ·exact c
   exact h3 y hy
 obtain ⟨i,x,h1,h2,h3⟩:=d l h;exact ⟨i,x,by rw [nl h1 h2 h3,PJ],h1,h2,h3⟩
structure Lay where
 unit:Str
 min:Rat
 max:Option Rat
def uf:Option Rat->Str
 | none=>[]
 | some q=>qtx q
def xR (x:Lay):List Value:=[ai x.unit,ai (qtx x.min),ai (uf x.max)]
def isU (u:Str)(x:Lay):Bool:=decide (x.unit=u)
def Mh (x:Lay):Prop:=QB 22 x.min/\(∀ q,x.max=some q->QB 22 q)/\x.unit.length<=999998
theorem oE (m:Option Rat):(!((⟨(uf m).toArray⟩:ByteArray).data.toList == (⟨#[]⟩:ByteArray).data.toList))=m.isSome:=by
 cases m with
 | none=>rfl
 | some q =>
  have:=Eh q;show (!(qtx q == []))=true;cases h:qtx q with
  | nil=>rw [h] at this;simp at this
  | cons a l=>rfl
theorem kW (C:Mem)(v:Value)(l:List Lay)(g:Nat)(d:List Value)(a:Lay->Bool)(e:Sl C 3 v (l.map xR))(_A:Jog.Enters cx.P g=true)
  (n:∀ x∈l,∀ D:Mem,C.le D->Gives cx.P g (.agg ⟨xR x⟩::d) D (.bool (a x))) :
  Gives cx.P 159 [v,.func (.func g) #[] ⟨d⟩] C (.int .i64 (kb a l 0)):=by
 obtain ⟨o,c0,rfl,p,B,_⟩:=id e;have E:maxLen<=9223372036854775807:=by simp [maxLen]
 simp only [al] at e p ⊢;refine Sc func159 19 U3 fun w0=>C6 1 [0,1] Z<|C6 3 [0,1,7,8] Z<|G.loop (fun fr C' q r=>∃ (i:Nat),(i<=l.length/\∀ y∈l.take i,a y=false)/\fr=[(0,[],.slice o l.length c0),(1,[],.func (.func g) #[] ⟨d⟩),(7,[],.int .i64 l.length),(8,[],.int .i64 i)]/\q=[]/\r=l.length-i) (hn_ [0,1,7,8] Z) ⟨0,⟨Ow _,by simp⟩,Z,Z,Z⟩ (fun fr F H m s t=>?_);obtain ⟨i,⟨I,b⟩,rfl,rfl,rfl⟩:=t;refine C6 1 [0,1,7,8,9] Z<|R6 (fun f=>?_) fun f=>?_
 ·have h:i<l.length:=by simpa using f
  obtain ⟨x,c⟩:∃ x,l[i]?=some x:=⟨l[i],ak h⟩;refine C6 2 [0,1,5,7,8] Z<|R4 3 Z fun R j=>Sm e.m_ U10 om_ (bO c) fl_ fun J u=>R5 u U8<|Sg (n x (Oq c) _ mup) U7<|Sa [0,1,5,7,8,16] j Z<|R6 (fun k=>?_) fun k=>?_
  ·have w:a x=true:=k;exact C6 2 [4] Z<|Sb U2<|⟨by rw [nl c w b,PJ],Z⟩
  have z:a x=false:=k;refine R8 fun R j=>Se _ U7<|C4 1 [0,1,7,8] j Z<|Sj (m':=l.length-(i+1)) om_ s (hn_ [0,1,7,8] Z) ⟨i+1,⟨by omega,fun y hy=>by
   rw [OS,c] at hy;rcases OJ.1 hy with hy | hy
   ·exact b y hy
   simp only [PF,OP] at hy;subst hy;exact z⟩,Z,Z,Z⟩
 have h:i=l.length:=by
  have:¬ i<l.length:=by simpa using f
  omega
 exact C6 1 [4] Z<|Sb U2<|⟨by rw [h,OH] at b;rw [kX b],Z⟩
theorem G7 (a b:Str):((⟨a.toArray⟩:ByteArray).data.toList == (⟨b.toArray⟩:ByteArray).data.toList)=decide (a=b):=by
 show (a == b)=_;by_cases h:a=b <;> simp [h]
theorem F4 (C:Mem)(b:Nat)(u:Str)(x:Lay)(c:C b=some (.cells ⟨[ai u]⟩ 9 (0,0))):Gives cx.P 160 [.agg ⟨xR x⟩,.pointer (some ⟨b,0,none⟩)] C (.bool (isU u x)):=by
 exact Sc func160 8 U3 fun w0=>R8 fun R a=>So U6 fun d=>C4 1 [1,2] a Z<|R4 1 Z fun R a=>Sd af U9<|R5 (PtrTo.block (Mem.get c mup) _) U8<|C4 2 [3] a Z<|Sb U2<|⟨by unfold isU;rw [<- G7],Z⟩
theorem yi (C:Mem)(b:Nat)(u:Str)(x:Lay)(c:C b=some (.cells ⟨[ai u]⟩ 9 (0,0))):Gives cx.P 163 [.agg ⟨xR x⟩,.pointer (some ⟨b,0,none⟩)] C (.bool (isU u x)):=by
 exact Sc func163 8 U3 fun w0=>R8 fun R a=>So U6 fun d=>C4 1 [1,2] a Z<|R4 1 Z fun R a=>Sd af U9<|R5 (PtrTo.block (Mem.get c mup) _) U8<|C4 2 [3] a Z<|Sb U2<|⟨by unfold isU;rw [<- G7],Z⟩
theorem AH (C:Mem)(v:Value)(l:List Lay)(u:Str)(c:Sl C 3 v (l.map xR)):Gives cx.P 106 [v,ai u] C (.int .i64 (kb (isU u) l 0)):=by
 exact Sc func106 8 U3 fun w0=>R8 fun R a=>So U6 fun b=>C4 1 [0,3] a Z<|G.freeze 0 Z fun _ _ d=>R4 2 Z fun R a=>Sg (kW _ _ l 160 [.pointer (some ⟨b,0,none⟩)] (isU u) c.m_ Z (fun x _ D e=>F4 D b u x (e _ _ (Mem.get d mup)))) U7<|C4 1 [4] a Z<|Sb U2<|⟨Z,Z⟩
theorem jv (C:Mem)(v:Value)(l:List Lay)(u:Str)(c:Sl C 3 v (l.map xR)):Gives cx.P 109 [v,ai u] C (.int .i64 (kb (isU u) l 0)):=by
 exact Sc func109 8 U3 fun w0=>R8 fun R a=>So U6 fun b=>C4 1 [0,3] a Z<|G.freeze 0 Z fun _ _ d=>R4 2 Z fun R a=>Sg (kW _ _ l 163 [.pointer (some ⟨b,0,none⟩)] (isU u) c.m_ Z (fun x _ D e=>yi D b u x (e _ _ (Mem.get d mup)))) U7<|C4 1 [4] a Z<|Sb U2<|⟨Z,Z⟩
theorem sD (h:QB 22 q):(qtx q).length<=999998:=OQ (bK h dc_) dc_
theorem BE (h:QB 22 q):(qtx q).length<=1000000:=OQ (bK h dc_) dc_
theorem If (C:Mem)(d:Tabs C)(x:Lay)(e:Mh x):Gives cx.P 104 [.agg ⟨xR x⟩] C (.int .i64 0):=by
 obtain ⟨u,f,c⟩:=x;obtain ⟨h1,h2,h3⟩:=e;simp only at h1 h2 h3;clear h3;have g:(uf c).length<=999998:=by
  cases c with
  | none=>decide
  | some q=>exact sD (h2 q rfl)
 refine Sc func104 17 U3 fun w0=>R8 fun R a=>So U6 fun h=>C4 1 [1] a Z<|R4 1 Z fun R a=>Sd af U9<|Sg (dF _ d.m_ (qtx f) (sD h1)) U7<|C4 2 [1,3] a Z<|R6 (fun h3=>?_) fun h3=>?_
 ·exfalso;rw [wg h1] at h3;exact absurd h3 dc_
 refine R4 1 Z fun R a=>Sd af U9<|R9 3 Z<|Sd af U9<|SF (fun _=>(dF _ d.m_ (uf c) g)) U9<|R7 U6<|Sv U8<|C4 1 [3] a Z<|R6 (fun b=>?_) fun b=>?_
 ·exfalso;simp only [] at b;cases c with
  | none=>exact absurd b dc_
  | some q =>
   rw [show uf (some q)=qtx q from rfl,wg (h2 q rfl)] at b;simp at b
 exact C6 1 [2] Z<|Sb U2<|⟨Z,Z⟩
end Go.Proofs.YthnpijdjlddpmaaGreatDoor
