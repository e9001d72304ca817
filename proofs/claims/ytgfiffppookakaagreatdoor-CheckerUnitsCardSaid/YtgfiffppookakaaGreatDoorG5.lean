/- Laws that the proofs of this seat share, part 5. -/
import Derived.Test.YtgfiffppookakaaGreatDoorG4
import Derived.Test.YtgfiffppookakaaGreatDoorShelf
set_option maxHeartbeats 4000000
namespace Go.Proofs.YtgfiffppookakaaGreatDoor
open Go Go.Jog
set_option maxRecDepth 100000

structure Tabs (C:Mem):Prop where
 pow : VarC cx.P C "internal/strconv.uint64pow10" (Lib.pow10Tab.map fun z => Value.int .u64 z).toArray
theorem Tabs.mono {C D:Mem}(h:Tabs C)(hl:C.le D):Tabs D:=⟨h.pow.mono hl⟩
theorem Tabs.m_ {C D:Mem}(h:Tabs C)(hl:C.le D:=by exact mup):Tabs D:=Tabs.mono h hl
theorem BQ (C:Mem)(hT:Tabs C)(n:Int)(h0:-9223372036854775808<=n)(h1:n<=9223372036854775807):Gives cx.P 117 [.int .i64 n] C (aA (Lib.itoa n)) :=
 Hw Tryz.itoa n h0 h1 C hT.pow kr_

structure FV where
 b:Bool
 A:Option Addr
 n:Nat
 c:Nat
 A2:Option Addr
 n2:Nat
 c2:Nat
def FV.enc (x:FV):List Value:=[.bool x.b,.slice x.A x.n x.c,.slice x.A2 x.n2 x.c2]
theorem Gp (x:FV):x.enc.length=3:=rfl
theorem FrC.fv {C:Mem}{v:Value}{q:Rat}(h:FrC C v q):∃ x:FV,v=.agg ⟨x.enc⟩:=by
 obtain ⟨A,n,c,A',n',c',rfl⟩:=h.form;exact ⟨⟨_,A,n,c,A',n',c'⟩,Z⟩
theorem ReadAt.fv {D:Mem}{v:Value}:∀ {o:Option Rat},ReadAt D v o->∃ x:FV,v=.agg ⟨x.enc⟩
 | none,h=>⟨⟨false,none,0,0,none,0,0⟩,h⟩
 | some _,h=>FrC.fv h
def RowsF (C:Mem)(xs:List FV)(qs:List Rat):Prop:=xs.length=qs.length/\∀ (i:Nat)(x:FV)(q:Rat),xs[i]?=some x->qs[i]?=some q->FrC C (.agg ⟨x.enc⟩) q
theorem RowsF.mono {C D:Mem}{xs:List FV}{qs:List Rat}(h:RowsF C xs qs)(hl:C.le D):RowsF D xs qs:=⟨h.1,fun i x q h1 h2=>(h.2 i x q h1 h2).mono hl⟩
theorem RowsF.m_ {C D:Mem}{xs:List FV}{qs:List Rat}(h:RowsF C xs qs)(hl:C.le D:=by exact mup):RowsF D xs qs:=RowsF.mono h hl
theorem RowsF.nil (C:Mem):RowsF C [] []:=⟨rfl,fun i x q h=>by simp at h⟩
theorem RowsF.snoc {C:Mem}{xs:List FV}{qs:List Rat}{x:FV}{q:Rat}(h:RowsF C xs qs)(hx:FrC C (.agg ⟨x.enc⟩) q):RowsF C (xs++[x]) (qs++[q]):=by
 refine ⟨by simp [h.1],fun i y p h1 h2=>?_⟩;rcases Ld i xs.length with hi | hi
 ·rw [LS hi] at h1;rw [LS (by rw [<- h.1];exact hi)] at h2;exact h.2 i y p h1 h2
 ·rw [LD hi] at h1;rw [LD (by rw [<- h.1];exact hi)] at h2;cases hk:i-xs.length with
  | zero =>
   rw [<- h.1,hk] at h2;rw [hk] at h1;simp at h1 h2;subst h1 h2;exact hx
  | succ k=>rw [hk] at h1;simp at h1
def FrL (C:Mem)(v:Value)(qs:List Rat):Prop:=∃ xs:List FV,Sl C 3 v (xs.map FV.enc)/\RowsF C xs qs
theorem FrL.mono {C D:Mem}{v:Value}{qs:List Rat}(h:FrL C v qs)(hl:C.le D):FrL D v qs:=by
 obtain ⟨xs,h1,h2⟩:=h;exact ⟨xs,h1.mono hl,h2.mono hl⟩
theorem FrL.m_ {C D:Mem}{v:Value}{qs:List Rat}(h:FrL C v qs)(hl:C.le D:=by exact mup):FrL D v qs:=FrL.mono h hl
theorem FrL.form {C:Mem}{v:Value}{qs:List Rat}(h:FrL C v qs):∃ A c,v=.slice A qs.length c:=by
 obtain ⟨xs,h1,h2⟩:=h;obtain ⟨A,c,rfl,_⟩:=h1;exact ⟨A,c,by rw [aH,show xs.length=qs.length from h2.1]⟩
theorem RowsF.get {C:Mem}{xs:List FV}{qs:List Rat}{i:Nat}{q:Rat}(h:RowsF C xs qs)(hq:qs[i]?=some q):∃ x,xs[i]?=some x/\(xs.map FV.enc)[i]?=some x.enc/\FrC C (.agg ⟨x.enc⟩) q:=by
 have hi:i<qs.length:=(aJ.1 hq).1;have hx:xs[i]?=some (xs[i]'(Nat.lt_of_lt_of_eq hi h.1.symm)):=aq _;exact ⟨_,hx,by rw [bX,hx];rfl,h.2 i _ q hx hq⟩
def bj:List Str->Option (List Rat)
 | []=>some []
 | s::l=>match cL s,bj l with
  | some q,some qs=>some (q::qs)
  | _,_=>none
theorem mF:∀ (l:List Str)(s:Str),bj (l++[s])=match bj l,cL s with
  | some qs,some q=>some (qs++[q])
  | _,_=>none
 | [],s=>by
  simp only [MS,bj];cases cL s <;> rfl
 | a::l,s=>by
  simp only [LM,bj,mF l s];cases cL a <;> cases bj l <;> cases cL s <;> rfl
theorem mG:∀ {l:List Str}{s:Str},s∈l->cL s=none->bj l=none
 | a::l,s,hs,h=>by
  simp only [bj];rcases cI.1 hs with rfl | h2
  ·rw [h]
  ·rw [mG h2 h];cases cL a <;> rfl
theorem oO:∀ {l:List Str}{qs:List Rat},bj l=some qs->qs.length=l.length
 | [],qs,h=>by simp only [bj,zl] at h;subst h;rfl
 | a::l,qs,h=>by
  simp only [bj] at h;cases ha:cL a with
  | none=>rw [ha] at h;cases h
  | some q =>
   cases hl:bj l with
   | none=>rw [ha,hl] at h;cases h
   | some ps =>
    rw [ha,hl] at h;simp only [zl] at h;subst h;simp [oO hl]
theorem Jo {k:Nat}(hk:0<k):Sm k 1:=(Sm.one dc_).le hk
theorem qg {s:Str}{q:Rat}(h:cL s=some q):SmQ 200 q:=by
 unfold cL at h;split at h
 ·rename_i hc;simp only [bL] at hc;have h1:=wo hc.1;split at h
  ·cases h
   exact SmQ.ratB _ om_ h1 (Jo om_)
  ·split at h
   ·rename_i hc2;simp only [bL,cH] at hc2;cases h
    exact SmQ.ratB _ om_ h1 (wo hc2.1.1.1)
   ·cases h
 ·cases h
theorem gZ:∀ {l:List Str}{qs:List Rat},bj l=some qs->∀ q∈qs,SmQ 200 q
 | [],qs,h,q,hq=>by simp only [bj,zl] at h;subst h;simp at hq
 | a::l,qs,h,q,hq=>by
  simp only [bj] at h;cases ha:cL a with
  | none=>rw [ha] at h;cases h
  | some p =>
   cases hl:bj l with
   | none=>rw [ha,hl] at h;cases h
   | some ps =>
    rw [ha,hl] at h;simp only [zl] at h;subst h;rcases cI.1 hq with rfl | h2
    ·exact qg ha
    ·exact gZ hl q h2
theorem fK (C:Mem)(v:Value)(l:List Str)(hv:Sl C 1 v (l.map ph))(hl:l.length<=1000000)(hs:∀ s∈l,s.length<1000000):Pur cx.P 32 [v] C fun u D=>∃ A n c,u=.tuple #[.slice A n c,.bool (bj l).isSome]/\∀ qs,bj l=some qs->FrL D (.slice A n c) qs:=by
 obtain ⟨A0,c0,rfl,_⟩:=id hv;simp only [aH] at hv ⊢;refine Fn.it kr_ Tryz.func32 28 fun w0=>?_;refine G.z1 2 0 ?_;refine G.z2 1 0 4 ?_;refine G.z4 3 4 9 10 11 ?_;refine G.nilArr 111 3 ?_;refine G.loop (fun fr C' L' μ=>∃ (i:Nat)(qs:List Rat)(xs:List FV)(w:Value),(i<=l.length/\bj (l.take i)=some qs/\RowsF C' xs qs/\xs.length=i)/\fr=[(4,[],w),(9,[],.slice A0 l.length c0),(10,[],.int .i64 l.length),(11,[],.int .i64 i)]/\L'=[.arr w 111 3 i (xs.map FV.enc).flatten]/\μ=l.length-i) (h_4 4 9 10 11) ⟨0,[],[],_,⟨ch _,Z,RowsF.nil _,Z⟩,Z,Z,Z⟩ (fun fr C0' L0' m _ hI=>?_);obtain ⟨i,qs,xs,w,⟨hi,hqs,hxs,hxl⟩,rfl,rfl,rfl⟩:=hI;refine G.z5 1 4 9 10 11 12 ?_;refine G.cd (fun h12=>?_) fun h12=>?_
 ·have hil:i<l.length:=by simpa using h12
  obtain ⟨s,hs0⟩:∃ s,l[i]?=some s:=⟨l[i],aq hil⟩;have hrow:(l.map ph)[i]?=some (ph s):=by rw [bX,hs0];rfl
  have hsl:=hs s (ba hs0);have htk:l.take (i+1)=l.take i++[s]:=by rw [xO,hs0];rfl
  refine G.rg fun R hR=>?_;refine D.ak hv.m_ U10 om_ hrow fl_ (fun p13 hp13=>?_);refine D.aa hp13 ?_;refine D.q5 1 4 6 9 10 11 hR ?_;refine G.rp 1 fun R hR=>?_;refine D.az (mH _ s hsl) (fun v17 _ _ hq17=>?_);obtain ⟨vf,rfl,hvf⟩:=hq17;obtain ⟨x,rfl⟩:=hvf.fv;refine D.ps 3 ?_;refine D.ai (fun b7=>?_);refine D.ae (j:=0) ?_;refine D.q6 1 4 7 8 9 10 11 hR ?_;refine G.z6 2 4 7 9 10 11 21 ?_;refine G.cd (fun h21=>?_) fun h21=>?_
  ·have hno:cL s=none:=by
    cases h:cL s with
    | none=>rfl
    | some q=>rw [h] at h21;cases h21
   have hno2:bj l=none:=mG (ba hs0) hno;refine G.z2 2 2 3 ?_;refine G.aB (G.dropAll (G.a8 U3 ?_));exact ⟨Z,_,_,_,by rw [hno2];rfl,fun qs h=>by rw [hno2] at h;cases h⟩
  ·obtain ⟨q,hq⟩:∃ q,cL s=some q:=by
    cases h:cL s with
    | none=>rw [h] at h21;cases h21
    | some q=>exact ⟨q,rfl⟩
   rw [hq] at hvf;refine G.rp 1 fun R hR=>?_;refine D.af (.head _) ?_;refine D.ah [x.enc] (fun p24 _ _ hs24=>?_);refine D.append (j:=1) U11 hs24 Z (by simp only [bz,maxLen];omega) (by show (i+1)*56<=_;omega) fl_ (fun v25=>?_);refine D.q4 1 4 9 10 11 hR ?_;refine G.rg fun R hR=>?_;refine D.ar _ ?_;refine D.q4 1 4 9 10 11 hR ?_;refine G.eF 1 Z ?_;refine G.be (L':=[.arr v25 111 3 (i+1) ((xs++[x]).map FV.enc).flatten]) (by simp) ?_;refine G.ax (m':=l.length-(i+1)) om_ mup (h_4 4 9 10 11) ⟨i+1,qs++[q],xs++[x],v25,⟨by omega,by rw [htk,mF,hqs,hq],hxs.m_.snoc (FrC.m_ hvf),by simp [hxl]⟩,Z,Z,Z⟩
 ·have hil:i=l.length:=by
   have:¬ i<l.length:=by simpa using h12
   omega
  rw [hil,cK] at hqs;refine G.freezeArr 0 (xs.map FV.enc) U2 (by intro r hr;obtain ⟨y,_,rfl⟩:=j5.1 hr;rfl) (by rw [aH,hxl]) (fun Cf hf hsd=>?_);obtain ⟨A9,c9,rfl,_⟩:=id hsd;refine G.z2 3 2 3 ?_;refine G.aB (G.dropAll (G.a8 U3 ?_));refine ⟨Z,_,_,_,by rw [hqs];rfl,fun ps h=>?_⟩;rw [hqs] at h;cases h
  exact ⟨xs,hsd.mono mup,hxs.mono mup⟩

theorem Jp (C:Mem)(hT:Tabs C)(n:Int)(q:Rat)(h0:-9223372036854775808<=n)(h1:n<=9223372036854775807)(hl:(Lib.itoa n).length<1000000)(hq:cL (Lib.itoa n)=some q):Pur cx.P 69 [.int .i64 n] C fun u D=>FrC D u q:=by
 refine Fn.it kr_ Tryz.func69 12 fun w0=>?_;refine G.rg fun R hR=>?_;refine D.ai (fun b2=>?_);refine D.e2 0 2 hR ?_;refine G.rp 1 fun R hR=>?_;refine D.ag (BQ _ hT.m_ n h0 h1) ?_;refine D.az (mH _ _ hl) (fun v8 _ _ hq8=>?_);obtain ⟨vf,rfl,hvf⟩:=hq8;obtain ⟨x,rfl⟩:=hvf.fv;rw [hq] at hvf;refine D.ps 3 ?_;refine D.ai (fun b3=>?_);refine D.ae (j:=0) ?_;refine D.q2 1 2 3 hR ?_;refine G.rg fun R hR=>?_;refine D.af (.head _) ?_;refine D.ae (j:=1) ?_;refine D.e1 2 hR ?_;refine G.aB (G.aR (.head _) U4 ?_);exact ⟨Z,FrC.mono hvf mup⟩
theorem Gh (C:Mem)(hT:Tabs C):Pur cx.P 69 [.int .i64 0] C fun u D=>FrC D u 0 :=
 Jp C hT 0 0 dc_ dc_ (by decide +kernel) (by decide +kernel)
def gQ (l:List Rat)(i:Nat):Rat:=l.getD i 0
theorem iU {l:List Rat}{i:Nat}(h:i<l.length):l[i]?=some (gQ l i):=by
 unfold gQ;rw [aF,aq h];rfl
def Kh (ps qs:List Rat):Nat->Rat
 | 0=>0
 | i+1=>Kh ps qs i+gQ ps i*gQ qs i
def iB (ps qs:List Rat):Rat:=Kh ps qs ps.length
theorem kS {ps qs:List Rat}{j k:Nat}(hp:∀ p∈ps,SmQ j p)(hq:∀ q∈qs,SmQ k q)(hlen:ps.length<=qs.length):∀ i,i<=ps.length->SmQ ((j+k+1)*i+1) (Kh ps qs i)
 | 0,_=>⟨by show Sm _ 0;unfold Sm;exact Mz dc_,Jo om_⟩
 | i+1,h=>by
  have h1:=kS hp hq hlen i om_;have h2:=hp _ (ba (iU (l:=ps) (i:=i) om_));have h3:=hq _ (ba (iU (l:=qs) (i:=i) om_));have h4:=h1.add (h2.mul h3);have e:(j+k+1)*(i+1)+1=(j+k+1)*i+1+(j+k)+1:=by rw [Nat.mul_succ];omega
  rw [e];exact h4
theorem mu (C:Mem)(hT:Tabs C)(va vb:Value)(ps qs:List Rat)(j k:Nat)(ha:FrL C va ps)(hb:FrL C vb qs)(hlen:ps.length<=qs.length)(hp:∀ p∈ps,SmQ j p)(hq:∀ q∈qs,SmQ k q)(hs:(j+k+1)*(ps.length+1)<=900000) :
  Pur cx.P 34 [va,vb] C fun u D=>FrC D u (iB ps qs):=by
 obtain ⟨xs,hsa,hxa⟩:=ha;obtain ⟨ys,hsb,hxb⟩:=hb;obtain ⟨A0,c0,rfl,hlx,hlx2,_⟩:=id hsa;obtain ⟨B0,d0,rfl,_⟩:=id hsb;have hlxs:xs.length=ps.length:=hxa.1;have hmx:maxLen<=9223372036854775807:=by simp [maxLen]
 simp only [aH] at hsa hsb hlx hlx2 ⊢;refine Fn.it kr_ Tryz.func34 26 fun w0=>?_;refine G.rg fun R hR=>?_;refine D.ai (fun b4=>?_);refine D.e3 0 1 4 hR ?_;refine G.rg fun R hR=>?_;refine D.az (Gh _ hT.m_) (fun v7 _ _ hq7=>?_);obtain ⟨x0,rfl⟩:=hq7.fv;refine D.ai (fun b5=>?_);refine D.ae (j:=0) ?_;refine D.e4 0 1 4 5 hR ?_;refine G.z6 3 0 1 4 5 9 10 ?_;refine G.loop (fun fr C' L' μ=>∃ (i:Nat)(x:FV),(i<=ps.length/\FrC C' (.agg ⟨x.enc⟩) (Kh ps qs i))/\fr=[(0,[],.slice A0 xs.length c0),(1,[],.slice B0 ys.length d0),(4,[],.pointer (some ⟨b4,0,none⟩)),(5,[],.pointer (some ⟨b5,0,none⟩)),(9,[],.int .i64 xs.length),(10,[],.int .i64 i)]/\L'=[.obj b5 (.cells ⟨x.enc⟩ 111 (0,0)),.obj b4 (.cells ⟨(FV.mk false none 0 0 none 0 0).enc⟩ 111 (0,0))]/\μ=ps.length-i) (h_6 0 1 4 5 9 10) ⟨0,x0,⟨ch _,hq7⟩,Z,Z,Z⟩ (fun fr C0' L0' m _ hI=>?_);obtain ⟨i,x,⟨hi,hx⟩,rfl,rfl,rfl⟩:=hI;refine G.z7 1 0 1 4 5 9 10 11 ?_;refine G.cd (fun h11=>?_) fun h11=>?_
 ·have hil:i<ps.length:=by rw [<- hlxs];simpa using h11
  obtain ⟨y,hy0,hyr,hy⟩:=hxa.get (iU hil);obtain ⟨z,hz0,hzr,hz⟩:=hxb.get (iU (K4 hil hlen));have h2:=hp _ (ba (iU hil));have h3:=hq _ (ba (iU (K4 hil hlen)));have hb1:(j+k+1)*(i+1)<=900000:=LE (Ln _ om_) hs;rw [Nat.mul_succ] at hb1;have hdm:=kS hp hq hlen i hi;refine G.z7 2 0 1 4 5 6 9 10 ?_;refine G.aG [0,1,2,3,4,5,6,7,8,9,10,11] [] Z kr_ (fun R hB hR=>?_);refine D.af (.head _) ?_;refine D.ps 2 ?_;refine D.ak hsa.m_ U10 om_ hyr fl_ (fun p16 hp16=>?_);refine D.aa hp16 ?_;refine D.ps 2 ?_;refine D.ak hsb.m_ U10 om_ hzr fl_ (fun p20 hp20=>?_);refine D.aa hp20 ?_;refine D.au (fu hy.m_ hz.m_ h2 h3 om_) U7 fl_ (fun v22 _ _ hq22=>?_);refine D.au (eD hx.m_ hq22.m_ hdm (h2.mul h3) om_) U7 fl_ (fun v23 _ _ hq23=>?_);obtain ⟨x2,rfl⟩:=hq23.fv;refine D.ae (j:=0) ?_;refine D.e6 0 1 4 5 9 10 hR ?_;refine G.rg fun R hR=>?_;refine D.ar _ ?_;refine D.q6 1 0 1 4 5 9 10 hR ?_;refine G.ax (m':=ps.length-(i+1)) om_ mup (h_6 0 1 4 5 9 10) ⟨i+1,x2,⟨by omega,hq23.mono mup⟩,Z,Z,Z⟩
 ·have hil:i=ps.length:=by
   have:¬ i<xs.length:=by simpa using h11
   omega
  refine G.rg fun R hR=>?_;refine D.af (.head _) ?_;refine D.ae (j:=1) ?_;refine D.e1 4 hR ?_;refine G.aB (G.aR (.head _) U4 ?_);refine ⟨Z, ?_⟩;unfold iB;rw [<- hil];exact hx.mono mup

theorem sH (C:Mem)(s:Str)(hl:s.length<1000000):Gives cx.P 11 [aA s] C (.bool (cL s).isSome):=by
 refine Fn.it kr_ Tryz.func11 11 fun w0=>?_;refine G.z1 1 0 ?_;refine G.rp 1 fun R hR=>?_;refine D.az (mH _ s hl) (fun v7 _ _ hq7=>?_);obtain ⟨vf,rfl,hvf⟩:=hq7;obtain ⟨x,rfl⟩:=hvf.fv;refine D.ps 3 ?_;refine D.ai (fun b3=>?_);refine D.ae (j:=0) ?_;refine D.q1 1 4 hR ?_;refine G.z1 2 2 ?_;refine G.rf ?_;exact ⟨Z,Z⟩
theorem EM (C:Mem)(x:FV):Gives cx.P 84 [.agg ⟨x.enc⟩] C (.bool x.b):=by
 refine Fn.it kr_ Tryz.func84 5 fun w0=>?_;refine G.rg fun R hR=>?_;refine D.aD (fun b1=>?_);refine D.q1 1 1 hR ?_;refine G.rp 1 fun R hR=>?_;refine D.af (.head _) ?_;refine D.q1 1 2 hR ?_;refine G.rf ?_;exact ⟨Z,Z⟩
theorem yz (C:Mem)(v:Value)(xs:List FV)(g:FuncId)(cb:List Value)(p:FV->Bool)(hv:Sl C 3 v (xs.map FV.enc))(hcb:∀ x∈xs,∀ C',C.le C'->Gives cx.P g (.agg ⟨x.enc⟩::cb) C' (.bool (p x))) :
  Gives cx.P 149 [v,.func (.func g) #[] ⟨cb⟩] C (.int .i64 (ny p xs 0)):=by
 obtain ⟨A0,c0,rfl,hlx,hlx2,_⟩:=id hv;have hmx:maxLen<=9223372036854775807:=by simp [maxLen]
 simp only [aH] at hv hlx hlx2 ⊢;refine Fn.it kr_ Tryz.func149 19 fun w0=>?_;refine G.z2 1 0 1 ?_;refine G.z4 3 0 1 7 8 ?_;refine G.loop (fun fr C' L' μ=>∃ (k:Nat),(k<=xs.length/\∀ y∈xs.take k,p y=false)/\fr=[(0,[],.slice A0 xs.length c0),(1,[],.func (.func g) #[] ⟨cb⟩),(7,[],.int .i64 xs.length),(8,[],.int .i64 k)]/\L'=[]/\μ=xs.length-k) (h_4 0 1 7 8) ⟨0,⟨ch _,by simp⟩,Z,Z,Z⟩ (fun fr C0' L0' m hle0 hI=>?_);obtain ⟨k,⟨hk,hall⟩,rfl,rfl,rfl⟩:=hI;refine G.z5 1 0 1 7 8 9 ?_;refine G.cd (fun h9=>?_) fun h9=>?_
 ·have hkl:k<xs.length:=by simpa using h9
  obtain ⟨x,hx⟩:∃ x,xs[k]?=some x:=⟨xs[k],aq hkl⟩;have hrow:(xs.map FV.enc)[k]?=some x.enc:=by rw [bX,hx];rfl
  refine G.z5 2 0 1 5 7 8 ?_;refine G.rp 3 fun R hR=>?_;refine D.ak hv.m_ U10 om_ hrow fl_ (fun p14 hp14=>?_);refine D.aa hp14 ?_;refine D.ag (hcb x (ba hx) _ mup) ?_;refine D.e6 0 1 5 7 8 16 hR ?_;refine G.cd (fun h16=>?_) fun h16=>?_
  ·refine G.z1 2 4 ?_;refine G.rf ?_;refine ⟨?_,Z⟩;rw [wP (k:=k) (j:=0) hx hall h16,LO]
  ·refine G.rg fun R hR=>?_;refine D.ar _ ?_;refine D.q4 1 0 1 7 8 hR ?_;refine G.ax (m':=xs.length-(k+1)) om_ hle0 (h_4 0 1 7 8) ⟨k+1,⟨by omega,fun y hy=>by
    rw [xO,hx] at hy;rcases Lh.1 hy with h6 | h6
    ·exact hall y h6
    ·simp only [LP,K5] at h6;subst h6;exact h16⟩,Z,Z,Z⟩
 ·have hkl:xs.length<=k:=by
   have:¬ k<xs.length:=by simpa using h9
   omega
  refine G.z1 1 4 ?_;refine G.rf ?_;rw [gG hkl] at hall;exact ⟨by rw [pd hall],Z⟩
theorem tw (C:Mem)(v:Value)(xs:List FV)(g:FuncId)(cb:List Value)(p:FV->Bool)(hv:Sl C 3 v (xs.map FV.enc))(hcb:∀ x∈xs,∀ C',C.le C'->Gives cx.P g (.agg ⟨x.enc⟩::cb) C' (.bool (p x))) :
  Gives cx.P 83 [v,.func (.func g) #[] ⟨cb⟩] C (.bool (xs.any p)):=by
 obtain ⟨A0,c0,rfl,hlx,hlx2,_⟩:=id hv;refine Fn.it kr_ Tryz.func83 9 fun w0=>?_;refine G.z2 1 0 1 ?_;refine G.rp 2 fun R hR=>?_;refine D.ag (yz _ _ xs g cb p hv hcb) ?_;refine D.q1 2 4 hR ?_;refine G.rf ?_;exact ⟨by rw [Cv],Z⟩

theorem Eg (C:Mem)(s:Str):Gives cx.P 167 [aA s] C (.tuple #[.bool (aZ 45 s).2,aA (aZ 45 s).1]):=by
 refine Fn.it kr_ Tryz.func167 17 fun w0=>?_;refine G.z1 2 0 ?_;refine G.z1 2 4 ?_;refine G.rp 5 fun R hR=>?_;refine D.aW (b:=s.headD 0) U8 (fun hg=>⟨by omega,(by
  cases s with
  | nil=>exact Bool.noConfusion (show false=true from hg.1)
  | cons b s=>rfl)⟩) U2 ?_
 refine D.ac ?_;refine D.aw ?_;refine D.e2 4 13 hR ?_;refine G.cd (fun h13=>?_) fun h13=>?_
 ·have hh:s.head?=some 45:=by
   cases s with
   | nil=>cases h13
   | cons b s =>
    have h1:b=45:=by
     refine N5.1 ?_;show b.toNat=45;simp at h13;omega
    rw [h1];rfl
  have hlen:1<=s.length:=by cases s with
   | nil=>cases hh
   | cons b s=>simp
  refine G.aG [0,1,2,3] [] Z kr_ (fun R hB hR=>?_);refine D.ac ?_;refine D.bF 1 s.length U9 (fun _=>⟨.inr ⟨_,Z⟩,.inl ⟨Z,Z⟩,.inl ⟨Z,Z⟩,by omega,aP _,aP _⟩) U2 ?_;refine D.q2 2 2 3 hR ?_;refine G.aB (G.dropAll (G.a8 U3 ?_));unfold aZ;rw [bW hh];refine ⟨?_,Z⟩;rw [cK,List.drop_one];rfl
 ·have hh:¬ s.head?=some 45:=by
   cases s with
   | nil=>simp
   | cons b s =>
    intro h;have h1:b=45:=by simpa using h
    subst h1;simp at h13
  refine G.z2 3 2 3 ?_;refine G.aB (G.dropAll (G.a8 U3 ?_));unfold aZ;rw [a7 hh];exact ⟨Z,Z⟩
def tD (s:Str):Bool:=(aZ 45 s).1.all dE && !((aZ 45 s).1 == []) && !((aZ 45 s).1.head? == some 48 && ((aZ 45 s).2 || decide (1<(aZ 45 s).1.length)))
def bI (s:Str):Bool:=tD s && decide ((aZ 45 s).1.length<=200)
theorem qP (C:Mem)(s:Str)(c:UInt8):Gives cx.P 237 [aA s,.int .u8 c.toNat] C (.int .i64 (Lib.indexByte s c)):=by
 refine Fn.it kr_ Tryz.func237 8 fun w0=>?_;refine G.z2 1 0 1 ?_;refine G.rp 2 fun R hR=>?_;refine D.ag (o6 _ s c) ?_;refine D.q1 1 4 hR ?_;refine G.rf ?_;exact ⟨Z,Z⟩
theorem Be (C:Mem)(s:Str)(hl:s.length<1000000):Gives cx.P 160 [aA s] C (.tuple #[aA (dL 47 s).1,aA ((dL 47 s).2.getD [49])]):=by
 refine Fn.it kr_ Tryz.func160 17 fun w0=>?_;refine G.z1 2 0 ?_;refine G.rp 1 fun R hR=>?_;refine D.ag (qP _ s 47) ?_;refine D.q2 1 0 4 hR ?_;refine G.z3 2 0 4 8 ?_;refine G.cd (fun h8=>?_) fun h8=>?_
 ·have h0:¬ 0<=Lib.indexByte s 47:=by
   have:Lib.indexByte s 47<0:=by simpa using h8
   omega
  rw [tm h0];refine G.z2 3 2 3 ?_;refine G.aB (G.dropAll (G.a8 U3 ?_));exact ⟨Z,Z⟩
 ·have h0:0<=Lib.indexByte s 47:=by
   have:¬ Lib.indexByte s 47<0:=by simpa using h8
   omega
  obtain ⟨pre,post,h1,h2,h3⟩:=wY h0;have hle:s.length=pre.length+1+post.length:=by rw [h2];simp;omega
  rw [h1,h3];refine G.aG [0,1,2,3,4,5,6,7,8] [] Z kr_ (fun R hB hR=>?_);refine D.ps 2 ?_;refine D.bF 0 pre.length U9 (fun _=>⟨.inl ⟨Z,Z⟩,.inr ⟨_,Z⟩,.inl ⟨Z,Z⟩,by omega,by omega,aP _⟩) U2 ?_;refine D.ps 2 ?_;refine D.cf (((pre.length+1:Nat):Int)) U4 om_ om_ om_ U2 ?_;refine D.bF (pre.length+1) s.length U9 (fun _=>⟨.inr ⟨_,Z⟩,.inl ⟨Z,Z⟩,.inl ⟨Z,Z⟩,by omega,aP _,aP _⟩) U2 ?_;refine D.q2 2 2 3 hR ?_;refine G.aB (G.dropAll (G.a8 U3 ?_));refine ⟨?_,Z⟩;have e1:(s.take pre.length).drop 0=pre:=by rw [h2];simp
  have e2:(s.take s.length).drop (pre.length+1)=post:=by rw [cK,h2];simp
  rw [e1,e2];rfl

theorem wX (C:Mem)(v:Value)(l:List Nat)(hv:Sl C 1 v (l.map dG)):Pur cx.P 249 [v] C fun u C'=>Sl C' 1 u ((tj l).map dG):=by
 obtain ⟨A0,c0,rfl,hlc,_⟩:=id hv;simp only [aH] at hv hlc ⊢;refine Fn.it kr_ Tryz.func249 21 fun w0=>?_;refine G.z1 1 0 ?_;refine G.loop (fun fr C' L' μ=>∃ (k:Nat)(A:Option Addr)(c:Nat),(k<=l.length/\Sl C' 1 (.slice A k c) ((l.take k).map dG)/\yW l l.length=yW l k)/\fr=[(0,[],.slice A k c)]/\L'=[]/\μ=k+1) (h_1 0) ⟨l.length,A0,c0,⟨aP _,by rw [cK];exact hv,Z⟩,Z,Z,Z⟩ (fun fr C0' L0' m _ hI=>?_);obtain ⟨k,A,c,⟨hk,hs,ht⟩,rfl,rfl,rfl⟩:=hI;obtain ⟨_,c9,hqe,hkc,_⟩:=id hs;have hmx:maxLen<=9223372036854775807:=by simp [maxLen]
 have hkc2:k<=c:=by
  rw [aH,eB] at hkc;injection hqe with h1 h2 h3;omega
 have hrow:0<k->((l.take k).map dG)[((k:Int)-1).toNat]?=some (dG (gP l (k-1))):=fun h=>by
  rw [show ((k:Int)-1).toNat=k-1 by omega,bX,Ly,bW om_,aq (by omega:k-1<l.length)];unfold gP;rw [aF,aq (by omega:k-1<l.length)];rfl
 refine G.rp 7 fun R hR=>?_;refine D.ar _ ?_;refine D.index U10 (fun hg=>⟨hs,(by have h:decide ((0:Int)<(k:Int))=true:=hg.1;simp at h;omega),hrow (by have h:decide ((0:Int)<(k:Int))=true:=hg.1;simp at h;omega)⟩) fl_ Z (fun p11 hp11=>?_);refine D.aN U6 hp11 U3 ?_;refine D.ac ?_;refine D.aw ?_;refine D.e2 0 14 hR ?_;refine G.cd (fun h14=>?_) fun h14=>?_
 ·have hk0:0<k/\gP l (k-1)=0:=by
   have:(0:Int)<(k:Int)/\((gP l (k-1):Nat):Int)=0:=by simpa using h14
   omega
  refine G.rp 3 fun R hR=>?_;refine D.cf (((k-1:Nat):Int)) U4 om_ om_ om_ U2 ?_;refine D.fp 0 (k-1) c U12 (fun _=>⟨.inl ⟨Z,Z⟩,.inr ⟨_,Z⟩,.inl ⟨Z,Z⟩,by omega,by omega,aP _⟩) U2 ?_;refine D.q1 1 0 hR ?_;have hsub:=Sl.sub hs (l:=0) (h:=k-1) (m:=c) (ch _) (by simp;omega) om_ (aP _);have esub:(((l.take k).map dG).take (k-1)).drop 0=(l.take (k-1)).map dG:=by
   rw [LR,<- Ov,NR,Lt om_]
  rw [esub] at hsub;have etr:yW l l.length=yW l (k-1):=by
   rw [ht];obtain ⟨j,rfl⟩:∃ j,k=j+1:=⟨k-1,by omega⟩;simp only [M1] at hk0 ⊢;rw [yW,bW];unfold gP at hk0;rw [aF,aq om_] at hk0;rw [aq om_];exact congrArg some hk0.2
  refine G.ax (m':=k-1+1) om_ mup (h_1 0) ⟨k-1,_,c,⟨by omega,hsub.mono mup,etr⟩,Z,Z,Z⟩
 ·have hk0:¬ (0<k/\gP l (k-1)=0):=fun hh=>by
   have h1:(decide ((0:Int)<(k:Int)) && (((gP l (k-1):Nat):Int) == 0))=true:=by
    rw [hh.2];simp;omega
   rw [h1] at h14;cases h14
  refine G.z1 2 2 ?_;refine G.rf ?_;refine ⟨Z, ?_⟩;have e:yW l k=k:=by
   cases k with
   | zero=>rfl
   | succ j =>
    simp only [M1] at hk0;rw [yW,a7];intro h;refine hk0 ⟨by omega, ?_⟩;unfold gP;rw [aF,h];rfl
  unfold tj;rw [ht,e];exact hs
theorem rh (C:Mem)(v:Value)(l:List Nat){n:Nat}(hn:l.length=n):Jog.Fn cx.P 249 [v] C [.arr v 3 1 n (l.map dG).flatten] fun u C' L'=>L'=[]/\Sl C' 1 u ((tj l).map dG) :=
 Jog.Fn.give (l.map dG) kr_ (by intro r hr;obtain ⟨y,_,rfl⟩:=j5.1 hr;rfl) (by rw [aH,hn]) (fun C' _ hs=>wX C' v l hs)
def PieC (C:Mem)(v:Value)(n:Nat):Prop:=∃ l,vx l/\a6 l=n/\Sl C 1 v (l.map dG)
theorem wi (C:Mem)(va vb:Value)(a b:List Nat)(ha:Sl C 1 va (a.map dG))(hb:Sl C 1 vb (b.map dG))(hca:vx a)(hcb:vx b):Gives cx.P 238 [va,vb] C (.bool (decide (a6 a<a6 b))):=by
 have hmx:maxLen<=9223372036854775807:=by simp [maxLen]
 obtain ⟨A0,c0,rfl,hla,hla2,_⟩:=id ha;obtain ⟨B0,d0,rfl,hlb,hlb2,_⟩:=id hb;simp only [aH] at ha hb hla hlb ⊢;refine Fn.it kr_ Tryz.func238 41 fun w0=>?_;refine G.z2 1 0 1 ?_;refine G.z3 5 0 1 10 ?_;refine G.cd (fun h10=>?_) fun h10=>?_
 ·have hne:a.length≠b.length:=fun e=>by
   rw [e] at h10;simp at h10
  refine G.z1 6 4 ?_;refine G.rf ?_;refine ⟨?_,Z⟩;congr 1;rw [Lj];rcases Ld a.length b.length with h | h
  ·have:=BG hca.1 hcb h;constructor
   ·intro _;exact this
   ·intro _;omega
  ·have:=BG hcb.1 hca om_;constructor <;> intro _ <;> omega
 ·have hlen:a.length=b.length:=by
   have:(a.length:Int)=b.length:=by simpa using h10
   omega
  refine G.rp 2 fun R hR=>?_;refine D.ar _ ?_;refine D.q3 1 0 1 5 hR ?_;refine G.loop (fun fr C' L' μ=>∃ (k:Nat),(k<=a.length/\a.drop k=b.drop k)/\fr=[(0,[],.slice A0 a.length c0),(1,[],.slice B0 b.length d0),(5,[],.int .i64 ((k:Int)-1))]/\L'=[]/\μ=k+1) (h_3 0 1 5) ⟨a.length,⟨aP _,by rw [LI,hlen,LI]⟩,Z,Z,Z⟩ (fun fr C0' L0' m _ hI=>?_);obtain ⟨k,⟨hk,he⟩,rfl,rfl,rfl⟩:=hI;refine G.z4 2 0 1 5 20 ?_;refine G.cd (fun h20=>?_) fun h20=>?_
  ·have hk0:0<k:=by
    have:(0:Int)<=(k:Int)-1:=by simpa using h20
    omega
   obtain ⟨j,rfl⟩:∃ j,k=j+1:=⟨k-1,by omega⟩;obtain ⟨x,hx⟩:∃ x,a[j]?=some x:=⟨a[j],aq om_⟩;obtain ⟨y,hy⟩:∃ y,b[j]?=some y:=⟨b[j],aq om_⟩;have hrx:(a.map dG)[(((j+1:Nat):Int)-1).toNat]?=some (dG x):=by
    rw [show (((j+1:Nat):Int)-1).toNat=j by omega,bX,hx];rfl
   have hry:(b.map dG)[(((j+1:Nat):Int)-1).toNat]?=some (dG y):=by
    rw [show (((j+1:Nat):Int)-1).toNat=j by omega,bX,hy];rfl
   refine G.aG [0,1,2,3,4,5,6,7,8] [] Z kr_ (fun R hB hR=>?_);refine D.ps 2 ?_;refine D.ak ha.m_ U10 om_ hrx fl_ (fun p25 hp25=>?_);refine D.aa hp25 ?_;refine D.ps 2 ?_;refine D.ak hb.m_ U10 om_ hry fl_ (fun p29 hp29=>?_);refine D.aa hp29 ?_;refine D.q4 1 0 1 5 31 hR ?_;refine G.cd (fun h31=>?_) fun h31=>?_
   ·have hxy:x≠y:=fun e=>by
     subst e;simp at h31
    refine G.aG [0,1,2,3,4,5,6,7,8,9] [] Z kr_ (fun R hB hR=>?_);refine D.ps 2 ?_;refine D.ak ha.m_ U10 om_ hrx fl_ (fun p34 hp34=>?_);refine D.aa hp34 ?_;refine D.ps 2 ?_;refine D.ak hb.m_ U10 om_ hry fl_ (fun p38 hp38=>?_);refine D.aa hp38 ?_;refine D.q1 2 4 hR ?_;refine G.rf ?_;refine ⟨?_,Z⟩;congr 1;rw [Lj];rcases Ld x y with h | h
    ·have:=GD hca.1 hlen hx hy h he;constructor
     ·intro _;exact this
     ·intro _;omega
    ·have:=GD hcb.1 hlen.symm hy hx om_ he.symm;constructor <;> intro _ <;> omega
   ·have hxy:x=y:=by
     have:(x:Int)=y:=by simpa using h31
     omega
    refine G.rp 1 fun R hR=>?_;refine D.ar _ ?_;refine D.q3 1 0 1 5 hR ?_;rw [show ((j+1:Nat):Int)-1-1=(j:Int)-1 by omega];refine G.ax (m':=j+1) om_ mup (h_3 0 1 5) ⟨j,⟨by omega,by
     rw [K2 (by omega:j<a.length),K2 (by omega:j<b.length),he,(aJ.1 hx).2,(aJ.1 hy).2,hxy]⟩,rfl,rfl,rfl⟩
  ·have hk0:k=0:=by
    have:¬ (0:Int)<=(k:Int)-1:=by simpa using h20
    omega
   subst hk0;refine G.z1 1 4 ?_;refine G.rf ?_;refine ⟨?_,Z⟩;have:a=b:=by simpa using he
   subst this;simp

theorem CT {s:Str}{lo i:Nat}{c:UInt8}(hlo:lo<=i)(hc:s[i]?=some c):aX (fR s lo (i+1))=10*aX (fR s lo i)+(c.toNat-48):=by
 have hlt:=(aJ.1 hc).1;have e:fR s lo (i+1)=fR s lo i++[c]:=by
  unfold fR;rw [xO,hc,LP,Ow,eB,Lt om_,show lo-i=0 by omega];rfl
 rw [e];unfold aX;rw [List.foldl_append];rfl
theorem Fj (s:Str)(lo:Nat):fR s lo lo=[]:=by
 unfold fR;rw [List.drop_eq_nil_iff,eB];omega
theorem GY (C:Mem)(s:Str)(hs:∀ c∈s,dE c=true)(hl:s.length<=100000):Pur cx.P 171 [aA s] C fun u D=>PieC D u (aX s):=by
 refine Fn.it kr_ Tryz.func171 35 fun w0=>?_;refine G.z1 1 0 ?_;refine G.z2 1 0 3 ?_;refine G.z3 3 0 3 4 ?_;refine G.nilArr 3 1 ?_;refine G.loop (fun fr C' L' μ=>∃ (e j:Nat)(ei:Int)(out:List Nat)(w:Value),((ei=e/\e+4*j=s.length∨ei<=0/\e=0)/\-4<=ei/\ei<=100000/\e<=s.length/\out.length=j/\j<=100000/\DigP out/\a6 out=aX (s.drop e))/\fr=[(0,[],aA s),(3,[],w),(4,[],.int .i64 ei)]/\L'=[.arr w 3 1 j (out.map dG).flatten]/\μ=e+1) (h_3 0 3 4) ⟨s.length,0,(s.length:Int),[],_,⟨.inl ⟨Z,Z⟩,by omega,by omega,aP _,Z,by omega,(fun x hx=>(by cases hx)),by rw [LI];rfl⟩,Z,Z,Z⟩ (fun fr C0' L0' m _ hI=>?_);obtain ⟨e,j,ei,out,w,⟨hei,hem,heM,hes,hol,hjM,hod,hov⟩,rfl,rfl,rfl⟩:=hI;refine G.z4 2 0 3 4 10 ?_;refine G.cd (fun h10=>?_) fun h10=>?_
 ·obtain ⟨rfl,hej⟩:ei=e/\e+4*j=s.length:=by
   have h0:0<ei:=by simpa using h10
   rcases hei with h | h
   ·exact h
   ·omega
  have he0:0<e:=by
   have h0:(0:Int)<(e:Int):=by simpa using h10
   omega
  refine G.z4 1 0 3 4 5 ?_;refine G.rp 1 fun R hR=>?_;refine D.ar _ ?_;refine D.max (((e-4:Nat):Int)) U6 om_ U2 ?_;refine D.q5 1 0 3 4 5 6 hR ?_;rw [show (Value.int .i64 0)=.int .i64 ((aX (fR s (e-4) (e-4)):Nat):Int) by rw [Fj];rfl];refine G.loop (fun fr C' L' μ=>∃ (i:Nat),(e-4<=i/\i<=e)/\fr=[(0,[],aA s),(3,[],w),(4,[],.int .i64 (e:Int)),(5,[],.int .i64 (aX (fR s (e-4) i):Nat)),(6,[],.int .i64 i)]/\L'=[.arr w 3 1 j (out.map dG).flatten]/\μ=e-i) (h_5 0 3 4 5 6) ⟨e-4,⟨aP _,by omega⟩,Z,Z,Z⟩ (fun fr C1' L1' m _ hI=>?_);obtain ⟨i,⟨hi1,hi2⟩,rfl,rfl,rfl⟩:=hI;refine G.z6 3 0 3 4 5 6 18 ?_;refine G.cd (fun h18=>?_) fun h18=>?_
  ·have hie:i<e:=by simpa using h18
   obtain ⟨c,hc⟩:∃ c,s[i]?=some c:=⟨s[i]'om_,aq _⟩;have hcd:=hs c (ba hc);have hcd2:48<=c.toNat/\c.toNat<=57:=by unfold dE at hcd;simpa using hcd
   have hlt:aX (fR s (e-4) i)<10000:=CU hs om_;refine G.rp 1 fun R hR=>?_;refine D.cf (((10*aX (fR s (e-4) i):Nat):Int)) U4 om_ om_ om_ U2 ?_;refine D.ps 2 ?_;refine D.aW U8 (fun _=>⟨by omega,hc⟩) U2 ?_;refine D.bT (c:=((c.toNat:Nat):Int)) U8 (by rw [IntKind.wrap_i64];omega) fl_ ?_;refine D.cf (((10*aX (fR s (e-4) i)+c.toNat:Nat):Int)) U4 om_ om_ om_ U2 ?_;refine D.cf (((10*aX (fR s (e-4) i)+(c.toNat-48):Nat):Int)) U4 om_ om_ om_ U2 ?_;refine D.q5 1 0 3 4 5 6 hR ?_;refine G.rp 1 fun R hR=>?_;refine D.ar _ ?_;refine D.q5 1 0 3 4 5 6 hR ?_;rw [<- CT hi1 hc];refine G.ax (m':=e-(i+1)) om_ mup (h_5 0 3 4 5 6) ⟨i+1,⟨by omega,by omega⟩,Z,Z,Z⟩
  ·have hie:i=e:=by
    have:¬ i<e:=by simpa using h18
    omega
   subst hie;refine G.rp 2 fun R hR=>?_;refine D.ah [dG (aX (fR s (i-4) i))] (fun p31 _ _ hs31=>?_);refine D.append (j:=0) U11 hs31 Z (by simp only [bz,maxLen];omega) (by show (j+1)*8<=_;omega) fl_ (fun v32=>?_);refine D.q3 1 0 3 4 hR ?_;refine G.rp 1 fun R hR=>?_;refine D.ar _ ?_;refine D.q3 1 0 3 4 hR ?_;refine G.be (L':=[.arr v32 3 1 (j+1) ((out++[aX (fR s (i-4) i)]).map dG).flatten]) (by simp [dG]) ?_;refine G.ax (m':=i-4+1) om_ mup (h_3 0 3 4) ⟨i-4,j+1,(i:Int)-4,out++[aX (fR s (i-4) i)],v32,⟨by
    rcases Ld i 4 with h | h
    ·exact .inr ⟨by omega,by omega⟩
    ·exact .inl ⟨by omega,by omega⟩,by omega,by omega,by omega,by simp [hol],by omega,hod.snoc (CU hs om_),zY hej hol om_ hov⟩,Z,Z,Z⟩
 ·have he0:e=0:=by
   have h0:¬ 0<ei:=by simpa using h10
   rcases hei with h | h
   ·omega
   ·exact h.2
  refine G.aY [(1,3)] Z (fun R hR=>?_);refine D.ac ?_;refine D.call (rh _ _ out hol) Z (.inr dc_) U6 (il _) fl_ (fun v34 _ L34 _ hq34=>?_);obtain ⟨rfl,hu⟩:=hq34;refine D.q1 1 2 hR ?_;refine G.rf ?_;refine ⟨Z,tj out,j0 hod, ?_,hu⟩;rw [gi,hov,he0,LR]

theorem BR (C:Mem)(hT:Tabs C)(n:Nat)(h:n<=1000000000000000000):Gives cx.P 117 [.int .i64 n] C (aA (aT n)):=by
 have h1:=BQ C hT (n:Int) om_ om_
 rwa [EY] at h1
theorem eX (C:Mem)(hT:Tabs C)(z:Int)(h0:-9223372036854775808<=z)(h1:z<=9223372036854775807):Gives cx.P 117 [.int .i64 z] C (aA (txt z)):=by
 have h:=BQ C hT z h0 h1
 rwa [EX] at h
theorem Hx (C:Mem)(hT:Tabs C)(x:Nat)(hx:x<10000):Gives cx.P 117 [.int .i64 (10000+x:Nat)] C (aA (49::j8 4 x)):=by
 have h:=BR C hT (10000+x) om_
 rwa [tenK hx] at h
theorem dt {n k:Nat}(h:n<10 ^ k)(hk:0<k):(aT n).length<=k:=by
 apply Lw;intro hn;have h1:=l6 (aV n).1 om_;rw [(aV n).2] at h1;have h2:10 ^ k<=10 ^ ((aT n).length-1):=gr dc_ om_;omega
theorem re {l:List Nat}(h:DigP l):(aT (a6 l)).length<=4*l.length+1:=by
 refine dt ?_ om_;have h1:=kc h;rw [<- Gc] at h1;have h2:10 ^ (4*l.length)<=10 ^ (4*l.length+1):=gr dc_ om_;omega
theorem gA {l:List Nat}{k:Nat}(h:k<l.length):(l.map dG)[k]?=some (dG (gP l k))/\l[k]?=some (gP l k):=by
 have e:l[k]?=some (gP l k):=by
  unfold gP;rw [aF,aq h];rfl
 exact ⟨by rw [bX,e];rfl,e⟩
theorem Cc (C:Mem)(hT:Tabs C)(v:Value)(l:List Nat)(hv:Sl C 1 v (l.map dG))(hc:vx l)(hl:l.length<=100000):Gives cx.P 251 [v] C (aA (aT (a6 l))):=by
 obtain ⟨A0,c0,rfl,_⟩:=id hv;simp only [aH] at hv ⊢;have hd:=hc.1;refine Fn.it kr_ Tryz.func251 34 fun w0=>?_;refine G.z1 1 0 ?_;refine G.z2 3 0 8 ?_;refine G.cd (fun h8=>?_) fun h8=>?_
 ·have h0:l=[]:=by
   have:(l.length:Int)=0:=by simpa using h8
   exact LL om_
  refine G.z1 1 2 ?_;refine G.rf ?_;refine ⟨?_,Z⟩;rw [h0,show aT (a6 [])=[48] by rw [aT];rfl];rfl
 ·have h0:0<l.length:=by
   have:¬ (l.length:Int)=0:=by simpa using h8
   omega
  have hrl:(l.map dG)[((l.length:Int)-1).toNat]?=some (dG (gP l (l.length-1))):=by rw [show ((l.length:Int)-1).toNat=l.length-1 by omega];exact (gA om_).1
  have hgl:gP l (l.length-1)<10000:=Ci hd _;have hdr:a6 (l.drop (l.length-1))=gP l (l.length-1):=by
   rw [K2 om_,No om_];have h1:=(gA (l:=l) (k:=l.length-1) om_).2;rw [(aJ.1 h1).2];simp [a6]
  have hgp:0<gP l (l.length-1):=by
   have h1:=(gA (l:=l) (k:=l.length-1) om_).2;have h2:=hc.2;rw [MF,h1] at h2;rcases LV (gP l (l.length-1)) with h | h
   ·rw [h] at h2;exact absurd rfl h2
   ·exact h
  refine G.rp 3 fun R hR=>?_;refine D.ar _ ?_;refine D.ak hv.m_ U10 om_ hrl fl_ (fun p13 hp13=>?_);refine D.aa hp13 ?_;refine D.aj (BR _ hT.m_ (gP l (l.length-1)) om_) U7 fl_ ?_;refine D.q2 1 0 3 hR ?_;refine G.rp 2 fun R hR=>?_;refine D.ar _ ?_;refine D.q3 1 0 3 4 hR ?_;rw [show (l.length:Int)-2=((l.length-1:Nat):Int)-1 by omega];refine G.loop (fun fr C' L' μ=>∃ (k:Nat)(o:Str),(k<l.length/\rO o/\aX o=a6 (l.drop k)/\0<aX o/\o.length<=25+4*(l.length-k))/\fr=[(0,[],.slice A0 l.length c0),(3,[],aA o),(4,[],.int .i64 ((k:Int)-1))]/\L'=[]/\μ=k+1) (h_3 0 3 4) ⟨l.length-1,aT (gP l (l.length-1)),⟨by omega,(aV _).1,by rw [(aV _).2,hdr],by rw [(aV _).2];exact hgp,by
   have h2:=dt (k:=4) (n:=gP l (l.length-1)) hgl om_;omega⟩,rfl,rfl,rfl⟩ (fun fr C0' L0' m _ hI=>?_)
  obtain ⟨k,o,⟨hk,hoc,hov,ho0,hol⟩,rfl,rfl,rfl⟩:=hI;refine G.z4 2 0 3 4 20 ?_;refine G.cd (fun h20=>?_) fun h20=>?_
  ·have hk0:0<k:=by
    have:(0:Int)<=(k:Int)-1:=by simpa using h20
    omega
   obtain ⟨j,rfl⟩:∃ j,k=j+1:=⟨k-1,by omega⟩;rw [show ((j+1:Nat):Int)-1=(j:Int) by omega];obtain ⟨hrj,hgj⟩:=gA (l:=l) (k:=j) om_;have hx:=Ci hd j;have hx2:gP l j<10000:=hx;have hpl:=(jf 4 (gP l j) hx).1;refine G.rp 2 fun R hR=>?_;refine D.ak hv.m_ U10 om_ hrj fl_ (fun p25 hp25=>?_);refine D.aa hp25 ?_;refine D.cf (((10000+gP l j:Nat):Int)) U4 om_ om_ om_ U2 ?_;refine D.ag (Hx _ hT.m_ _ hx2) ?_;refine D.q4 1 0 3 4 5 hR ?_;refine G.rp 2 fun R hR=>?_;refine D.bF 1 (49::j8 4 (gP l j)).length U9 (fun _=>⟨.inr ⟨_,Z⟩,.inl ⟨Z,Z⟩,.inl ⟨Z,Z⟩,by simp,aP _,aP _⟩) U2 ?_;refine D.bM U6 (fun _=>(by simp only [Ni,eB,fh];omega)) U2 ?_;refine D.q3 1 0 3 4 hR ?_;refine G.rp 1 fun R hR=>?_;refine D.ar _ ?_;refine D.q3 1 0 3 4 hR ?_;rw [cK,List.drop_one,List.tail_cons];obtain ⟨g1,g2,g3⟩:=Ca hd hgj hoc hov ho0;refine G.ax (m':=j+1) om_ mup (h_3 0 3 4) ⟨j,o++j8 4 (gP l j),⟨by omega,g1,g2,g3,by rw [eh,hpl];omega⟩,Z,Z,Z⟩
  ·have hk0:k=0:=by
    have:¬ (0:Int)<=(k:Int)-1:=by simpa using h20
    omega
   subst hk0;refine G.z1 2 2 ?_;refine G.rf ?_;refine ⟨?_,Z⟩;rw [l7 hoc,hov,LR]
def sgZ (m:Bool)(n:Nat):Int:=if m then -(n:Int) else n
theorem vJ (m:Bool)(n:Nat)(h:m=true->0<n):txt (sgZ m n)=if m then 45::aT n else aT n:=by
 unfold txt sgZ;cases m with
 | false=>simp
 | true=>have:=h rfl;simp;omega
theorem kK (C:Mem)(hT:Tabs C)(m:Bool)(v:Value)(l:List Nat)(hv:Sl C 1 v (l.map dG))(hd:DigP l)(hl:l.length<=100000):Gives cx.P 173 [.bool m,v] C (aA (txt (sgZ m (a6 l)))):=by
 have hcc:=j0 hd;have hcl:(tj l).length<=100000:=by unfold tj;rw [eB];omega
 have hnil:(tj l).length=0 ↔ a6 l=0:=by rw [<- gi,xf hcc,Nc]
 refine Fn.it kr_ Tryz.func173 18 fun w0=>?_;refine G.z2 1 0 1 ?_;refine G.rp 1 fun R hR=>?_;refine D.az (wX _ _ l hv) (fun v6 _ _ hq6=>?_);obtain ⟨A1,c1,rfl,_⟩:=id hq6;rw [aH] at hq6;rw [aH];refine D.q2 1 0 1 hR ?_;refine G.rp 5 fun R hR=>?_;refine D.aw ?_;refine D.e2 1 12 hR ?_;refine G.cd (fun h12=>?_) fun h12=>?_
 ·have hm:m=true/\0<a6 l:=by
   simp at h12;refine ⟨h12.1, ?_⟩;have h2:=h12.2;rcases LV (a6 l) with h | h
   ·have:=hnil.2 h;omega
   ·exact h
  refine G.rp 1 fun R hR=>?_;refine D.ag (Cc _ hT.m_ _ (tj l) hq6.m_ hcc hcl) ?_;refine D.bM U6 (fun _=>(by have:=re hcc.1;simp only [fh,J8];omega)) U2 ?_;refine D.q1 1 4 hR ?_;refine G.rf ?_;refine ⟨?_,Z⟩;rw [vJ m _ (fun _=>hm.2),bW hm.1,gi];rfl
 ·have hm:m=true->a6 l=0:=fun h=>by
   rcases LV (tj l).length with h0 | h0
   ·exact hnil.1 h0
   ·exfalso;have h1:decide ((0:Int)<((tj l).length:Nat))=true:=j9 om_;rw [h,h1] at h12;cases h12
  refine G.rp 1 fun R hR=>?_;refine D.ag (Cc _ hT.m_ _ (tj l) hq6.m_ hcc hcl) ?_;refine D.q1 1 4 hR ?_;refine G.rf ?_;refine ⟨?_,Z⟩;rw [gi];congr 1;cases m with
  | false=>rw [vJ false _ (fun h=>by cases h)];rfl
  | true=>rw [hm rfl];rfl

def gI (p:List Int)(i:Nat):Int:=p.getD i 0
theorem Cl {p:List Int}{k:Nat}(h:k<p.length):(p.map dB)[k]?=some (dB (gI p k))/\p[k]?=some (gI p k):=by
 have e:p[k]?=some (gI p k):=by
  unfold gI;rw [aF,aq h];rfl
 exact ⟨by rw [bX,e];rfl,e⟩
theorem o8 {p:List Int}{k:Nat}(h:p.length<=k):gI p k=0:=by
 unfold gI;rw [aF,LF h];rfl
theorem GR (p:List Int)(k:Nat):gN (p.take (k+1))=gN (p.take k)+(10000:Int) ^ k*gI p k:=by
 rcases Ld k p.length with h | h
 ·exact zM (Cl h).2
 ·rw [o8 h,gG h,gG om_];simp
theorem AV (o:Int):(o-o % 10000).tdiv 10000=(o-o % 10000) / 10000:=Int.tdiv_eq_ediv_of_dvd (Int.dvd_of_emod_eq_zero om_)
theorem xe (C:Mem)(v:Value)(p:List Int)(hv:Sl C 1 v (p.map dB))(hpos:0<=gN p)(hb:∀ x∈p, -1000000000000<=x/\x<=1000000000000)(hl:p.length<=100000):Pur cx.P 250 [v] C fun u D=>PieC D u (gN p).toNat:=by
 obtain ⟨A0,c0,rfl,_⟩:=id hv;simp only [aH] at hv ⊢;refine Fn.it kr_ Tryz.func250 43 fun w0=>?_;refine G.z1 1 0 ?_;refine G.z2 1 0 3 ?_;refine G.z3 1 0 3 4 ?_;refine G.z4 1 0 3 4 5 ?_;refine G.nilArr 3 1 ?_;refine G.loop (fun fr C' L' μ=>∃ (i:Nat)(o:Int)(out:List Nat)(w:Value),(out.length=i/\DigP out/\-1000000000000<=o/\o<=1000000000000/\gN (p.take i)=(a6 out:Nat)+(10000:Int) ^ i*o/\(p.length<=i->(i:Int)+o<=1000000100000))/\fr=[(0,[],.slice A0 p.length c0),(3,[],w),(4,[],.int .i64 o),(5,[],.int .i64 i)]/\L'=[.arr w 3 1 i (out.map dG).flatten]/\μ=(p.length-i)*4611686018427387904+o.natAbs) (h_4 0 3 4 5) ⟨0,0,[],_,⟨Z,(fun x hx=>(by cases hx)),by omega,by omega,by simp [gN,a6],fun h=>by omega⟩,Z,Z,Z⟩ (fun fr C0' L0' m _ hI=>?_);obtain ⟨i,o,out,w,⟨hol,hod,ho1,ho2,hov,hi2⟩,rfl,rfl,rfl⟩:=hI;have hopos:p.length<=i->0<=o:=fun h=>by
  refine ED hol hod (V:=gN p) hpos ?_;rw [<- hov,gG h]
 have hiM:(i:Int)<=1000000100000:=by
  rcases Ld i p.length with h | h
  ·omega
  ·have:=hopos h;have:=hi2 h;omega
 refine G.rp 7 fun R hR=>?_;refine D.aI ?_;refine D.e5 0 3 4 5 14 hR ?_;refine G.cd (fun h14=>?_) fun h14=>?_
 ·have hgo:i<p.length∨o≠0:=by
   simp at h14;omega
  have hgb:-1000000000000<=gI p i/\gI p i<=1000000000000:=by
   rcases Ld i p.length with h | h
   ·exact hb _ (ba (Cl h).2)
   ·rw [o8 h];omega
  refine G.z5 4 0 3 4 5 20 ?_;refine G.cut (fun fr C' L' μ=>(True)/\fr=[(0,[],.slice A0 p.length c0),(3,[],w),(4,[],.int .i64 (o+gI p i)),(5,[],.int .i64 i)]/\L'=[.arr w 3 1 i (out.map dG).flatten]) ?_ (fun fr _ L20 μ _ hI=>?_)
  ·refine G.cd (fun h20=>?_) fun h20=>?_
   ·have hil:i<p.length:=by simpa using h20
    refine G.rp 3 fun R hR=>?_;refine D.ak hv.m_ U10 om_ (Cl hil).1 fl_ (fun p24 hp24=>?_);refine D.aa hp24 ?_;refine D.ar _ ?_;refine D.q4 1 0 3 4 5 hR ?_;refine G.aK 0 (Mem.le.refl _) (h_4 0 3 4 5) ⟨trivial,Z,Z⟩
   ·have hil:p.length<=i:=by
     have:¬ i<p.length:=by simpa using h20
     omega
    rw [show o=o+gI p i by rw [o8 hil,Int.add_zero]];refine G.aK 0 (Mem.le.refl _) (h_4 0 3 4 5) ⟨trivial,by rw [o8 hil];simp,Z⟩
  ·obtain ⟨_,rfl,rfl⟩:=hI;refine G.rp 1 fun R hR=>?_;refine D.J7 (Int.tmod (o+gI p i) 10000) Z Z Z Z Z Z om_ Z Z Z ?_;refine D.q5 1 0 3 4 5 6 hR ?_;have hrp:=Et (o+gI p i);have htm:-10000<=Int.tmod (o+gI p i) 10000/\Int.tmod (o+gI p i) 10000<10000:=by
    have:=OD (o+gI p i) (show (10000:Int)≠0 by decide);have:=Int.emod_lt_of_pos (o+gI p i) (show (0:Int)<10000 by decide);split at hrp <;> omega
   refine G.z6 2 0 3 4 5 6 30 ?_;refine G.cut (fun fr C' L' μ=>(True)/\fr=[(0,[],.slice A0 p.length c0),(3,[],w),(4,[],.int .i64 (o+gI p i)),(5,[],.int .i64 i),(6,[],.int .i64 (((o+gI p i) % 10000).toNat:Nat))]/\L'=[.arr w 3 1 i (out.map dG).flatten]) ?_ (fun fr _ L30 μ _ hI=>?_)
   ·refine G.cd (fun h30=>?_) fun h30=>?_
    ·have hneg:Int.tmod (o+gI p i) 10000<0:=by simpa using h30
     rw [bW hneg] at hrp;refine G.rp 1 fun R hR=>?_;refine D.cf (((((o+gI p i) % 10000).toNat:Nat):Int)) U4 om_ om_ om_ U2 ?_;refine D.q5 1 0 3 4 5 6 hR ?_;refine G.aK 0 (Mem.le.refl _) (h_5 0 3 4 5 6) ⟨trivial,Z,Z⟩
    ·have hneg:¬ Int.tmod (o+gI p i) 10000<0:=by simpa using h30
     rw [a7 hneg] at hrp;rw [show Int.tmod (o+gI p i) 10000=((((o+gI p i) % 10000).toNat:Nat):Int) by omega];refine G.aK 0 (Mem.le.refl _) (h_5 0 3 4 5 6) ⟨trivial,Z,Z⟩
   ·obtain ⟨_,rfl,rfl⟩:=hI;refine G.rp 2 fun R hR=>?_;refine D.ah [dG (((o+gI p i) % 10000).toNat)] (fun p35 _ _ hs35=>?_);refine D.append (j:=0) U11 hs35 Z (by simp only [bz,maxLen];omega) (by show (i+1)*8<=_;omega) fl_ (fun v36=>?_);refine D.q5 1 0 3 4 5 6 hR ?_;refine G.rp 2 fun R hR=>?_;refine D.cf ((o+gI p i-(o+gI p i) % 10000)) U4 om_ om_ om_ U2 ?_;refine D.iY ((o+gI p i-(o+gI p i) % 10000) / 10000) U6 om_ (AV _) (by rw [IntKind.wrap_i64];omega) U2 ?_;refine D.q4 1 0 3 4 5 hR ?_;refine G.rp 1 fun R hR=>?_;refine D.ar _ ?_;refine D.q4 1 0 3 4 5 hR ?_;have hm:(p.length-(i+1))*4611686018427387904+((o+gI p i-(o+gI p i) % 10000) / 10000).natAbs<(p.length-i)*4611686018427387904+o.natAbs:=by
     rcases Ld i p.length with h2 | h2
     ·omega
     ·have h3:=hopos h2;rw [o8 h2];omega
    refine G.be (L':=[.arr v36 3 1 (i+1) ((out++[((o+gI p i) % 10000).toNat]).map dG).flatten]) (by simp [dG]) ?_;refine G.ax (m':=(p.length-(i+1))*4611686018427387904+((o+gI p i-(o+gI p i) % 10000) / 10000).natAbs) om_ mup (h_4 0 3 4 5) ⟨i+1,(o+gI p i-(o+gI p i) % 10000) / 10000,out++[((o+gI p i) % 10000).toNat],v36,⟨by simp [hol],hod.snoc (by show ((o+gI p i) % 10000).toNat<10000;omega),by omega,by omega,by
     refine Dc hol ?_;rw [GR,hov,Oo];omega,fun h=>by
     rcases Ld i p.length with h2 | h2
     ·omega
     ·have h3:=hopos h2;have h4:=hi2 h2;rw [o8 h2] at *;omega⟩,rfl,rfl,rfl⟩
 ·have hgo:p.length<=i/\o=0:=by
   simp at h14;omega
  refine G.aY [(1,3)] Z (fun R hR=>?_);refine D.ac ?_;refine D.call (rh _ _ out hol) Z (.inr dc_) U6 (il _) fl_ (fun v42 _ L42 _ hq42=>?_);obtain ⟨rfl,hu⟩:=hq42;refine D.q1 1 2 hR ?_;refine G.rf ?_;refine ⟨Z,tj out,j0 hod, ?_,hu⟩;rw [gG hgo.1,hgo.2] at hov;rw [gi];omega

theorem vG:∀ (l:List Int)(i:Nat)(x:Int),i<l.length->gN (l.set i x)=gN l+(10000:Int) ^ i*(x-gI l i)
 | [],i,x,h=>by simp at h
 | a::l,0,x,_=>by
  show x+10000*gN l=a+10000*gN l+1*(x-a);omega
 | a::l,i+1,x,h=>by
  have ih:=vG l i x (by simpa using h);show a+10000*gN (l.set i x)=a+10000*gN l+(10000:Int) ^ (i+1)*(x-gI l i);rw [ih,Oo,<- Int.mul_assoc,Int.pow_succ,Int.mul_comm ((10000:Int) ^ i) 10000];omega
theorem zL (l:List Int):gN (l++[0])=gN l:=by rw [rV];omega
structure Joins (p q:List Nat)(k:Int)(i:Nat)(o:List Int):Prop where
 len:o.length=max p.length i
 val:gN o=(a6 p:Nat)+k*(a6 (q.take i):Nat)
 rest:∀ j,i<=j->gI o j=(gP p j:Nat)
 lim:∀ x∈o, -100000000<=x/\x<=100000000
theorem JF (p:List Nat)(j:Nat):gI (p.map fun x:Nat=>(x:Int)) j=(gP p j:Nat):=by
 unfold gI gP;rw [aF,aF,bX];cases p[j]? <;> rfl
theorem uC (p q:List Nat)(k:Int)(hp:DigP p):Joins p q k 0 (p.map fun x:Nat=>(x:Int)):=by
 refine ⟨by simp,by rw [lH];simp [a6],fun j _=>JF p j,fun x hx=>?_⟩;obtain ⟨y,hy,rfl⟩:=j5.1 hx;have:y<10000:=hp y hy;omega
theorem Joins.zero {p q:List Nat}{k:Int}{i:Nat}{o:List Int}(h:Joins p q k i o)(hl:o.length<=i):gN (o++[0])=(a6 p:Nat)+k*(a6 (q.take i):Nat)/\(∀ j,i<=j->gI (o++[0]) j=(gP p j:Nat))/\(∀ x∈o++[0], -100000000<=x/\x<=100000000):=by
 refine ⟨by rw [zL,h.val],fun j hj=>?_,fun x hx=>?_⟩
 ·have h1:=h.rest j hj;have h2:gI o j=0:=by unfold gI;rw [aF,LF om_];rfl
  rw [<- h1,h2];unfold gI;rw [aF,LD om_];cases j-o.length <;> rfl
 ·rcases Lh.1 hx with h1 | h1
  ·exact h.lim x h1
  ·simp at h1;subst h1;omega
theorem Cj {o:List Int}{i j:Nat}{x:Int}(h:i≠j):gI (o.set i x) j=gI o j:=by
 unfold gI;rw [aF,aF,ND h]
theorem yy {p q:List Nat}{k:Int}{i y:Nat}{o:List Int}(hp:DigP p)(hq:DigP q)(hk:-9999<=k/\k<=9999)(hy:q[i]?=some y)(hlen:o.length=max p.length (i+1))
  (hv:gN o=(a6 p:Nat)+k*(a6 (q.take i):Nat)) (hr:∀ j,i<=j->gI o j=(gP p j:Nat)) (hm:∀ x∈o, -100000000<=x/\x<=100000000) :
  Joins p q k (i+1) (o.set i (gI o i+k*(y:Nat))):=by
 have hy1:y<10000:=hq y (ba hy);have hg:gP p i<10000:=Ci hp i;have hmul:-99980001<=k*(y:Int)/\k*(y:Int)<=99980001:=by
  have h0:(0:Int)<=y:=by omega
  have h1:k*(y:Int)<=9999*(y:Int):=M6 hk.2 h0;have h2:(-9999:Int)*(y:Int)<=k*(y:Int):=M6 hk.1 h0;omega
 refine ⟨by rw [Nx];exact hlen, ?_,fun j hj=>?_,fun x hx=>?_⟩
 ·rw [vG o i _ om_,hv,fE hy];have e:((a6 (q.take i)+BP ^ i*y:Nat):Int)=(a6 (q.take i):Nat)+(10000:Int) ^ i*(y:Int):=by
   rw [NM,La,Int.natCast_pow];rfl
  rw [e,Oo,show gI o i+k*(y:Int)-gI o i=k*(y:Int) by omega,Int.mul_left_comm];omega
 ·rw [Cj om_];exact hr j om_
 ·rcases NB hx with h1 | h1
  ·exact hm x h1
  ·subst h1;rw [hr i (aP _)];omega
theorem wL {p:List Int}{k:Nat}(h:k<p.length):p[k]?=some (gI p k):=by
 unfold gI;rw [aF,aq h];rfl
theorem iI {l:List Nat}(h:vx l){m:Nat}(hv:a6 l<BP ^ m):l.length<=m:=by
 apply Lw;intro hn;have h1:=ry h om_;have h2:BP ^ m<=BP ^ (l.length-1):=gr dc_ om_;omega
theorem qZ (x:Int):(dB x).length=1:=rfl
theorem jT (x:Nat):(dG x).length=1:=rfl
theorem Dd (C:Mem)(v:Value)(p:List Int){n:Nat}(hn:p.length=n)(hpos:0<=gN p)(hb:∀ x∈p, -1000000000000<=x/\x<=1000000000000)(hl:p.length<=100000):Jog.Fn cx.P 250 [v] C [.arr v 3 1 n (p.map dB).flatten] fun u C' L'=>L'=[]/\PieC C' u (gN p).toNat :=
 Jog.Fn.give (p.map dB) kr_ (by intro r hr;obtain ⟨y,_,rfl⟩:=j5.1 hr;rfl) (by rw [aH,hn]) (fun C' _ hs=>xe C' v p hs hpos hb hl)
theorem ib (C:Mem)(vp vq:Value)(p q:List Nat)(k:Int)(hp:Sl C 1 vp (p.map dG))(hq:Sl C 1 vq (q.map dG))(hdp:DigP p)(hdq:DigP q)(hk:-9999<=k/\k<=9999)(hpos:0<=(a6 p:Int)+k*(a6 q:Int))(hlp:p.length<=50000)(hlq:q.length<=50000) :
  Pur cx.P 172 [vp,vq,.int .i64 k,.int .i64 0] C fun u D=>PieC D u ((a6 p:Int)+k*(a6 q:Int)).toNat:=by
 obtain ⟨A0,c0,rfl,_⟩:=id hq;simp only [aH] at hq ⊢;refine Fn.it kr_ Tryz.func172 45 fun w0=>?_;refine G.z4 1 0 1 2 3 ?_;refine G.rg fun R hR=>?_;refine D.ec [] U12 fl_ (fun b11=>?_);refine D.ac ?_;refine D.append (j:=0) U11 hp (by rw [ep];intro r hr;obtain ⟨y,_,rfl⟩:=j5.1 hr;rfl) (by rw [aH];simp only [J8,maxLen];omega) (by rw [aH];show (0+p.length)*8<=_;omega) fl_ (fun v13=>?_);refine D.q4 1 1 2 3 9 hR ?_;refine G.z5 1 1 2 3 9 10 ?_;refine G.be (L':=[.arr v13 3 1 (p.map fun x:Nat=>(x:Int)).length (((p.map fun x:Nat=>(x:Int)).map dB).flatten)]) (by rw [Ns];simp;rfl) ?_;refine G.loop (fun fr C' L' μ=>∃ (i:Nat)(o:List Int)(w:Value),(i<=q.length/\Joins p q k i o)/\fr=[(1,[],.slice A0 q.length c0),(2,[],.int .i64 k),(3,[],.int .i64 0),(9,[],w),(10,[],.int .i64 i)]/\L'=[.arr w 3 1 o.length (o.map dB).flatten]/\μ=q.length-i) (h_5 1 2 3 9 10) ⟨0,_,_,⟨ch _,uC p q k hdp⟩,Z,Z,Z⟩ (fun fr C0' L0' m _ hI=>?_);obtain ⟨i,o,w,⟨hi,hJ⟩,rfl,rfl,rfl⟩:=hI;refine G.z6 4 1 2 3 9 10 17 ?_;refine G.cd (fun h17=>?_) fun h17=>?_
 ·have hil:i<q.length:=by simpa using h17
  have hol:=hJ.len;refine G.loop (fun fr C' L' μ=>∃ (o2:List Int)(w2:Value),((o2=o∨(o2=o++[0]/\o.length<=i)))/\fr=[(1,[],.slice A0 q.length c0),(2,[],.int .i64 k),(3,[],.int .i64 0),(9,[],w2),(10,[],.int .i64 i)]/\L'=[.arr w2 3 1 o2.length (o2.map dB).flatten]/\μ=i+1-o2.length) (h_5 1 2 3 9 10) ⟨o,w,.inl Z,Z,Z,Z⟩ (fun fr C1' L1' m _ hI=>?_);obtain ⟨o2,w2,ho2,rfl,rfl,rfl⟩:=hI;refine G.pG 0 Z (fun Aw cw he=>?_);subst he;have ho2l:o2.length<=50002:=by
   have h1:o2.length<=o.length+1:=by
    have h2:=ho2.imp (fun e=>congrArg List.length e) (fun e=>congrArg List.length e.1);rw [eh,bz] at h2;omega
   omega
  refine G.rp 4 fun R hR=>?_;refine D.cf (((i:Nat):Int)) U4 om_ om_ om_ U2 ?_;refine D.q6 1 1 2 3 9 10 25 hR ?_;refine G.cd (fun h25=>?_) fun h25=>?_
  ·have hle2:o2.length<=i:=by
    have:(o2.length:Int)<=i:=by simpa using h25
    omega
   have ho3:o2=o:=by
    refine ho2.elim id fun h=>?_;have:=h.1 ▸ hle2;rw [eh,bz] at this;omega
   subst ho3;refine G.rp 1 fun R hR=>?_;refine D.ah [dB 0] (fun p27 _ _ hs27=>?_);refine D.append (j:=0) U11 hs27 Z (by simp only [bz,maxLen];omega) (by show (o2.length+1)*8<=_;omega) fl_ (fun v28=>?_);refine D.q5 1 1 2 3 9 10 hR ?_;refine G.be (L':=[.arr v28 3 1 (o2++[0]).length ((o2++[0]).map dB).flatten]) (by simp [dB]) ?_;have hm1:i+1-(o2++[0]).length<i+1-o2.length:=by rw [eh,bz];omega
   refine G.ax (m':=i+1-(o2++[0]).length) om_ mup (h_5 1 2 3 9 10) ⟨o2++[0],v28,.inr ⟨Z,hle2⟩,Z,Z,Z⟩
  ·have hlt:i<o2.length:=by
    have:¬ (o2.length:Int)<=i:=by simpa using h25
    omega
   have hfacts:o2.length=max p.length (i+1)/\gN o2=(a6 p:Nat)+k*(a6 (q.take i):Nat)/\(∀ j,i<=j->gI o2 j=(gP p j:Nat))/\(∀ x∈o2, -100000000<=x/\x<=100000000):=by
    refine ho2.elim (fun h=>?_) fun h=>?_
    ·subst h;exact ⟨by omega,hJ.val,hJ.rest,hJ.lim⟩
    ·obtain ⟨h1,h2⟩:=h;subst h1;have h3:=hJ.zero h2;exact ⟨by rw [eh,bz];omega,h3⟩
   obtain ⟨hlen,hv2,hr2,hm2⟩:=hfacts;obtain ⟨hrq,hgq⟩:=gA (l:=q) (k:=i) hil;have hgl:gP q i<10000:=Ci hdq i;have hmul:-99980001<=k*((gP q i:Nat):Int)/\k*((gP q i:Nat):Int)<=99980001:=by
    have h0:(0:Int)<=((gP q i:Nat):Int):=by omega
    have h1:k*((gP q i:Nat):Int)<=9999*((gP q i:Nat):Int):=M6 hk.2 h0;have h2:(-9999:Int)*((gP q i:Nat):Int)<=k*((gP q i:Nat):Int):=M6 hk.1 h0;omega
   have hgo:=hm2 _ (ba (wL hlt));refine G.nU 0 (m:=o2.length-1) (v:=.slice Aw o2.length cw) (t:=3) (s:=1) (xs:=(o2.map dB).flatten) (by rw [show o2.length-1+1=o2.length by omega];rfl) (fun g0 cc hgc=>?_);injection hgc with hgc1 hgc2 hgc3;subst hgc1 hgc3;refine G.aG [0,1,2,3,4,5,6,7,8,9,10,11,12,13,14] [] Z kr_ (fun R hB hR=>?_);refine D.ps 3 ?_;refine D.cf (((i:Nat):Int)) U4 om_ om_ om_ U2 ?_;refine D.bu (i*1) U10 (fun _=>⟨by omega,by omega,Z⟩) U2 ?_;refine D.er (.head _) U6 (fun _=>(by rw [fm qZ (wL hlt)];rfl)) U2 ?_;refine D.ps 3 ?_;refine D.ak hq.m_ U10 om_ hrq fl_ (fun p38 hp38=>?_);refine D.aa hp38 ?_;refine D.ar _ ?_;refine D.ar _ ?_;refine D.bu (i*1) U10 (fun _=>⟨by omega,by omega,Z⟩) U2 ?_;refine D.bE (j:=0) U11 (by show i*1+1<=_;rw [cX qZ];omega) ?_;refine D.e5 1 2 3 9 10 hR ?_;refine G.rp 1 fun R hR=>?_;refine D.ar _ ?_;refine D.q5 1 1 2 3 9 10 hR ?_;refine G.be (L':=[.arr (.slice (some ⟨g0,0,none⟩) o2.length cw) 3 1 (o2.set i (gI o2 i+k*((gP q i:Nat):Int))).length ((o2.set i (gI o2 i+k*((gP q i:Nat):Int))).map dB).flatten]) (by rw [<- bV qZ _ hlt,Nx];rfl) ?_;refine G.ax (m':=q.length-(i+1)) om_ mup (h_5 1 2 3 9 10) ⟨i+1,_,_,⟨by omega,yy hdp hdq hk hgq hlen hv2 hr2 hm2⟩,Z,Z,Z⟩
 ·have hil:i=q.length:=by
   have:¬ i<q.length:=by simpa using h17
   omega
  have hval:gN o=(a6 p:Int)+k*(a6 q:Int):=by rw [hJ.val,hil,cK]
  refine G.aY [(1,3)] Z (fun R hR=>?_);refine D.ac ?_;refine D.call (Dd _ _ o Z (by rw [hval];exact hpos) (fun x hx=>by have:=hJ.lim x hx;omega) (by have:=hJ.len;omega)) Z (.inr dc_) U6 (il _) fl_ (fun v44 _ L44 _ hq44=>?_);obtain ⟨rfl,hu⟩:=hq44;refine D.q1 1 8 hR ?_;refine G.rf ?_;rw [hval] at hu;exact ⟨Z,hu⟩

theorem F0 (n:Nat):nY ([.int .i64 0]:List Value) n=((List.replicate n 0).map dG).flatten:=by
 rw [dM,Ob];rfl
theorem rU {l:List Nat}{j:Nat}(h:j<l.length):a6 (l.drop j)=gP l j+BP*a6 (l.drop (j+1)):=by
 rw [K2 h,(aJ.1 (gA h).2).2];rfl
theorem pU {l:List Nat}{j x:Nat}(h:j<l.length):a6 ((l.set j x).drop j)=x+BP*a6 (l.drop (j+1)):=by
 rw [rU (by rw [Nx];exact h),List.drop_set_of_lt om_];congr 1;unfold gP;rw [aF,Nn h];rfl
theorem Fh {l:List Nat}(h:DigP l){j x:Nat}(hx:x<BP):DigP (l.set j x):=fun y hy=>by
 rcases NB hy with h1 | h1
 ·exact h y h1
 ·rw [h1];exact hx
theorem wl (C:Mem)(vp vq:Value)(p q:List Nat)(hp:Sl C 1 vp (p.map dG))(hq:Sl C 1 vq (q.map dG))(hdp:DigP p)(hcq:vx q)(hQ:0<a6 q)(hlp:p.length<=10000)(hlq:q.length<=10000) :
  Pur cx.P 170 [vp,vq] C fun u D=>∃ u1 u2,u=.tuple #[u1,u2]/\PieC D u1 (a6 p / a6 q)/\PieC D u2 (a6 p % a6 q):=by
 obtain ⟨A0,c0,rfl,_⟩:=id hp;obtain ⟨B0,d0,rfl,_⟩:=id hq;simp only [aH] at hp hq ⊢;refine Fn.it kr_ Tryz.func170 58 fun w0=>?_;refine G.z2 2 0 1 ?_;refine G.rp 2 fun R hR=>?_;refine D.bK U9 (aP _) (by show 8*p.length<=281474976710656;omega) (by simp only [maxLen];omega) fl_ (fun b14=>?_);refine D.q3 1 0 1 6 hR ?_;refine G.z4 1 0 1 6 7 ?_;refine G.rp 2 fun R hR=>?_;refine D.ar _ ?_;refine D.q5 1 0 1 6 7 8 hR ?_;refine G.be (L':=[.arr (qW b14 p.length p.length) 3 1 p.length ((List.replicate p.length 0).map dG).flatten]) (by rw [<- F0];rfl) ?_;refine G.loop (fun fr C' L' μ=>∃ (k:Nat)(o l:List Nat)(vr:Value),(k<=p.length/\o.length=p.length/\DigP o/\a6 (o.drop k)=a6 (p.drop k) / a6 q/\Sl C' 1 vr (l.map dG)/\vx l/\a6 l=a6 (p.drop k) % a6 q)/\fr=[(0,[],.slice A0 p.length c0),(1,[],.slice B0 q.length d0),(6,[],qW b14 p.length p.length),(7,[],vr),(8,[],.int .i64 ((k:Int)-1))]/\L'=[.arr (qW b14 p.length p.length) 3 1 p.length (o.map dG).flatten]/\μ=k+1) (h_5 0 1 6 7 8) ⟨p.length,List.replicate p.length 0,[],.slice none 0 0,⟨aP _,LW,(fun x hx=>by rw [LH hx];decide),by rw [LI,No (by simp)];simp [a6],Sl.nil _ _,⟨fun x hx=>(by cases hx),by simp⟩,by rw [LI];simp [a6]⟩,Z,Z,Z⟩ (fun fr C0' L0' m _ hI=>?_);obtain ⟨k,o,l,vr,⟨hk,hol,hod,hov,hs,hcl,hlv⟩,rfl,rfl,rfl⟩:=hI;refine G.z6 2 0 1 6 7 8 19 ?_;refine G.cd (fun h19=>?_) fun h19=>?_
 ·have hk0:0<k:=by
   have:(0:Int)<=(k:Int)-1:=by simpa using h19
   omega
  obtain ⟨j,rfl⟩:∃ j,k=j+1:=⟨k-1,by omega⟩;rw [show ((j+1:Nat):Int)-1=(j:Int) by omega];obtain ⟨hrj,hgj⟩:=gA (l:=p) (k:=j) om_;have hx:gP p j<BP:=Ci hdp j;have hx2:gP p j<10000:=hx;have hllen:l.length<=q.length:=iI hcl (by rw [hlv];exact ML (K9 _ hQ) (kc hcq.1));have hrd:DigP (gP p j::l):=fun y hy=>by
   rcases cI.1 hy with h | h
   ·rw [h];exact hx
   ·exact hcl.1 y h
  refine G.aY [(7,3)] Z (fun R hR=>?_);refine D.ps 2 ?_;refine D.ak hp.m_ U10 om_ hrj fl_ (fun p24 hp24=>?_);refine D.aa hp24 ?_;refine D.ec [dG (gP p j)] U12 fl_ (fun b26=>?_);refine D.ac ?_;refine D.append (j:=0) U11 hs.m_ (by rw [ep];intro r hr;obtain ⟨y,_,rfl⟩:=j5.1 hr;rfl) (by rw [aH];simp only [bz,maxLen];omega) (by rw [aH];show (1+l.length)*8<=_;omega) fl_ (fun v28=>?_);refine D.call (rh _ _ (gP p j::l) (n:=1+(l.map dG).length) (by rw [aH];simp;omega)) Z (.inr dc_) U6 (il _) fl_ (fun v29 C29 L29 _ hq29=>?_);obtain ⟨rfl,hu⟩:=hq29;refine D.q5 1 0 1 6 7 8 hR ?_;obtain ⟨r,hrc,hrv,hrs,hrl⟩:∃ r,vx r/\a6 r=gP p j+BP*(a6 (p.drop (j+1)) % a6 q)/\Sl C29 1 v29 (r.map dG)/\r.length<=20000:=⟨tj (gP p j::l),j0 hrd,by rw [gi];show gP p j+BP*a6 l=_;rw [hlv],hu,by unfold tj;rw [eB,fh];omega⟩;have hdm:=CG (t:=a6 (p.drop (j+1))) (x:=gP p j) hQ;rw [<- rU om_,<- hrv] at hdm;have hdl:a6 r / a6 q<BP:=by rw [hrv];exact tf hQ hx
  have hdl2:a6 r / a6 q<10000:=hdl;refine G.z7 2 0 1 6 7 8 9 10 ?_;refine G.loop (fun fr C' L' μ=>∃ (low high:Nat),(low<=a6 r / a6 q/\a6 r / a6 q<=high/\high<=9999)/\fr=[(0,[],.slice A0 p.length c0),(1,[],.slice B0 q.length d0),(6,[],qW b14 p.length p.length),(7,[],v29),(8,[],.int .i64 j),(9,[],.int .i64 low),(10,[],.int .i64 high)]/\L'=[.arr (qW b14 p.length p.length) 3 1 p.length (o.map dG).flatten]/\μ=high-low) (h_7 0 1 6 7 8 9 10) ⟨0,9999,⟨ch _,by omega,aP _⟩,Z,Z,Z⟩ (fun fr C1' L1' m _ hI=>?_);obtain ⟨low,high,⟨hlo,hhi,hh9⟩,rfl,rfl,rfl⟩:=hI;refine G.z8 3 0 1 6 7 8 9 10 32 ?_;refine G.cd (fun h32=>?_) fun h32=>?_
  ·have hlh:low<high:=by simpa using h32
   obtain ⟨hv1,hv2⟩:=HD hQ hlo hhi hlh;refine G.rp 2 fun R hR=>?_;refine D.ar _ ?_;refine D.ar _ ?_;refine D.iY ((((low+high+1) / 2:Nat):Int)) U6 om_ (by rw [Nz om_];omega) (by rw [IntKind.wrap_i64];omega) U2 ?_;refine D.q8 1 0 1 6 7 8 9 10 11 hR ?_;refine G.rp 3 fun R hR=>?_;refine D.au (ib _ _ _ [] q ((((low+high+1) / 2:Nat):Int)) (Sl.nil _ _) hq.m_ (fun x hx=>(by cases hx)) hcq.1 om_ (by rw [<- La];omega) (by simp) om_) U7 fl_ (fun v41 _ _ hq41=>?_);obtain ⟨l2,hc2,hv3,hs2⟩:=hq41;have hv4:a6 l2=a6 q*((low+high+1) / 2):=by
    have h0:((a6 ([]:List Nat):Nat):Int)=0:=rfl;rw [hv3,h0,Int.zero_add,<- La,L5,K8]
   refine D.ag (wi _ _ _ r l2 hrs.m_ hs2.m_ hrc hc2) ?_;refine D.e9 0 1 6 7 8 9 10 11 42 hR ?_;refine G.cd (fun h42=>?_) fun h42=>?_
   ·have hlt:a6 r<a6 q*((low+high+1) / 2):=by
     rw [<- hv4];simpa using h42
    have hv5:=hv1 hlt;refine G.rp 1 fun R hR=>?_;refine D.ar _ ?_;refine D.q7 1 0 1 6 7 8 9 10 hR ?_;rw [show ((((low+high+1) / 2:Nat):Int))-1=(((low+high+1) / 2-1:Nat):Int) by omega];refine G.ax (m':=(low+high+1) / 2-1-low) om_ mup (h_7 0 1 6 7 8 9 10) ⟨low,(low+high+1) / 2-1,⟨hv5.1,hv5.2,by omega⟩,Z,Z,Z⟩
   ·have hlt:¬ a6 r<a6 q*((low+high+1) / 2):=by
     rw [<- hv4];simpa using h42
    have hv5:=hv2 hlt;refine G.z7 2 0 1 6 7 8 9 10 ?_;refine G.ax (m':=high-(low+high+1) / 2) om_ mup (h_7 0 1 6 7 8 9 10) ⟨(low+high+1) / 2,high,⟨hv5.1,hv5.2,hh9⟩,Z,Z,Z⟩
  ·have hlh:low=a6 r / a6 q:=by
    have:¬ low<high:=by simpa using h32
    omega
   have hrm:((a6 r:Nat):Int) + -(low:Int)*((a6 q:Nat):Int)=((a6 r % a6 q:Nat):Int):=by
    have h1:=MT (a6 r) (a6 q);rw [<- hlh] at h1;have h2:((a6 q*low+a6 r % a6 q:Nat):Int)=(a6 r:Nat):=by rw [h1]
    rw [NM,La] at h2;rw [Int.neg_mul,Int.mul_comm (low:Int)];omega
   refine G.rp 3 fun R hR=>?_;refine D.bu (j*1) U10 (fun _=>⟨by omega,by omega,Z⟩) U2 ?_;refine D.bE (j:=0) U11 (by show j*1+1<=_;rw [cX jT];omega) ?_;refine D.e6 0 1 6 7 8 9 hR ?_;refine G.rp 4 fun R hR=>?_;rw [show IntKind.i64.wrap (0-(low:Int))=-(low:Int) by rw [IntKind.wrap_i64];omega];refine D.au (ib _ _ _ r q (-(low:Int)) hrs.m_ hq.m_ hrc.1 hcq.1 om_ (by rw [hrm];omega) om_ om_) U7 fl_ (fun v54 _ _ hq54=>?_);obtain ⟨l3,hc3,hv6,hs3⟩:=hq54;rw [hrm,L5] at hv6;refine D.q5 1 0 1 6 7 8 hR ?_;refine G.rp 1 fun R hR=>?_;refine D.ar _ ?_;refine D.q5 1 0 1 6 7 8 hR ?_;refine G.be (L':=[.arr (qW b14 p.length p.length) 3 1 p.length ((o.set j low).map dG).flatten]) (by rw [<- bV jT _ (by omega:j<o.length)];rfl) ?_;refine G.ax (m':=j+1) om_ mup (h_5 0 1 6 7 8) ⟨j,o.set j low,l3,_,⟨by omega,by rw [Nx];exact hol,Fh hod (by show low<BP;omega),by rw [pU om_,hov,hdm.1,hlh];omega,hs3.mono mup,hc3,by rw [hv6,hdm.2,hrv]⟩,Z,Z,Z⟩
 ·have hk0:k=0:=by
   have:¬ (0:Int)<=(k:Int)-1:=by simpa using h19
   omega
  subst hk0;refine G.aY [(1,3)] Z (fun R hR=>?_);refine D.ac ?_;refine D.call (rh _ _ o hol) Z (.inr dc_) U6 (il _) fl_ (fun v56 _ L56 _ hq56=>?_);obtain ⟨rfl,hu⟩:=hq56;refine D.q2 3 4 5 hR ?_;refine G.aB (G.dropAll (G.a8 U3 ?_));exact ⟨Z,_,_,Z,⟨tj o,j0 hod,by rw [gi,<- LR (l:=o),hov,LR],hu⟩,⟨l,hcl,by rw [hlv,LR],hs.mono mup⟩⟩

theorem cN (z:Int):aZ 45 (txt z)=(aT z.natAbs,decide (z<0)):=by
 unfold txt;split
 ·rename_i h;rw [j9 h];rfl
 ·rename_i h;rw [K3 h];unfold aZ;rw [a7];intro h0;have h1:=(aV z.natAbs).1.1 45 (List.mem_of_mem_head? h0);revert h1;decide
theorem vI (z:Int):txt z=[48] ↔ z=0:=by
 constructor
 ·intro h;have h1:(aZ 45 (txt z)).1=[48]:=by rw [h];rfl
  rw [cN] at h1;have h2:=(aV z.natAbs).2;have h3:aT z.natAbs=[48]:=h1;rw [h3] at h2;have h4:aX [48]=0:=rfl;omega
 ·rintro rfl;unfold txt;rw [a7 om_,show aT (0:Int).natAbs=aT 0 from rfl,aT];rfl
theorem jy (z:Int):((⟨(txt z).toArray⟩:ByteArray).data.toList == (⟨#[48]⟩:ByteArray).data.toList)=decide (z=0):=by
 show (txt z == [48])=_;rw [HO,Lj];exact vI z
theorem cm (n:Nat):txt (n:Int)=aT n:=by
 unfold txt;rw [a7 om_];rfl
theorem cZ (C:Mem)(z:Int):Gives cx.P 167 [aA (txt z)] C (.tuple #[.bool (decide (z<0)),aA (aT z.natAbs)]):=by
 have h:=Eg C (txt z)
 rwa [cN] at h
theorem CN {s:Str}{i:Nat}{c:UInt8}(h:s[i]?=some c):aX (s.take (i+1))=10*aX (s.take i)+(c.toNat-48):=by
 rw [nD h];omega
theorem th {s:Str}(hs:∀ c∈s,dE c=true)(hl:s.length<=17)(i:Nat):aX (s.take i)<100000000000000000:=by
 have h1:=cV (s:=s.take i) (fun c hc=>hs c (LT hc));have h2:10 ^ (s.take i).length<=10 ^ 17:=gr dc_ (by rw [eB];omega);omega
theorem p5 (C:Mem)(z:Int)(hl:(aT z.natAbs).length<=17):Gives cx.P 239 [aA (txt z)] C (.tuple #[.int .i64 z,.bool true]):=by
 obtain ⟨s,hsd⟩:∃ s,aT z.natAbs=s:=⟨_,rfl⟩;have hs:=(aV z.natAbs).1.1;have hv:=(aV z.natAbs).2;rw [hsd] at hl hs hv;refine Fn.it kr_ Tryz.func239 45 fun w0=>?_;refine G.z1 2 0 ?_;refine G.rp 1 fun R hR=>?_;refine D.aj (by have h:=cZ C z;rw [hsd] at h;exact h) U7 fl_ ?_;refine D.q2 5 4 5 hR ?_;refine G.z3 3 4 5 16 ?_;refine G.cd (fun h16=>?_) fun h16=>?_
 ·exfalso;have:(s.length:Int) > 19:=by simpa using h16
  omega
 ·refine G.z3 1 4 5 6 ?_;refine G.z4 1 4 5 6 7 ?_;refine G.loop (fun fr C' L' μ=>∃ (i:Nat),(i<=s.length)/\fr=[(4,[],.bool (decide (z<0))),(5,[],aA s),(6,[],.int .i64 (-((aX (s.take i):Nat):Int))),(7,[],.int .i64 i)]/\L'=[]/\μ=s.length-i) (h_4 4 5 6 7) ⟨0,ch _,Z,Z,Z⟩ (fun fr C0' L0' m _ hI=>?_);obtain ⟨i,hi,rfl,rfl,rfl⟩:=hI;refine G.z5 4 4 5 6 7 20 ?_;refine G.cd (fun h20=>?_) fun h20=>?_
  ·have hil:i<s.length:=by simpa using h20
   obtain ⟨c,hc⟩:∃ c,s[i]?=some c:=⟨s[i],aq hil⟩;have hcd:=hs c (ba hc);have hcr:48<=c.toNat/\c.toNat<=57:=by simpa [dE] using hcd
   have hV:=th hs hl i;have htd:(-9223372036854775808+(((c.toNat:Nat):Int)-48)).tdiv 10=-((9223372036854775808-(((c.toNat:Nat):Int)-48)) / 10):=by
    rw [show (-9223372036854775808+(((c.toNat:Nat):Int)-48))=-(9223372036854775808-(((c.toNat:Nat):Int)-48)) by omega,Int.neg_tdiv,Nz om_]
   refine G.rp 2 fun R hR=>?_;refine D.aW U8 (fun _=>⟨by omega,hc⟩) U2 ?_;refine D.bT (c:=((c.toNat:Nat):Int)) U8 (by rw [IntKind.wrap_i64];omega) fl_ ?_;refine D.ar _ ?_;refine D.q5 1 4 5 6 7 8 hR ?_;refine G.rp 2 fun R hR=>?_;refine D.ar _ ?_;refine D.iY (-((9223372036854775808-(((c.toNat:Nat):Int)-48)) / 10)) U6 om_ htd (by rw [IntKind.wrap_i64];omega) U2 ?_;refine D.q6 1 4 5 6 7 8 32 hR ?_;refine G.cd (fun h32=>?_) fun h32=>?_
   ·exfalso;simp only [cH] at h32;omega
   ·refine G.rp 1 fun R hR=>?_;refine D.ar _ ?_;refine D.ac ?_;refine D.ar _ ?_;refine D.q4 1 4 5 6 7 hR ?_;refine G.rp 1 fun R hR=>?_;refine D.ar _ ?_;refine D.q4 1 4 5 6 7 hR ?_;rw [show 10 * -((aX (s.take i):Nat):Int)-(((c.toNat:Nat):Int)-48)=-((aX (s.take (i+1)):Nat):Int) by rw [CN hc];omega];refine G.ax (m':=s.length-(i+1)) om_ mup (h_4 4 5 6 7) ⟨i+1,om_,Z,Z,Z⟩
  ·have hil:i=s.length:=by
    have:¬ i<s.length:=by simpa using h20
    omega
   rw [hil,cK,hv];refine G.z2 2 6 37 ?_;refine G.cd (fun h37=>?_) fun h37=>?_
   ·have hz:z<0:=by simpa using h37
    refine G.z2 3 2 3 ?_;refine G.aB (G.dropAll (G.a8 U3 ?_));refine ⟨?_,Z⟩;rw [show -((z.natAbs:Nat):Int)=z by omega]
   ·have hz:¬ z<0:=by simpa using h37
    have hzl:z.natAbs<100000000000000000:=by
     have:=th hs hl s.length
     rwa [cK,hv] at this
    refine G.z2 3 6 40 ?_;refine G.cd (fun h40=>?_) fun h40=>?_
    ·exfalso;simp at h40;omega
    ·refine G.z2 4 2 3 ?_;refine G.aB (G.dropAll (G.a8 U3 ?_));refine ⟨?_,Z⟩;rw [show IntKind.i64.wrap (0 - -((z.natAbs:Nat):Int))=z by rw [IntKind.wrap_i64];omega]
theorem l9 (C:Mem)(z:Int):Gives cx.P 169 [aA (txt z)] C (.tuple #[.int .i64 (if (aT z.natAbs).length<=17 then z else 0),.bool (decide ((aT z.natAbs).length<=17))]):=by
 refine Fn.it kr_ Tryz.func169 18 fun w0=>?_;refine G.z1 2 0 ?_;refine G.rp 1 fun R hR=>?_;refine D.ag (cZ C z) ?_;refine D.q2 5 0 5 hR ?_;refine G.z2 3 0 13 ?_;refine G.cd (fun h13=>?_) fun h13=>?_
 ·have hn:¬ (aT z.natAbs).length<=17:=by
   have:((aT z.natAbs).length:Int) > 17:=by simpa using h13
   omega
  refine G.z2 2 2 3 ?_;refine G.aB (G.dropAll (G.a8 U3 ?_));rw [a7 hn,K3 hn];exact ⟨Z,Z⟩
 ·have hn:(aT z.natAbs).length<=17:=by
   have:¬ ((aT z.natAbs).length:Int) > 17:=by simpa using h13
   omega
  refine G.rp 1 fun R hR=>?_;refine D.ag (p5 _ z hn) ?_;refine D.q2 4 2 3 hR ?_;refine G.aB (G.dropAll (G.a8 U3 ?_));rw [bW hn,j9 hn];exact ⟨Z,Z⟩
theorem fN (C:Mem)(hT:Tabs C)(z:Int)(h0:-9223372036854775808<=z)(h1:z<=9223372036854775807):Gives cx.P 54 [.int .i64 z] C (aA (txt z)):=by
 refine Fn.it kr_ Tryz.func54 5 fun w0=>?_;refine G.z1 1 0 ?_;refine G.rp 1 fun R hR=>?_;refine D.ag (eX _ hT z h0 h1) ?_;refine D.q1 1 2 hR ?_;refine G.rf ?_;exact ⟨Z,Z⟩
theorem t7 (C:Mem)(z:Int):Gives cx.P 113 [aA (txt z)] C (.int .i64 (if z<0 then -1 else if z=0 then 0 else 1)):=by
 refine Fn.it kr_ Tryz.func113 13 fun w0=>?_;refine G.z1 1 0 ?_;refine G.rp 1 fun R hR=>?_;refine D.ag (cZ C z) ?_;refine D.q2 5 0 3 hR ?_;refine G.z2 1 0 10 ?_;refine G.cd (fun h10=>?_) fun h10=>?_
 ·have hz:z<0:=by simpa using h10
  refine G.z1 1 2 ?_;refine G.rf ?_;rw [bW hz];exact ⟨Z,Z⟩
 ·have hz:¬ z<0:=by simpa using h10
  rw [a7 hz];refine G.z1 2 12 ?_;refine G.cd (fun h12=>?_) fun h12=>?_
  ·rw [jy] at h12;have hz0:z=0:=by simpa using h12
   refine G.z1 1 2 ?_;refine G.rf ?_;rw [bW hz0];exact ⟨Z,Z⟩
  ·rw [jy] at h12;have hz0:¬ z=0:=by simpa using h12
   refine G.z1 1 2 ?_;refine G.rf ?_;rw [a7 hz0];exact ⟨Z,Z⟩
theorem oX (C:Mem)(z:Int)(hl:(aT z.natAbs).length<=1000000):Gives cx.P 114 [aA (txt z)] C (aA (txt (-z))):=by
 refine Fn.it kr_ Tryz.func114 18 fun w0=>?_;refine G.z1 1 0 ?_;refine G.rp 1 fun R hR=>?_;refine D.ag (cZ C z) ?_;refine D.q3 5 0 3 4 hR ?_;refine G.rp 4 fun R hR=>?_;refine D.aI ?_;refine D.e2 4 14 hR ?_;refine G.cd (fun h14=>?_) fun h14=>?_
 ·rw [jy] at h14;have hz:z<=0:=by simp at h14;omega
  refine G.z1 2 2 ?_;refine G.rf ?_;refine ⟨?_,Z⟩;rw [show txt (-z)=aT z.natAbs by rw [show -z=((z.natAbs:Nat):Int) by omega,cm]]
 ·rw [jy] at h14;have hz:0<z:=by simp at h14;omega
  refine G.rp 1 fun R hR=>?_;refine D.bM U6 (fun _=>(by simp only [fh,J8];omega)) U2 ?_;refine D.q1 1 2 hR ?_;refine G.rf ?_;refine ⟨?_,Z⟩;rw [show txt (-z)=45::aT z.natAbs by unfold txt;rw [bW om_];congr 2;omega];rfl
theorem pD (C:Mem)(z:Int):Gives cx.P 168 [aA (txt z)] C (aA (aT z.natAbs)):=by
 refine Fn.it kr_ Tryz.func168 11 fun w0=>?_;refine G.z1 1 0 ?_;refine G.rp 1 fun R hR=>?_;refine D.ag (cZ C z) ?_;refine D.q1 5 4 hR ?_;refine G.z1 2 2 ?_;refine G.rf ?_;exact ⟨Z,Z⟩

theorem Kb:BP ^ 200=10 ^ 800:=by decide +kernel
theorem d9 {n:Nat}(h:n<BP ^ 200):(aT n).length<=800:=dt (by rw [<- Kb];exact h) om_
theorem PieC.take {D:Mem}{u:Value}{n:Nat}(h:PieC D u n)(hn:n<BP ^ 201):∃ l,vx l/\a6 l=n/\l.length<=201/\Sl D 1 u (l.map dG):=by
 obtain ⟨l,h1,h2,h3⟩:=h;exact ⟨l,h1,h2,iI h1 (by rw [h2];exact hn),h3⟩
theorem fk (C:Mem)(n:Nat)(h:n<BP ^ 200):Pur cx.P 171 [aA (aT n)] C fun u D=>∃ l,vx l/\a6 l=n/\l.length<=200/\Sl D 1 u (l.map dG) :=
 (GY C (aT n) (aV n).1.1 (by have:=d9 h;omega)).mono fun u D _ _ ⟨h0,l,h1,h2,h3⟩=>⟨h0,l,h1,by rw [h2,(aV n).2],iI h1 (by rw [h2,(aV n).2];exact h),h3⟩
theorem Ix:BP ^ 200+BP ^ 200<BP ^ 201:=by decide +kernel
theorem l8 {z:Int}(h:(aT z.natAbs).length<=17):z.natAbs<100000000000000000:=by
 have h1:=cV (aV z.natAbs).1.1;rw [(aV z.natAbs).2] at h1;have h2:10 ^ (aT z.natAbs).length<=10 ^ 17:=gr dc_ h;omega
theorem AB {z w:Int}(h:decide (z<0)=decide (w<0)):sgZ (decide (z<0)) (z.natAbs+w.natAbs)=z+w:=by
 rw [Lj] at h;unfold sgZ;by_cases hz:z<0
 ·have:=h.1 hz;rw [j9 hz,bW rfl];omega
 ·have:¬ w<0:=fun h1=>hz (h.2 h1);rw [K3 hz,a7 (by simp)];omega
theorem G5 {z w:Int}(h:decide (z<0)≠decide (w<0))(hl:z.natAbs<w.natAbs):sgZ (decide (w<0)) (w.natAbs-z.natAbs)=z+w:=by
 rw [ne_eq,Lj] at h;unfold sgZ;by_cases hw:w<0
 ·have:¬ z<0:=fun h1=>h ⟨fun _=>hw,fun _=>h1⟩;rw [j9 hw,bW rfl];omega
 ·have:z<0:=Lw fun h1=>h ⟨fun h2=>absurd h2 h1,fun h2=>absurd h2 hw⟩;rw [K3 hw,a7 (by simp)];omega
theorem AC {z w:Int}(h:decide (z<0)≠decide (w<0))(hl:¬ z.natAbs<w.natAbs):sgZ (decide (z<0)) (z.natAbs-w.natAbs)=z+w:=by
 rw [ne_eq,Lj] at h;unfold sgZ;by_cases hz:z<0
 ·have:¬ w<0:=fun h1=>h ⟨fun _=>h1,fun _=>hz⟩;rw [j9 hz,bW rfl];omega
 ·have:w<0:=Lw fun h1=>h ⟨fun h2=>absurd h2 hz,fun h2=>absurd h2 h1⟩;rw [K3 hz,a7 (by simp)];omega
theorem zj (C:Mem)(hT:Tabs C)(z w:Int)(hz:z.natAbs<BP ^ 200)(hw:w.natAbs<BP ^ 200):Gives cx.P 161 [aA (txt z),aA (txt w)] C (aA (txt (z+w))):=by
 have hBl:=Ix;refine Fn.it kr_ Tryz.func161 70 fun w0=>?_;refine G.z2 1 0 1 ?_;refine G.rp 1 fun R hR=>?_;refine D.ag (l9 C z) ?_;refine D.q4 5 0 1 5 6 hR ?_;refine G.rp 1 fun R hR=>?_;refine D.ag (l9 _ w) ?_;refine D.q6 5 0 1 5 6 7 8 hR ?_;refine G.rp 3 fun R hR=>?_;refine D.aw ?_;refine D.e5 0 1 5 7 28 hR ?_;refine G.cd (fun h28=>?_) fun h28=>?_
 ·have hb:(aT z.natAbs).length<=17/\(aT w.natAbs).length<=17:=by simpa using h28
  have hb1:=l8 hb.1;have hb2:=l8 hb.2;rw [bW hb.1,bW hb.2];refine G.rp 2 fun R hR=>?_;refine D.ar _ ?_;refine D.aj (fN _ hT (z+w) om_ om_) U7 fl_ ?_;refine D.q1 1 4 hR ?_;refine G.rf ?_;exact ⟨Z,Z⟩
 ·refine G.rp 1 fun R hR=>?_;refine D.ag (cZ _ z) ?_;refine D.q3 5 1 9 10 hR ?_;refine G.rp 1 fun R hR=>?_;refine D.ag (cZ _ w) ?_;refine D.q4 5 9 10 11 12 hR ?_;refine G.rp 1 fun R hR=>?_;refine D.az (fk _ z.natAbs hz) (fun v44 _ _ hq44=>?_);obtain ⟨lp,hcp,hvp,hlp,hsp⟩:=hq44;refine D.ac ?_;refine D.az (fk _ w.natAbs hw) (fun v46 _ _ hq46=>?_);obtain ⟨lq,hcq,hvq,hlq,hsq⟩:=hq46;refine D.q4 2 9 11 13 14 hR ?_;refine G.z5 4 9 11 13 14 47 ?_;refine G.cd (fun h47=>?_) fun h47=>?_
  ·have hsame:decide (z<0)=decide (w<0):=by simpa using h47
   refine G.rp 3 fun R hR=>?_;refine D.au (ib _ _ _ lp lq 1 hsp.m_ hsq.m_ hcp.1 hcq.1 om_ om_ om_ om_) U7 fl_ (fun v54 _ _ hq54=>?_);rw [show ((a6 lp:Int)+1*(a6 lq:Int)).toNat=z.natAbs+w.natAbs by omega] at hq54;obtain ⟨l3,hc3,hv3,hl3,hs3⟩:=PieC.take hq54 om_;refine D.aj (kK _ hT.m_ (decide (z<0)) _ l3 hs3.m_ hc3.1 om_) U7 fl_ ?_;refine D.q1 1 4 hR ?_;refine G.rf ?_;refine ⟨?_,Z⟩;rw [hv3,AB hsame]
  ·have hsame:decide (z<0)≠decide (w<0):=by simpa using h47
   refine G.rp 2 fun R hR=>?_;refine D.ag (wi _ _ _ lp lq hsp.m_ hsq.m_ hcp hcq) ?_;refine D.q5 1 9 11 13 14 56 hR ?_;refine G.cd (fun h56=>?_) fun h56=>?_
   ·have hlt:z.natAbs<w.natAbs:=by
     have:a6 lp<a6 lq:=by simpa using h56
     omega
    refine G.rp 3 fun R hR=>?_;refine D.au (ib _ _ _ lq lp (-1) hsq.m_ hsp.m_ hcq.1 hcp.1 om_ om_ om_ om_) U7 fl_ (fun v63 _ _ hq63=>?_);rw [show ((a6 lq:Int) + -1*(a6 lp:Int)).toNat=w.natAbs-z.natAbs by omega] at hq63;obtain ⟨l3,hc3,hv3,hl3,hs3⟩:=PieC.take hq63 om_;refine D.aj (kK _ hT.m_ (decide (w<0)) _ l3 hs3.m_ hc3.1 om_) U7 fl_ ?_;refine D.q1 1 4 hR ?_;refine G.rf ?_;refine ⟨?_,Z⟩;rw [hv3,G5 hsame hlt]
   ·have hlt:¬ z.natAbs<w.natAbs:=by
     have:¬ a6 lp<a6 lq:=by simpa using h56
     omega
    refine G.rp 3 fun R hR=>?_;refine D.au (ib _ _ _ lp lq (-1) hsp.m_ hsq.m_ hcp.1 hcq.1 om_ om_ om_ om_) U7 fl_ (fun v68 _ _ hq68=>?_);rw [show ((a6 lp:Int) + -1*(a6 lq:Int)).toNat=z.natAbs-w.natAbs by omega] at hq68;obtain ⟨l3,hc3,hv3,hl3,hs3⟩:=PieC.take hq68 om_;refine D.aj (kK _ hT.m_ (decide (z<0)) _ l3 hs3.m_ hc3.1 om_) U7 fl_ ?_;refine D.q1 1 4 hR ?_;refine G.rf ?_;refine ⟨?_,Z⟩;rw [hv3,AC hsame hlt]

theorem my (C:Mem)(n:Nat):Gives cx.P 167 [aA (aT n)] C (.tuple #[.bool false,aA (aT n)]):=by
 have h:=cZ C (n:Int);rw [cm,K3 om_] at h;exact h
theorem nO (C:Mem)(n:Nat):Gives cx.P 169 [aA (aT n)] C (.tuple #[.int .i64 (if (aT n).length<=17 then (n:Int) else 0),.bool (decide ((aT n).length<=17))]):=by
 have h:=l9 C (n:Int);rw [cm] at h;exact h
theorem nP {n:Nat}(h:(aT n).length<=17):n<100000000000000000:=l8 (z:=(n:Int)) h
theorem Bm (C:Mem)(hT:Tabs C)(n:Nat)(h:n<=9223372036854775807):Gives cx.P 54 [.int .i64 n] C (aA (aT n)):=by
 have h:=fN C hT (n:Int) om_ om_
 rwa [cm] at h
theorem qJ (C:Mem)(hT:Tabs C)(v:Value)(l:List Nat)(hv:Sl C 1 v (l.map dG))(hd:DigP l)(hl:l.length<=100000):Gives cx.P 173 [.bool false,v] C (aA (aT (a6 l))):=by
 have h:=kK C hT false v l hv hd hl;rw [show sgZ false (a6 l)=((a6 l:Nat):Int) from rfl,cm] at h;exact h
theorem Kn {q:Nat}(h:q<=9223372036854775807):IntKind.i64.wrap ((q:Nat):Int)=(q:Nat):=by rw [IntKind.wrap_i64];omega
theorem jU (C:Mem)(hT:Tabs C)(a b:Nat)(ha:a<BP ^ 200)(hb:b<BP ^ 200)(hb0:0<b):Gives cx.P 116 [aA (aT a),aA (aT b)] C (.tuple #[aA (aT (a / b)),aA (aT (a % b))]):=by
 have hBl:=Ix;refine Fn.it kr_ Tryz.func116 93 fun w0=>?_;refine G.z2 2 0 1 ?_;refine G.rp 1 fun R hR=>?_;refine D.ag (nO C a) ?_;refine D.q4 5 0 1 6 7 hR ?_;refine G.rp 1 fun R hR=>?_;refine D.ag (nO _ b) ?_;refine D.q6 5 0 1 6 7 8 9 hR ?_;refine G.rp 3 fun R hR=>?_;refine D.aw ?_;refine D.e5 0 1 6 8 31 hR ?_;refine G.cd (fun h31=>?_) fun h31=>?_
 ·have hs:(aT a).length<=17/\(aT b).length<=17:=by simpa using h31
  have h1:=nP hs.1;have h2:=nP hs.2;rw [bW hs.1,bW hs.2];have h0:=Lu a b;refine G.aG [0,1,2,3,4,5,6,7] [] Z kr_ (fun R hB hR=>?_);refine D.ps 2 ?_;refine D.iY (((a / b:Nat):Int)) U6 om_ (by rw [Nz om_];rfl) (Kn om_) U2 ?_;refine D.ps 2 ?_;refine D.ox U6 om_ om_ U2 ?_;refine D.q4 2 6 8 10 11 hR ?_;refine G.z5 2 6 8 10 11 39 ?_;refine G.cd (fun h39=>?_) fun h39=>?_
  ·exfalso;have h3:=OD (a:Int) (show (b:Int)≠0 by omega);simp only [cH] at h39;omega
  ·rw [<- Int.natCast_emod];have h3:=Lu a b;have h4:=K9 a hb0;refine G.rp 1 fun R hR=>?_;refine D.aj (Bm _ hT (a / b) om_) U7 fl_ ?_;refine D.ac ?_;refine D.aj (Bm _ hT (a % b) om_) U7 fl_ ?_;refine D.q2 2 4 5 hR ?_;refine G.aB (G.dropAll (G.a8 U3 ?_));exact ⟨Z,Z⟩
 ·refine G.rp 1 fun R hR=>?_;refine D.ag (my _ a) ?_;refine D.q3 5 1 12 13 hR ?_;refine G.rp 1 fun R hR=>?_;refine D.ag (my _ b) ?_;refine D.q4 5 12 13 14 15 hR ?_;refine G.rp 1 fun R hR=>?_;refine D.az (fk _ a ha) (fun v67 _ _ hq67=>?_);obtain ⟨lp,hcp,hvp,hlp,hsp⟩:=hq67;refine D.ac ?_;refine D.az (fk _ b hb) (fun v69 _ _ hq69=>?_);obtain ⟨lq,hcq,hvq,hlq,hsq⟩:=hq69;refine D.au (wl _ _ _ lp lq hsp.m_ hsq.m_ hcp.1 hcq om_ om_ om_) U7 fl_ (fun v70 _ _ hq70=>?_);obtain ⟨u1,u2,rfl,hu1,hu2⟩:=hq70;rw [hvp,hvq] at hu1 hu2;obtain ⟨l1,hc1,hv1,hl1,hs1⟩:=PieC.take hu1 (by have:=Lu a b;omega);obtain ⟨l2,hc2,hv2,hl2,hs2⟩:=PieC.take hu2 (by have:=K9 a hb0;omega);obtain ⟨A2,c2,rfl,_⟩:=id hs2;refine D.q5 5 12 14 15 16 17 hR ?_;refine G.rp 5 fun R hR=>?_;refine D.aw ?_;refine D.e6 12 14 15 16 17 78 hR ?_;refine G.cd (fun h78=>?_) fun h78=>?_
  ·exfalso;simp at h78
  ·refine G.rp 4 fun R hR=>?_;refine D.aj (qJ _ hT.m_ _ l1 hs1.m_ hc1.1 om_) U7 fl_ ?_;refine D.ac ?_;refine D.aj (qJ _ hT.m_ _ l2 hs2.m_ hc2.1 om_) U7 fl_ ?_;refine D.q2 2 4 5 hR ?_;refine G.aB (G.dropAll (G.a8 U3 ?_));rw [hv1,hv2];exact ⟨Z,Z⟩
theorem Gw (n:Nat):((⟨(aT n).toArray⟩:ByteArray).data.toList == (⟨#[48]⟩:ByteArray).data.toList)=decide (n=0):=by
 have h:=jy (n:Int);rw [cm] at h;rw [h,Lj];omega
theorem yG (C:Mem)(hT:Tabs C)(z w:Int)(hz:z.natAbs<BP ^ 200)(hw:w.natAbs<BP ^ 200):Gives cx.P 115 [aA (txt z),aA (txt w)] C (aA (aT (Nat.gcd z.natAbs w.natAbs))):=by
 refine Fn.it kr_ Tryz.func115 22 fun w0=>?_;refine G.z2 1 0 1 ?_;refine G.rp 1 fun R hR=>?_;refine D.ag (pD _ z) ?_;refine D.ac ?_;refine D.ag (pD _ w) ?_;refine D.q2 2 0 1 hR ?_;refine G.loop (fun fr C' L' μ=>∃ (a b:Nat),(a<BP ^ 200/\b<BP ^ 200/\Nat.gcd a b=Nat.gcd z.natAbs w.natAbs)/\fr=[(0,[],aA (aT a)),(1,[],aA (aT b))]/\L'=[]/\μ=b+1) (h_2 0 1) ⟨z.natAbs,w.natAbs,⟨hz,hw,Z⟩,Z,Z,Z⟩ (fun fr C0' L0' m _ hI=>?_);obtain ⟨a,b,⟨ha,hb,hg⟩,rfl,rfl,rfl⟩:=hI;refine G.z3 2 0 1 12 ?_;refine G.cd (fun h12=>?_) fun h12=>?_
 ·have hb0:0<b:=by
   rw [Gw] at h12;have:b≠0:=by simpa using h12
   omega
  have hlt:=K9 a hb0;refine G.rp 2 fun R hR=>?_;refine D.ag (jU _ hT.m_ a b ha hb hb0) ?_;refine D.q2 5 1 6 hR ?_;refine G.z2 4 0 1 ?_;refine G.ax (m':=a % b+1) om_ mup (h_2 0 1) ⟨b,a % b,⟨hb,by omega,by rw [<- hg,JJ a b hb0]⟩,Z,Z,Z⟩
 ·have hb0:b=0:=by
   rw [Gw] at h12;simpa using h12
  refine G.z1 2 4 ?_;refine G.rf ?_;refine ⟨?_,Z⟩;rw [<- hg,hb0,Nt]
def gE (s:Str):Int:=sgZ (aZ 45 s).2 (aX (aZ 45 s).1)
theorem tE {t:Str}(h:rO t):t.head?=some 48 ↔ aX t=0:=by
 constructor
 ·intro h0;have h1:=h.2.2 h0;cases t with
  | nil=>cases h0
  | cons b t =>
   have hb:b=48:=by simpa using h0
   have ht:t=[]:=by cases t with
    | nil=>rfl
    | cons c t=>simp at h1
   subst hb ht;rfl
 ·intro h0;have:=nN h (aV 0).1 (by rw [h0,(aV 0).2]);rw [this,aT];rfl
theorem tC {s:Str}:tD s=true ↔ rO (aZ 45 s).1/\((aZ 45 s).2=true->0<aX (aZ 45 s).1):=by
 obtain ⟨t,neg,hdp⟩:∃ t b,aZ 45 s=(t,b):=⟨_,_,rfl⟩;unfold tD;rw [hdp];simp only [bL,Mu,Mt,ne_eq,ep,Bool.and_eq_false_imp,Lg,LU,Lc];constructor
 ·rintro ⟨⟨h1,h2⟩,h3⟩;have hc:rO t:=⟨h1,h2,fun h=>by
   have:=(h3 h).2;have:0<t.length:=K6.2 h2;omega⟩
  refine ⟨hc,fun hn=>?_⟩;rcases LV (aX t) with h | h
  ·have:=(h3 ((tE hc).2 h)).1;rw [hn] at this;cases this
  ·exact h
 ·rintro ⟨hc,h⟩;refine ⟨⟨hc.1,hc.2.1⟩,fun h0=>?_⟩;have h1:=(tE hc).1 h0;have h2:=hc.2.2 h0;refine ⟨?_,by omega⟩;cases hn:neg with
  | false=>rfl
  | true=>have:=h hn;omega
theorem s8 (s:Str):s=if (aZ 45 s).2 then 45::(aZ 45 s).1 else (aZ 45 s).1:=by
 unfold aZ;split
 ·rename_i h;cases s with
  | nil=>cases h
  | cons b s =>
   have hb:b=45:=by simpa using h
   subst hb;rfl
 ·rfl
theorem Dg {s:Str}(h:tD s=true):s=txt (gE s):=by
 obtain ⟨h1,h2⟩:=tC.1 h;unfold gE;rw [vJ _ _ h2,<- l7 h1];exact s8 s
def mE (zn:Int):Option Str->Bool
 | none=>true
 | some b=>decide (1<gE b) && !(zn == 0) && (Nat.gcd zn.natAbs (gE b).natAbs == 1)
def cQ (s:Str):Bool:=bI (dL 47 s).1 && bI ((dL 47 s).2.getD [49]) && mE (gE (dL 47 s).1) (dL 47 s).2
theorem tp (s:Str):aZ 45 (dL 47 s).1=((dL 47 (aZ 45 s).1).1,(aZ 45 s).2)/\(dL 47 s).2=(dL 47 (aZ 45 s).1).2:=by
 cases s with
 | nil=>exact ⟨rfl,rfl⟩
 | cons b s =>
  by_cases hb:b=45
  ·subst hb;have e:aZ 45 (45::s)=(s,true):=rfl;have e2:dL 47 (45::s)=(45::(dL 47 s).1,(dL 47 s).2):=rfl;rw [e,e2];exact ⟨rfl,rfl⟩
  ·have e:aZ 45 (b::s)=(b::s,false):=by unfold aZ;rw [a7 (by simp [hb])]
   rw [e];refine ⟨?_,Z⟩;unfold aZ;rw [a7];unfold dL;split
   ·simp
   ·simp [hb]
theorem fJ {s:Str}:bI s=true ↔ okD (aZ 45 s).1=true/\((aZ 45 s).2=true->0<aX (aZ 45 s).1):=by
 unfold bI;rw [bL,tC,fZ,cH];constructor
 ·rintro ⟨⟨h1,h2⟩,h3⟩;exact ⟨⟨h1,h3⟩,h2⟩
 ·rintro ⟨⟨h1,h3⟩,h2⟩;exact ⟨⟨h1,h2⟩,h3⟩
theorem qD {s:Str}(h:okD s=true):aZ 45 s=(s,false):=by
 unfold aZ;rw [a7];intro h0;have h1:=(fZ.1 h).1.1 45 (List.mem_of_mem_head? h0);revert h1;decide
theorem CM {b:Str}:bI b=true/\1<gE b ↔ okD b=true/\1<aX b:=by
 constructor
 ·rintro ⟨h1,h2⟩;obtain ⟨h3,_⟩:=fJ.1 h1;have hn:(aZ 45 b).2=false:=by
   cases hn:(aZ 45 b).2 with
   | false=>rfl
   | true=>unfold gE sgZ at h2;rw [hn,bW rfl] at h2;omega
  have hb:(aZ 45 b).1=b:=by have:=s8 b;rw [hn] at this;exact this.symm
  unfold gE sgZ at h2;rw [hn,hb] at h2;rw [hb] at h3;refine ⟨h3, ?_⟩;have h4:(1:Int)<(aX b:Nat):=by simpa using h2
  omega
 ·rintro ⟨h1,h2⟩;have hd:=qD h1;refine ⟨fJ.2 (by rw [hd];exact ⟨h1,fun h=>by cases h⟩), ?_⟩;unfold gE sgZ;rw [hd];show (1:Int)<(aX b:Nat);omega
theorem lW (s:Str):(gE s).natAbs=aX (aZ 45 s).1:=by
 unfold gE sgZ;split <;> omega
theorem Ew (s:Str):cQ s=(cL s).isSome:=by
 obtain ⟨hd,he⟩:=tp s;rw [Mq];unfold cQ cL;rw [bL,bL,he];have hr1:bI (dL 47 s).1=true ↔ (okD (dL 47 (aZ 45 s).1).1 && !((aZ 45 s).2 && aX (dL 47 (aZ 45 s).1).1 == 0))=true:=by
  rw [fJ,hd];cases (aZ 45 s).2 <;> simp <;> omega
 rw [hr1];have hz:(gE (dL 47 s).1).natAbs=aX (dL 47 (aZ 45 s).1).1:=by rw [lW,hd]
 by_cases h0:(okD (dL 47 (aZ 45 s).1).1 && !((aZ 45 s).2 && aX (dL 47 (aZ 45 s).1).1 == 0))=true
 ·rw [bW h0];cases hb:(dL 47 (aZ 45 s).1).2 with
  | none =>
   refine ⟨fun _=>rfl,fun _=>⟨⟨h0, ?_⟩,Z⟩⟩;show bI [49]=true;decide
  | some b =>
   unfold mE;show (_/\bI b=true)/\_ ↔ _;have hgd:(gE (dL 47 s).1 == 0)=(aX (dL 47 (aZ 45 s).1).1 == 0):=by
    rw [Mq,Lg,Lg];omega
   simp only [hz,hgd,bL,cH];constructor
   ·rintro ⟨⟨_,h1⟩,⟨h2,h3⟩,h4⟩;obtain ⟨h5,h6⟩:=CM.1 ⟨h1,h2⟩;have hbz:(gE b).natAbs=aX b:=by rw [lW,qD h5]
    rw [hbz] at h4;rw [bW ⟨⟨⟨h5,h6⟩,h3⟩,h4⟩];rfl
   ·intro h;split at h
    ·rename_i h1;obtain ⟨⟨⟨h5,h6⟩,h3⟩,h4⟩:=h1;obtain ⟨h7,h8⟩:=CM.2 ⟨h5,h6⟩;have hbz:(gE b).natAbs=aX b:=by rw [lW,qD h5]
     rw [hbz];exact ⟨⟨OK.1 h0,h7⟩,⟨h8,h3⟩,h4⟩
    ·cases h
 ·rw [a7 h0];constructor
  ·rintro ⟨⟨h,_⟩,_⟩;exact absurd h h0
  ·intro h;cases h
theorem AS {s:Str}{n:Nat}(h:s.length<=n):(dL 47 s).1.length<=n/\((dL 47 s).2.getD [49]).length<=n+1:=by
 rcases iG 47 s with ⟨h1,_⟩ | ⟨pre,post,h1,h2,_⟩
 ·rw [h1];exact ⟨h,by simp⟩
 ·have e:=congrArg List.length h2;rw [eh,fh] at e;rw [h1];simp only [NG];omega
theorem one_val:([49]:Str)=txt 1:=by
 unfold txt;rw [a7 om_,show aT (1:Int).natAbs=aT 1 from rfl,aT];rfl
theorem pn (n:Nat):((⟨(aT n).toArray⟩:ByteArray).data.toList == (⟨#[49]⟩:ByteArray).data.toList)=(n == 1):=by
 show (aT n == [49])=_;rw [HO,Mq,cH,Lg];constructor
 ·intro h;have h2:=(aV n).2;rw [h] at h2;exact h2.symm
 ·rintro rfl;rw [aT];rfl

theorem Bh (C:Mem)(s:Str)(hd:∀ c∈s,dE c=true)(h0:s≠[])(hl:s.length<=18):Gives cx.P 303 [aA s,.int .i64 10,.int .i64 64] C (.tuple #[.int .u64 (aX s),.nilIface]):=by
 refine Fn.it kr_ Tryz.func303 26 fun w0=>?_;refine G.z3 2 0 1 2 ?_;refine G.rp 3 fun R hR=>?_;refine D.aj (Bg Tryz.parseU s hd h0 hl _ kr_) U7 fl_ ?_;refine D.q5 5 0 1 2 8 9 hR ?_;refine G.rp 1 fun R hR=>?_;refine D.pO false Z Z Z Z Z (.inr ⟨Z,Z⟩) kr_ Z Z ?_;refine D.e6 0 1 2 8 9 18 hR ?_;refine G.cd (fun h18=>?_) fun h18=>?_
 ·cases h18
 ·refine G.z2 3 6 7 ?_;refine G.aB (G.dropAll (G.a8 U3 ?_));exact ⟨Z,Z⟩
theorem xY (C:Mem)(i:Nat)(h:i<100):Gives cx.P 290 [.int .i64 i] C (aA (aT i)):=by
 have h1:=Gives.ofCalls (f:=290) (args:=[.int .i64 i]) (P:=cx.P) kr_ (fun w=>Any.internal_strconv_small Tryz.small10 i h w) C;rw [dv] at h1;exact h1
theorem wz (u:Nat):Lib.nDigits u=(aT u).length:=by rw [<- dv,Lib.decDigits_length]
theorem yH (C:Mem)(hT:Tabs C)(u:Nat)(hu:u<9223372036854775808):Gives cx.P 326 [.int .u64 u,.int .i64 10] C (aA (aT u)):=by
 refine Fn.it kr_ Tryz.func326 32 fun w0=>?_;refine G.z2 1 0 1 ?_;refine G.z3 2 0 1 10 ?_;refine G.cd (fun h10=>?_) fun h10=>?_
 ·refine G.z2 2 0 12 ?_;refine G.cd (fun h12=>?_) fun h12=>?_
  ·have h12':u<100:=by
    have:(u:Int)<100:=by simpa using h12
    omega
   refine G.rp 1 fun R hR=>?_;refine D.bT (c:=(u:Int)) U8 (by rw [IntKind.wrap_i64];omega) fl_ ?_;refine D.ag (xY _ u h12') ?_;refine D.q1 1 4 hR ?_;refine G.rf ?_;exact ⟨Z,Z⟩
  ·have h12':100<=u:=by
    have:¬ (u:Int)<100:=by simpa using h12
    omega
   have hnd:Lib.nDigits u<=19:=by
    rw [wz];exact dt om_ om_
   refine G.rg fun R hR=>?_;refine D.ai (fun b5=>?_);refine D.e2 0 5 hR ?_;refine G.rp 1 fun R hR=>?_;refine D.aj (sI Tryz.nDig u om_ om_ _ hT.pow.m_ kr_) U7 fl_ ?_;refine D.q3 1 0 5 6 hR ?_;refine G.aY [(3,3)] Z (fun R hR=>?_);refine D.ac ?_;refine D.j4 0 (Lib.nDigits u) 24 U12 (fun _=>⟨.inl ⟨Z,Z⟩,.inr ⟨_,Z⟩,.inl ⟨Z,Z⟩,by omega,by omega,by decide⟩) U2 ?_;refine D.ac ?_;refine D.call (uK Tryz.fmt10 b5 24 u 387 (List.replicate 24 (Value.int .u8 0)) om_ (fun j hj=>(by rw [NJ,bW om_])) om_ _ kr_) Z (.inr dc_) U6 (il _) fl_ (fun v21 _ L21 _ hq21=>?_);refine D.e2 5 6 hR ?_;obtain ⟨_,rfl,cs,rfl,hcl,hcx⟩:=hq21;refine G.freeze 0 Z (fun C7 _ hb7=>?_);have hds:(aT u).length=Lib.nDigits u:=(wz u).symm;have hsl:Sl C7 1 (.slice (some ⟨b5,0,none⟩) ((aT u).map fun b=>[Value.int .u8 b.toNat]).length 24) ((aT u).map fun b=>[Value.int .u8 b.toNat]) :=
    Sl.ofBlock hb7 (by intro r hr;obtain ⟨y,_,rfl⟩:=j5.1 hr;rfl) (fun j v hj=>by
     rw [fw,bX] at hj;cases hx:(aT u)[j]? with
     | none=>rw [hx] at hj;cases hj
     | some x=>rw [hx] at hj;cases hj;simpa using hcx j x hx) (by simp;omega) (by simp [maxLen])
   rw [aH,hds] at hsl;refine G.rp 1 fun R hR=>?_;refine D.j4 0 (Lib.nDigits u) 24 U12 (fun _=>⟨.inl ⟨Z,Z⟩,.inr ⟨_,Z⟩,.inl ⟨Z,Z⟩,by omega,by omega,by decide⟩) U2 ?_;refine D.Im hsl.m_ Z Z Z Z Z Z Z Z Z Z Z fl_ ?_;refine D.q1 1 4 hR ?_;refine G.rf ?_;exact ⟨Z,Z⟩
 ·exact absurd h10 dc_
theorem yI (C:Mem)(hT:Tabs C)(u:Nat)(hu:u<9223372036854775808):Gives cx.P 307 [.int .u64 u,.int .i64 10] C (aA (aT u)):=by
 refine Fn.it kr_ Tryz.func307 8 fun w0=>?_;refine G.z2 1 0 1 ?_;refine G.rp 2 fun R hR=>?_;refine D.ag (yH _ hT.m_ u hu) ?_;refine D.q1 1 4 hR ?_;refine G.rf ?_;exact ⟨Z,Z⟩

theorem iv (C:Mem)(z:Int)(m:Nat)(hm:m<=18):Gives cx.P 267 [aA (txt z),.int .i64 m] C (.tuple #[.int .i64 (if (txt z).length<=m then z else 0),.bool (decide ((txt z).length<=m))]):=by
 refine Fn.it kr_ Tryz.func267 20 fun w0=>?_;refine G.z2 2 0 1 ?_;refine G.z2 4 0 11 ?_;refine G.cd (fun h11=>?_) fun h11=>?_
 ·have h11':¬ (txt z).length<=m:=by
   have:(m:Int)<((txt z).length:Int):=by simpa using h11
   omega
  refine G.z2 2 4 5 ?_;refine G.aB (G.dropAll (G.a8 U3 ?_));exact ⟨by rw [a7 h11',K3 h11'],Z⟩
 ·have h11':(txt z).length<=m:=by
   have:¬ (m:Int)<((txt z).length:Int):=by simpa using h11
   omega
  refine G.rp 1 fun R hR=>?_;refine D.aj (u8 Tryz.atoi z om_ _ kr_) U7 fl_ ?_;refine D.q2 5 6 7 hR ?_;refine G.aG [0,1,2,3,4] [] Z kr_ (fun R hB hR=>?_);refine D.ps 2 ?_;refine D.pO true Z Z Z Z Z (.inl ⟨Z,Z⟩) kr_ Z Z ?_;refine D.q2 2 4 5 hR ?_;refine G.aB (G.dropAll (G.a8 U3 ?_));exact ⟨by rw [bW h11',j9 h11'],Z⟩
theorem hZ (C:Mem)(z:Int)(hl:(aT z.natAbs).length<=1000000):Pur cx.P 268 [aA (txt z)] C fun u D=>∃ p,u=.agg ⟨[.bool (decide (z<0)),p]⟩/\NineC D p z.natAbs:=by
 obtain ⟨S,hS⟩:∃ S,aT z.natAbs=S:=⟨_,rfl⟩;have hcan:=(aV z.natAbs).1;have hdv:=(aV z.natAbs).2;rw [hS] at hl hcan hdv;refine Fn.it kr_ Tryz.func268 44 fun w0=>?_;refine G.rg fun R hR=>?_;refine D.ai (fun b2=>?_);refine D.e2 0 2 hR ?_;refine G.rp 1 fun R hR=>?_;refine D.ag (uS _ (txt z) 45) ?_;rw [cN,hS];refine D.q3 5 2 3 4 hR ?_;refine G.rp 2 fun R hR=>?_;refine D.iZ (S.length) (9) U6 om_ (.inl ⟨Z,by omega⟩) U2 ?_;refine D.cf (((S.length / 9+1:Nat):Int)) U4 om_ om_ om_ U2 ?_;refine D.bK U9 (ch _) (by show 8*(S.length / 9+1)<=281474976710656;omega) (by simp only [maxLen];omega) fl_ (fun b18=>?_);refine D.q4 1 2 3 4 5 hR ?_;rw [show (aA S:Value)=aA (S.take S.length) by rw [cK]];refine G.loop (fun fr C' L' μ=>∃ (q j:Nat)(out:List Nat)(w:Value),(q<=S.length/\(q=0∨q+9*j=S.length)/\out.length=j/\j<=S.length/\(q=0∨j<S.length)/\Dig9 out/\bc out=aX (S.drop q))/\fr=[(2,[],.pointer (some ⟨b2,0,none⟩)),(3,[],aA (S.take q)),(4,[],.bool (decide (z<0))),(5,[],w)]/\L'=[.arr w 284 1 j (out.map bU).flatten,.obj b2 (.cells ⟨[.bool false,.slice none 0 0]⟩ 369 (0,0))]/\μ=q+1) (h_4 2 3 4 5) ⟨S.length,0,[],_,⟨aP _,by omega,Z,ch _,by have:=K6.2 hcan.2.1;omega,(fun x hx=>(by cases hx)),by rw [LI];rfl⟩,Z,Z,Z⟩ (fun fr C0' L0' m _ hI=>?_);obtain ⟨q,j,out,w,⟨hel,hej,hol,hjl,hj2,hod,hov⟩,rfl,rfl,rfl⟩:=hI;refine G.z5 3 2 3 4 5 21 ?_;refine G.cd (fun h21=>?_) fun h21=>?_
 ·have htl:(⟨(S.take q).toArray⟩:ByteArray).data.toList.length=q:=by
   show (S.take q).length=q;rw [eB];omega
  have htl2:(S.take q).length=q:=htl;have hq0:0<q:=by
   have h:(0:Int)<(((⟨(S.take q).toArray⟩:ByteArray).data.toList.length:Nat):Int):=by simpa using h21
   omega
  have hcutl:(fR S (q-9) q).length<=9/\0<(fR S (q-9) q).length:=by
   unfold fR;rw [Ni,eB];omega
  have hcutd:∀ c∈fR S (q-9) q,dE c=true:=fun c hc=>hcan.1 c (LT (NX hc));refine G.rp 2 fun R hR=>?_;refine D.cf (((q:Int)-9)) U4 om_ om_ om_ U2 ?_;refine D.max (((q-9:Nat):Int)) U6 om_ U2 ?_;refine D.q5 1 2 3 4 5 6 hR ?_;refine G.rp 2 fun R hR=>?_;refine D.bF (q-9) (S.take q).length U9 (fun _=>⟨.inr ⟨_,Z⟩,.inl ⟨Z,Z⟩,.inl ⟨Z,Z⟩,by omega,aP _,aP _⟩) U2 ?_;rw [show (((S.take q).take (S.take q).length).drop (q-9))=fR S (q-9) q from by rw [cK];rfl];refine D.aj (Bh _ (fR S (q-9) q) hcutd (K6.1 hcutl.2) om_) U7 fl_ ?_;refine D.q6 5 2 3 4 5 6 7 hR ?_;refine G.aG [0,1,4,5,6,2,3,7,8] [] Z kr_ (fun R hB hR=>?_);refine D.ps 4 ?_;refine D.bF 0 (q-9) U9 (fun _=>⟨.inl ⟨Z,Z⟩,.inr ⟨_,Z⟩,.inl ⟨Z,Z⟩,by omega,by omega,aP _⟩) U2 ?_;refine D.ah [bU (aX (fR S (q-9) q))] (fun p35 _ _ hs35=>?_);refine D.append (j:=0) U11 hs35 Z (by simp only [bz,maxLen];omega) (by show (j+1)*8<=_;omega) fl_ (fun v36=>?_);refine D.q4 2 2 3 4 5 hR ?_;rw [show ((S.take q).take (q-9)).drop 0=S.take (q-9) from by rw [LR,NR,Lt om_]];refine G.be (L':=[.arr v36 284 1 (j+1) ((out++[aX (fR S (q-9) q)]).map bU).flatten,.obj b2 (.cells ⟨[.bool false,.slice none 0 0]⟩ 369 (0,0))]) (by simp [bU]) ?_;refine G.ax (m':=q-9+1) om_ mup (h_4 2 3 4 5) ⟨q-9,j+1,out++[aX (fR S (q-9) q)],v36,⟨by omega,by omega,by simp [hol],by omega,by omega,hod.snoc (Fk hcan.1 om_),xU om_ hol om_ hov⟩,Z,Z,Z⟩
 ·have hq0:q=0:=by
   have htl2:(S.take q).length=q:=by rw [eB];omega
   have h:¬ (0:Int)<(((S.take q).length:Nat):Int):=by simpa using h21
   omega
  subst hq0;rw [LR,hdv] at hov;refine G.aY [(2,3)] Z (fun R hR=>?_);refine D.ps 2 ?_;refine D.call (fH _ _ out (n:=j) hol) Z (.inr dc_) U6 (il _) fl_ (fun v42 _ L42 _ hq42=>?_);obtain ⟨rfl,hu⟩:=hq42;obtain ⟨Au,cu,rfl,_⟩:=id hu;refine D.ap [.bool (decide (z<0)),_] ?_;refine D.ae (j:=0) ?_;refine D.e1 2 hR ?_;refine G.aB (G.aR (.head _) U4 ?_);exact ⟨Z,_,Z,zA out,gk hod,by rw [gj,hov],hu⟩

theorem yV (k:Nat)(s:Str):aX (List.replicate k 48++s)=aX s:=by
 induction k with
 | zero=>rfl
 | succ k ih=>rw [NH,LM,de,ih];simp
theorem He {x:Nat}(h:x<1000000000):j8 9 x=List.replicate (9-(aT x).length) 48++aT x:=by
 obtain ⟨h1,h2,h3⟩:=jf 9 x h;obtain ⟨h4,h5⟩:=aV x;have hl:(aT x).length<=9:=dt om_ om_;refine uR h2 (fun c hc=>?_) (by rw [h1];simp;omega) (by rw [h3,yV,h5]);rcases Lh.1 hc with hc | hc
 ·rw [LH hc];rfl
 ·exact h4.1 c hc
def FJ (l:List Nat)(j:Nat)(s:Str):Prop:=(j=0/\s=[])∨(0<j/\rO s/\aX s=bc (l.drop (l.length-j))/\0<aX s)
theorem yx {l:List Nat}{j:Nat}{s:Str}(hc:tU l)(hj:j<l.length)(h:FJ l j s):FJ l (j+1) (s++if j=0 then aT (g9 l (l.length-1-j)) else j8 9 (g9 l (l.length-1-j))):=by
 have hx:l[l.length-1-j]?=some (g9 l (l.length-1-j)):=sZ om_;refine .inr ⟨by omega, ?_⟩;rw [show l.length-(j+1)=l.length-1-j by omega];rcases h with ⟨rfl,rfl⟩ | ⟨h0,h1,h2,h3⟩
 ·rw [bW rfl,MS];obtain ⟨h4,h5⟩:=aV (g9 l (l.length-1-0));have h6:bc (l.drop (l.length-1-0))=g9 l (l.length-1-0):=by
   rw [K2 om_,show l.length-1-0+1=l.length by omega,LI];rw [aq om_] at hx;rw [LJ hx];show _+B9*0=_;omega
  refine ⟨h4,by rw [h5,h6], ?_⟩;rw [h5];rcases LV (g9 l (l.length-1-0)) with h | h
  ·rw [h] at hx;exact absurd (by rw [MF];exact hx) hc.2
  ·exact h
 ·rw [a7 om_];rw [show l.length-j=l.length-1-j+1 by omega] at h2;exact yF hc.1 hx h1 h2 h3
theorem iH (C:Mem)(hT:Tabs C)(m:Bool)(v:Value)(n:Nat)(hv:NineC C v n)(hn:n<B9 ^ 100000):Gives cx.P 270 [.agg ⟨[.bool m,v]⟩] C (aA (txt (sgZ m n))):=by
 obtain ⟨ls,hc,hln,hll,hs⟩:=hv.get hn;obtain ⟨A,c,rfl,_⟩:=id hs;simp only [aH] at hs ⊢;refine Fn.introM kr_ Tryz.func270 Z 34 Z Z (fun w0=>?_);refine G.rg fun R hR=>?_;refine D.aD (fun b1=>?_);refine D.q1 1 1 hR ?_;refine G.freeze 0 Z (fun _ _ hb1=>?_);refine G.rp 1 fun R hR=>?_;refine D.aa (PtrTo.block (Mem.get hb1 mup) _) ?_;refine D.q2 2 1 10 hR ?_;refine G.cd (fun h10=>?_) fun h10=>?_
 ·have hl0:ls=[]:=by
   have:(ls.length:Int)=0:=by simpa using h10
   exact LL om_
  refine G.z1 1 2 ?_;refine G.aB (G.xI (F9 Z Z) ?_ Ff);subst hl0;refine ⟨?_,Z⟩;rw [<- hln,(vI (sgZ m (bc []))).2 (by cases m <;> rfl)];rfl
 ·have hl0:0<ls.length:=by
   have:¬ (ls.length:Int)=0:=by simpa using h10
   omega
  obtain ⟨pre,hpre⟩:∃ pre:Str,(if m then [45] else [])=pre:=⟨_,rfl⟩;have hprl:pre.length<=1:=by rw [<- hpre];split <;> simp
  refine G.rg fun R hR=>?_;refine D.ai (fun b3=>?_);refine D.e2 1 3 hR ?_;refine G.nilArr 5 1 ?_;refine G.perm (L':=[.obj b3 (.cells ⟨[.pointer none,.slice none 0 0]⟩ 402 (0,0)),.arr (.slice none 0 0) 5 1 0 []]) (List.Perm.swap _ _ _) ?_;refine G.rp 1 fun R hR=>?_;refine D.aa (PtrTo.block (Mem.get hb1 mup) _) ?_;refine D.e3 1 3 12 hR ?_;refine G.cut (fun fr C' L' μ=>∃ (q:Option Addr)(w:Value),(q=none∨q=some ⟨b3,0,none⟩)/\fr=[(1,[],.pointer (some ⟨b1,0,none⟩)),(3,[],.pointer (some ⟨b3,0,none⟩))]/\L'=[.obj b3 (.cells ⟨[.pointer q,w]⟩ 402 (0,0)),.arr w 5 1 pre.length (u8s pre)]) ?_ (fun fr _ L12 μ _ hI=>?_)
  ·refine G.cd (fun h12=>?_) fun h12=>?_
   ·rw [bW h12] at hpre;subst hpre;refine G.aY [(0,3)] Z (fun R hR=>?_);refine D.call (rQ _ b3 none (.slice none 0 0) [] 45 (.inl Z) (by simp)) Z (.inr dc_) U6 (il _) fl_ (fun v13 _ L13 _ hq13=>?_);refine D.e2 1 3 hR ?_;obtain ⟨w1,rfl⟩:=hq13;refine G.aK 0 mup (h_2 1 3) ⟨some ⟨b3,0,none⟩,w1,.inr Z,Z,Z⟩
   ·rw [a7 (by rw [h12];decide)] at hpre;subst hpre;refine G.aK 0 mup (h_2 1 3) ⟨none,.slice none 0 0,.inl Z,Z,Z⟩
  ·obtain ⟨q ,w,hq,rfl,rfl⟩:=hI;refine G.rp 1 fun R hR=>?_;refine D.aa (PtrTo.block (Mem.get hb1 mup) _) ?_;refine D.az (xj _ A ls.length c) (fun v16 _ _ hq16=>?_);refine D.e3 1 3 16 hR ?_;obtain ⟨bb,rfl,hbb⟩:=hq16;refine G.be (L':=[.obj b3 (.cells ⟨[.pointer q,w]⟩ 402 (0,0)),.arr w 5 1 (pre++[]).length (u8s (pre++[]))]) (by rw [LY]) ?_;refine G.rangeFunc Z Z Z kr_ (pB _ bb _ _ ls hbb hs.m_ om_) (fun j L'=>∃ (q:Option Addr)(w:Value)(s:Str),((q=none∨q=some ⟨b3,0,none⟩)/\FJ ls j s/\s.length<=9*j)/\L'=[.obj b3 (.cells ⟨[.pointer q,w]⟩ 402 (0,0)),.arr w 5 1 (pre++s).length (u8s (pre++s))]) ⟨q,w,[],⟨hq,.inl ⟨Z,Z⟩,by simp⟩,Z⟩ Z (fun _ _=>rfl) (fun u v=>[(1,[],.pointer (some ⟨b1,0,none⟩)),(3,[],.pointer (some ⟨b3,0,none⟩)),(4,[],u),(5,[],v)]) (fun l u v W1 L'=>?_) (fun l j u v L' W1 hI hj=>?_) (fun bD L' hI=>?_)
   ·refine G.z4 1 1 3 4 18 ?_;refine G.z4 1 1 3 4 5 ?_;exact G.nV ⟨Z,Z,Z,Z,trivial⟩
   ·obtain ⟨q,w,s,⟨hq2,hlt,hsl⟩,rfl⟩:=hI;have hjl:j<ls.length:=by have:=(aJ.1 hj).1;rwa [ff] at this
    rw [rB hjl] at hj;cases hj
    have hst:=yx hc hjl hlt;obtain ⟨x,hx⟩:∃ x,g9 ls (ls.length-1-j)=x:=⟨_,rfl⟩;have hx9:x<B9:=by rw [<- hx];exact jp hc.1 _
    rw [show ls.getD (ls.length-1-j) 0=x from hx];rw [hx] at hst;have hxl:(aT x).length<=9:=dt (by rw [B9v] at hx9;omega) om_;have hp9:=He (x:=x) (by rw [B9v] at hx9;exact hx9);have hpl:(j8 9 x).length=9:=(jf 9 x (by rw [B9v] at hx9;omega)).1;refine G.rp 1 fun R hR=>?_;refine D.aj (yI _ hT.m_ x (by rw [B9v] at hx9;omega)) U7 fl_ ?_;refine D.q4 1 1 3 4 6 hR ?_;refine G.rp 2 fun R hR=>?_;refine D.aa (PtrTo.block (Mem.get hb1 mup) _) ?_;refine D.ac ?_;refine D.ar _ ?_;refine D.q3 1 3 6 26 hR ?_;refine G.cut (fun fr C' L' μ=>∃ (q3:Option Addr)(w3:Value)(t:Str),((q3=none∨q3=some ⟨b3,0,none⟩)/\t++aT x=pre++(s++if j=0 then aT x else j8 9 x)/\t.length<=9*j+10)/\fr=[(3,[],.pointer (some ⟨b3,0,none⟩)),(6,[],aA (aT x))]/\L'=[.obj b3 (.cells ⟨[.pointer q3,w3]⟩ 402 (0,0)),.arr w3 5 1 t.length (u8s t)]) ?_ (fun fr _ L26 μ _ hI=>?_)
    ·refine G.cd (fun h26=>?_) fun h26=>?_
     ·have hj0:0<j:=by
       have:((ls.length-1-j:Nat):Int)<(ls.length:Int)-1:=by simpa using h26
       omega
      refine G.aY [(3,3)] Z (fun R hR=>?_);refine D.ps 2 ?_;refine D.bF (aT x).length 9 U9 (fun _=>⟨.inr ⟨_,Z⟩,.inl ⟨Z,Z⟩,.inl ⟨Z,Z⟩,by omega,aP _,aP _⟩) U2 ?_;rw [show ((([48,48,48,48,48,48,48,48,48]:Str).take 9).drop (aT x).length)=List.replicate (9-(aT x).length) 48 from by rw [show (([48,48,48,48,48,48,48,48,48]:Str).take 9)=List.replicate 9 48 from rfl,List.drop_replicate]];refine D.call (iP _ b3 q w (pre++s) (List.replicate (9-(aT x).length) 48) hq2 (by simp;omega)) Z (.inr dc_) U6 (il _) fl_ (fun v30 _ L30 _ hq30=>?_);refine D.e2 3 6 hR ?_;obtain ⟨w1,rfl⟩:=hq30;refine G.aK 0 mup (h_2 3 6) ⟨some ⟨b3,0,none⟩,w1,_,⟨.inr Z,by rw [a7 om_,hp9];simp [LN],by simp;omega⟩,Z,Z⟩
     ·have hj0:j=0:=by
       have:¬ ((ls.length-1-j:Nat):Int)<(ls.length:Int)-1:=by simpa using h26
       omega
      refine G.aK 0 mup (h_2 3 6) ⟨q,w,pre++s,⟨hq2,by rw [bW hj0,LN],by simp;omega⟩,Z,Z⟩
    ·obtain ⟨q3 ,w3 ,t,⟨hq3,htt,htl⟩,rfl,rfl⟩:=hI;refine G.aY [(1,3)] Z (fun R hR=>?_);refine D.ac ?_;refine D.call (iP _ b3 q3 w3 t (aT x) hq3 om_) Z (.inr dc_) U6 (il _) fl_ (fun v32 _ L32 _ hq32=>?_);refine D.bA [] trivial (hR _ _ _ Z ?_);obtain ⟨w4,rfl⟩:=hq32;rw [htt];exact G.kZ (R:=fun L'=>∃ (q:Option Addr)(w:Value)(s:Str),((q=none∨q=some ⟨b3,0,none⟩)/\FJ ls (j+1) s/\s.length<=9*(j+1))/\L'=[.obj b3 (.cells ⟨[.pointer q,w]⟩ 402 (0,0)),.arr w 5 1 (pre++s).length (u8s (pre++s))]) (il _) ⟨some ⟨b3,0,none⟩,w4,_,⟨.inr Z,hst,by rw [eh];split <;> omega⟩,Z⟩
   ·obtain ⟨q,w,s,⟨hq2,hlt,hsl⟩,rfl⟩:=hI;rw [ff] at hlt;obtain ⟨hlt1,hlt2,hlt3,hlt4⟩:0<ls.length/\rO s/\aX s=bc (ls.drop (ls.length-ls.length))/\0<aX s:=hlt.elim (fun h=>by omega) id;rw [OL,LR,hln] at hlt3;refine G.perm (L':=[.obj b3 (.cells ⟨[.pointer q,w]⟩ 402 (0,0)),.arr w 5 1 (pre++s).length (u8s (pre++s)),.obj bD (.deferred (some []))]) (pkL [1,1,0] Z) ?_;refine G.aY [(0,3)] Z (fun R hR=>?_);refine D.call (y8 _ b3 q w (pre++s) (fun h=>hlt2.2.1 (On.1 h).2) (by simp;rw [ff] at hsl;omega)) Z (.inr dc_) U6 (il _) fl_ (fun v33 _ L33 _ hq33=>?_);refine D.q1 1 2 hR ?_;obtain ⟨rfl,rfl⟩:=hq33;refine G.aB (G.GI (F9 Z Z) ?_);refine ⟨?_,Z⟩;have es:s=aT n:=by rw [<- hlt3];exact l7 hlt2
    rw [vJ m n (fun _=>by omega),es,<- hpre];cases m <;> rfl

theorem pj {t Q x:Nat}(hQ:0<Q):(x+B9*t) / Q=B9*(t / Q)+(x+B9*(t % Q)) / Q/\(x+B9*t) % Q=(x+B9*(t % Q)) % Q:=by
 have h:x+B9*t=(x+B9*(t % Q))+Q*(B9*(t / Q)):=by
  have h1:=Nw t Q;have h2:B9*t=B9*(t % Q)+B9*(Q*(t / Q)):=by rw [<- FX,h1]
  rw [h2,M8];omega
 rw [h,NC _ _ hQ,Nat.add_mul_mod_self_left];exact ⟨by omega,Z⟩
theorem jV {t Q x:Nat}(hQ:0<Q)(hx:x<B9):(x+B9*(t % Q)) / Q<B9:=by
 rw [Mn hQ];have h1:=K9 t hQ;have h2:B9*(t % Q+1)<=B9*Q:=Ln _ h1;rw [FX] at h2;omega
theorem eL {l:List Nat}{j:Nat}(h:j<l.length):bc (l.drop j)=g9 l j+B9*bc (l.drop (j+1)):=by
 rw [K2 h,bc,uJ (aq h)]
theorem jv {l:List Nat}{j x:Nat}(h:j<l.length):bc ((l.set j x).drop j)=x+B9*bc (l.drop (j+1)):=by
 rw [K2 (by simpa using h),bc,List.getElem_set_self,List.drop_set_of_lt om_]
theorem pi (C:Mem)(va vb:Value)(m d:Nat)(ha:NineC C va m)(hm:m<B9 ^ 200000)(hb:Sl C 1 vb ([d].map bU))(hd0:0<d)(hd:d<B9) :
  Pur cx.P 272 [va,vb] C fun u D=>∃ q r,u=.tuple #[q,r]/\NineC D q (m / d)/\NineC D r (m % d):=by
 have hbn:NineC C vb d:=⟨[d],⟨fun x hx=>(by rw [K5.1 hx];exact hd),by simp;omega⟩,by show d+B9*0=d;omega,hb⟩;have ha0:=ha;obtain ⟨a,hca,hav,hal,hsa⟩:=ha.get hm;obtain ⟨A0,c0,rfl,_⟩:=id hsa;obtain ⟨B0,d0,rfl,hbd⟩:=id hb;simp only [aH,bz] at hb hbn hsa ha0 ⊢;have hB:=B9v;refine Fn.introM kr_ Tryz.func272 Z 146 Z Z (fun w0=>?_);refine G.rg fun R hR=>?_;refine D.aD (fun b3=>?_);refine D.ai (fun b4=>?_);refine D.q4 1 0 3 4 5 hR ?_;clear hR R;refine G.freeze 1 Z (fun _ _ hb3=>?_);refine G.rp 1 fun R hR=>?_;refine D.aa (PtrTo.block (Mem.get hb3 mup) _) ?_;refine D.ag (mO _ ha0.m_ hbn.m_) ?_;refine D.q5 1 0 3 4 5 17 hR ?_;clear hR R;refine G.cd (fun h17=>?_) fun h17=>?_
 ·have hlt:m<d:=by
   have:iw m d<0:=by simpa using h17
   exact g8.1 this
  refine G.rp 1 fun R hR=>?_;refine D.ae (j:=0) ?_;refine D.q2 1 4 5 hR ?_;clear hR R;refine G.aB (G.xI (vY (.head _) Z Z Z Z Z) ?_ Ff);refine ⟨Z,_,_,Z, ?_, ?_⟩
  ·rw [Mr hlt];exact NineC.zero _
  ·rw [Mw hlt];exact ha0.mono mup
 ·have hlt:d<=m:=by
   have h:¬ iw m d<0:=by simpa using h17
   rw [g8] at h;omega
  obtain ⟨n,hn⟩:∃ n,a.length=n:=⟨_,rfl⟩;refine G.rg fun R hR=>?_;refine D.aa (PtrTo.block (Mem.get hb3 mup) _) ?_;refine D.q5 2 0 3 4 5 21 hR ?_;clear hR R;refine G.cd (fun h21=>?_) fun h21=>?_
  ·refine G.rp 2 fun R hR=>?_;refine D.bK U9 (aP _) (by show 8*a.length<=281474976710656;omega) (by simp only [maxLen];omega) fl_ (fun b24=>?_);refine D.ae (j:=1) ?_;refine D.e3 0 3 4 hR ?_;clear hR R;refine G.rg fun R hR=>?_;refine D.ai (fun b6=>?_);refine D.ae (j:=0) ?_;refine D.e4 0 3 4 6 hR ?_;clear hR R;refine G.rp 1 fun R hR=>?_;refine D.az (xj _ A0 a.length c0) (fun v26 _ _ hq26=>?_);refine D.e4 3 4 6 26 hR ?_;clear hR R;obtain ⟨bb,rfl,hbb⟩:=hq26;refine G.be (L':=[.obj b6 (.cells ⟨[.int .u64 ((bc (a.drop (a.length-0)) % d:Nat):Int)]⟩ 284 (0,0)),.obj b4 (.cells ⟨[qU b24 a.length a.length]⟩ 367 (0,0)),.arr (qU b24 a.length a.length) 284 1 a.length ((List.replicate a.length 0).map bU).flatten]) (by rw [<- zC,N7,LI,show bc []=0 from Z,Nat.zero_mod];rfl) ?_;refine G.rangeFunc Z Z Z kr_ (pB _ bb _ _ a hbb hsa.m_ om_) (fun j L'=>∃ (qs:List Nat),(qs.length=a.length/\Dig9 qs/\bc (qs.drop (a.length-j))=bc (a.drop (a.length-j)) / d)/\L'=[.obj b6 (.cells ⟨[.int .u64 ((bc (a.drop (a.length-j)) % d:Nat):Int)]⟩ 284 (0,0)),.obj b4 (.cells ⟨[qU b24 a.length a.length]⟩ 367 (0,0)),.arr (qU b24 a.length a.length) 284 1 a.length (qs.map bU).flatten]) ⟨List.replicate a.length 0,⟨LW,(fun x hx=>by rw [LH hx];decide),by rw [N7,LI,No (by simp)];simp [bc]⟩,Z⟩ Z (fun _ _=>rfl) (fun u v=>[(3,[],.pointer (some ⟨b3,0,none⟩)),(4,[],.pointer (some ⟨b4,0,none⟩)),(6,[],.pointer (some ⟨b6,0,none⟩)),(7,[],u),(8,[],v)]) (fun l u v W1 L'=>?_) (fun l j u v L' W1 hI hj=>?_) (fun bD L' hI=>?_)
   ·refine G.z5 1 3 4 6 7 28 ?_;refine G.z5 1 3 4 6 7 8 ?_;exact G.nV ⟨Z,Z,Z,Z,Z,trivial⟩
   ·obtain ⟨qs,⟨hql,hqd,hqv⟩,rfl⟩:=hI;have hjl:j<a.length:=by have:=(aJ.1 hj).1;rwa [ff] at this
    rw [rB hjl] at hj;cases hj
    obtain ⟨i,hi⟩:∃ i,a.length-1-j=i:=⟨_,rfl⟩;have hi1:a.length-j=i+1:=by omega
    obtain ⟨T,hT⟩:∃ T,bc (a.drop (i+1))=T:=⟨_,rfl⟩;have hx9:=jp hca.1 i;have hrd:=K9 T hd0;have hX:T % d*B9+g9 a i<18446744073709551616:=by
     have:=Lm B9 (show T % d<=999999999 by omega);rw [hB] at this ⊢;omega
    rw [hi,hi1,hT,show a.getD i 0=g9 a i from rfl];rw [hi1,hT] at hqv;have hxx:T % d*B9+g9 a i=g9 a i+B9*(T % d):=by rw [K8,M4]
    have hdp:=pj (t:=T) (x:=g9 a i) hd0;have hdl:=jV (t:=T) hd0 hx9;rw [<- hxx] at hdp hdl;refine G.rg fun R hR=>?_;refine D.af (.head _) ?_;refine D.int (((T % d*B9:Nat):Int)) U4 (by rw [show (1000000000:Int)=((B9:Nat):Int) from Z,<- La,IntKind.wrap_u64];omega) U2 ?_;refine D.ac ?_;refine D.int (((T % d*B9+g9 a i:Nat):Int)) U4 (by rw [IntKind.wrap_u64];omega) U2 ?_;refine D.ae (j:=0) ?_;refine D.e4 3 4 6 7 hR ?_;clear hR R;refine G.cut (fun fr C' L' μ=>(True)/\fr=[]/\L'=[.obj b6 (.cells ⟨[.int .u64 (((T % d*B9+g9 a i) % d:Nat):Int)]⟩ 284 (0,0)),.arr (qU b24 a.length a.length) 284 1 a.length (aM (qs.map bU).flatten [Value.int .u64 (((T % d*B9+g9 a i) / d:Nat):Int)] (i*1)),.obj b4 (.cells ⟨[qU b24 a.length a.length]⟩ 367 (0,0))]) ?_ (fun fr Cr10 Lr10 μ hler10 hI=>?_)
    ·refine G.gt (.cut [0,1,2,3,4,5,6,8,9,10,12] (.alt 7 (.fin [11,13,14]) (.alt 13 (.fin [7,11,14]) .stop))) [] Z Z kr_ (fun R hB hR hH=>?_);refine D.af (.tail _ (.head _)) ?_;refine D.ac ?_;refine D.af (.head _) ?_;refine D.aa (PtrTo.block (Mem.get hb3 mup) _) ?_;refine D.ak hb.m_ U10 om_ (rfl:([d].map bU)[(0:Int).toNat]?=some (bU d)) fl_ (fun p37 hp37=>?_);refine D.aa hp37 ?_;refine D.iZ (T % d*B9+g9 a i) (d) U6 om_ (.inr ⟨Z,by omega⟩) U2 ?_;refine D.aa (PtrTo.block (Mem.get hb3 mup) _) ?_;refine D.ak hb.m_ U10 om_ (rfl:([d].map bU)[(0:Int).toNat]?=some (bU d)) fl_ (fun p42 hp42=>?_);refine D.aa hp42 ?_;refine D.bu (i*1) U10 (fun _=>⟨by omega,by omega,Z⟩) U2 ?_;refine D.eu hH Z ⟨?_, ?_,trivial⟩
     ·first | refine D.nW (.head _) U9 ?_ | refine D.nW (.tail _ (.head _)) U9 ?_
      refine D.dV (T % d*B9+g9 a i) (d) U6 om_ U2 ?_;refine D.bE (j:=2) U11 (by show i*1+1<=_;rw [cX dT,hql];omega) ?_;refine D.ae (j:=1) ?_;refine D.bA [] trivial (hR _ _ _ Z ?_);clear hR hB hH R;exact G.aK 0 (Mem.le.refl _) (fr':=[]) trivial ⟨trivial,Z,Z⟩
     ·refine D.bE (j:=2) U11 (by show i*1+1<=_;rw [cX dT,hql];omega) ?_
      first | refine D.nW (.head _) U9 ?_ | refine D.nW (.tail _ (.head _)) U9 ?_
      refine D.dV (T % d*B9+g9 a i) (d) U6 om_ U2 ?_;refine D.ae (j:=1) ?_;refine D.bA [] trivial (hR _ _ _ Z ?_);clear hR hB hH R;exact G.aK 0 (Mem.le.refl _) (fr':=[]) trivial ⟨trivial,Z,Z⟩
    obtain ⟨_,rfl,rfl⟩:=hI;refine G.perm (L':=[.obj b6 (.cells ⟨[.int .u64 (((T % d*B9+g9 a i) % d:Nat):Int)]⟩ 284 (0,0)),.obj b4 (.cells ⟨[qU b24 a.length a.length]⟩ 367 (0,0)),.arr (qU b24 a.length a.length) 284 1 a.length (aM (qs.map bU).flatten [Value.int .u64 (((T % d*B9+g9 a i) / d:Nat):Int)] (i*1))]) (pkL [0,1,0] Z) ?_;have hdr:bc (a.drop i)=g9 a i+B9*T:=by rw [eL om_,hT]
    have hmod:bc (a.drop (a.length-(j+1))) % d=(T % d*B9+g9 a i) % d:=by rw [show a.length-(j+1)=i by omega,hdr,hdp.2]
    refine G.be (L':=[.obj b6 (.cells ⟨[.int .u64 ((bc (a.drop (a.length-(j+1))) % d:Nat):Int)]⟩ 284 (0,0)),.obj b4 (.cells ⟨[qU b24 a.length a.length]⟩ 367 (0,0)),.arr (qU b24 a.length a.length) 284 1 a.length ((qs.set i ((T % d*B9+g9 a i) / d)).map bU).flatten]) (by rw [hmod,<- bV dT _ (by omega:i<qs.length)];rfl) ?_;exact G.kZ (R:=fun L'=>∃ (qs:List Nat),(qs.length=a.length/\Dig9 qs/\bc (qs.drop (a.length-(j+1)))=bc (a.drop (a.length-(j+1))) / d)/\L'=[.obj b6 (.cells ⟨[.int .u64 ((bc (a.drop (a.length-(j+1))) % d:Nat):Int)]⟩ 284 (0,0)),.obj b4 (.cells ⟨[qU b24 a.length a.length]⟩ 367 (0,0)),.arr (qU b24 a.length a.length) 284 1 a.length (qs.map bU).flatten]) (il _) ⟨qs.set i ((T % d*B9+g9 a i) / d),⟨by simp [hql],hqd.set hdl,by rw [show a.length-(j+1)=i by omega,hdr,jv om_,hqv,hdp.1];omega⟩,Z⟩
   ·obtain ⟨qs,⟨hql,hqd,hqv⟩,rfl⟩:=hI;rw [ff,OL,LR,LR,hav] at hqv;rw [ff,OL,LR,hav];refine G.freezeArr 3 (qs.map bU) U2 (by intro r hr;obtain ⟨y,_,rfl⟩:=j5.1 hr;rfl) (by rw [aH,hql]) (fun Cq hleq hsq=>?_);refine G.cut (fun fr C' L' μ=>∃ (v47 v50:Value),(NineC C' v47 (m / d)/\NineC C' v50 (m % d))/\fr=[(4,[],.pointer (some ⟨b4,0,none⟩)),(5,[],v50)]/\L'=[.obj b4 (.cells ⟨[v47]⟩ 367 (0,0)),.obj bD (.deferred (some [])),.obj b6 (.cells ⟨[.int .u64 ((m % d:Nat):Int)]⟩ 284 (0,0))]) ?_ (fun fr Cr11 Lr11 μ hler11 hI=>?_)
    ·refine G.gt (.cut [0,2] (.alt 1 (.fin [3,4,5,6]) (.alt 3 (.fin [1,4,5,6]) .stop))) [] Z Z kr_ (fun R hB hR hH=>?_);refine D.af (.tail _ (.tail _ (.head _))) ?_;refine D.af (.tail _ (.head _)) ?_;refine D.eu hH Z ⟨?_, ?_,trivial⟩
     ·refine D.az (r3 _ hqd hsq.m_) (fun v47 C47 _ hq47=>?_);refine D.ah [bU (m % d)] (fun p49 C49 _ hs49=>?_);refine D.au (r3 _ (l:=[m % d]) (fun x hx=>by rw [K5.1 hx];have:=K9 m hd0;omega) hs49.m_) U7 fl_ (fun v50 C50 _ hq50=>?_);obtain ⟨A7,m7,c7,rfl⟩:=hq47.form;refine D.ae (j:=2) ?_;refine D.ac ?_;refine D.e2 4 5 hR ?_;clear hR hB hH R;rw [show bc [m % d]=m % d from (by show m % d+B9*0=m % d;omega)] at hq50;rw [hqv] at hq47;exact G.aK 0 mup (h_2 4 5) ⟨_,v50,⟨hq47.mono mup,hq50.mono mup⟩,Z,Z⟩
     ·refine D.ah [bU (m % d)] (fun p49 C49 _ hs49=>?_);refine D.az (r3 _ hqd hsq.m_) (fun v47 C47 _ hq47=>?_);refine D.au (r3 _ (l:=[m % d]) (fun x hx=>by rw [K5.1 hx];have:=K9 m hd0;omega) hs49.m_) U7 fl_ (fun v50 C50 _ hq50=>?_);obtain ⟨A7,m7,c7,rfl⟩:=hq47.form;refine D.ae (j:=2) ?_;refine D.ac ?_;refine D.e2 4 5 hR ?_;clear hR hB hH R;rw [show bc [m % d]=m % d from (by show m % d+B9*0=m % d;omega)] at hq50;rw [hqv] at hq47;exact G.aK 0 mup (h_2 4 5) ⟨_,v50,⟨hq47.mono mup,hq50.mono mup⟩,Z,Z⟩
    obtain ⟨v47,v50,⟨hw1,hw2⟩,rfl,rfl⟩:=hI;refine G.perm (L':=[.obj bD (.deferred (some [])),.obj b4 (.cells ⟨[v47]⟩ 367 (0,0)),.obj b6 (.cells ⟨[.int .u64 ((m % d:Nat):Int)]⟩ 284 (0,0))]) (pkL [1,0,0] Z) ?_;obtain ⟨A7,m7,c7,rfl⟩:=hw1.form;refine G.aB (G.GI (vY (.head _) Z Z Z Z Z) ?_);exact ⟨Z,_,_,Z,hw1,hw2⟩
  ·exact absurd h21 dc_
end Go.Proofs.YtgfiffppookakaaGreatDoor
