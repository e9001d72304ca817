import Derived.Test.YtfjcldheldflbaaGreatDoorG7
import Derived.Test.YtfjcldheldflbaaGreatDoorProg
set_option maxHeartbeats 4000000
namespace Go.Proofs.YtfjcldheldflbaaGreatDoor
open Go.Proofs.Tryz
open Go Go.Jog
set_option maxRecDepth 100000
variable {C:Mem}{cyc:List Nat}{i k n:Nat}{q:Rat}{s:Str}
theorem kL {m:Nat}(h:n<B9 ^ m)(a:m<=88):n<BP ^ 200:=by
 rw[PU];rw[pow9]at h;exact Tk h (SJ (n:=10) (i:=9*m) (j:=800) dc_ om_)
theorem Bu (C:Mem)(s:Str)(b:9<s.length):Gives cx.P 107 [ae s] C (.tuple #[i_ 0,i_ 0,.bool false]):=by
 refine V7 func107 57 U3 λw0=>U0 3 [0,2] U<|U0 3 [0,2,9] U<|G.cd (λa=>?_) λa=>?_
 .refine U0 3 [2,3,4] U<|Wd (G.dropAll (WP U4 ?_));exact⟨U,U⟩
 exfalso;have h:¬ (9:Int)<((s.length:Nat):Int):=Si a;omega
theorem pB (C:Mem)(q:Rat):Gives cx.P 107 [ae (qtx q)] C (.tuple #[i_ (if (qtx q).length<=9 then q.num else 0),i_ (if (qtx q).length<=9 then ((q.den:Nat):Int) else 0),.bool (decide ((qtx q).length<=9))]):=by
 by_cases h:(qtx q).length<=9
 .rw[aK h,aK h,SB h];have h2:=FF C (decide (q.num<0)) (bh q.num.natAbs) (mS q.den) (iO _) (nW _) (DL _) h;unfold No at h2;rw[(bA _).2,mR]at h2;have e:sgZ (decide (q.num<0)) q.num.natAbs=q.num:=by
   unfold sgZ;by_cases h:q.num<0
   .rw[SB h,aK rfl];omega
   rw[SM h,aF dc_];omega
  rw[e]at h2;exact h2
 rw[aF h,aF h,SM h];exact Bu C _ om_
theorem oT (h:(qtx q).length<=9):q.num.natAbs<1000000000/\q.den<1000000000:=by
 refine lB ?_;unfold DF Nb;unfold qtx at h;rw[So,So]at h;have h2:((mS q.den).getD []).length<=(dw (mS q.den)).length:=by
  cases mS q.den with
 |none=>exact Sg _
 |some b=>simp[dw]
 rw[SB om_,SB om_];rfl
theorem pd (C:Mem)(q:Rat)(a:(qtx q).length<1000000):Gives cx.P 109 [ae (qtx q)] C (.tuple #[ae (txt q.num),ae (txt ((q.den:Nat):Int))]):=by
 have h:=ye C (qtx q) a
 rwa [mV,Bb,<- df]at h
theorem uO (C:Mem)(f:Tabs C)(a b:Rat)(k:Nat)(l:0<k)(u:k<=40)(d:QB k a)(e:QB k b):Gives cx.P 49 [ae (qtx a),ae (qtx b)] C (ae (qtx (a+b))):=by
 have v:=aV d l;have w:=aV e l;have p:=fb a;have q:=fb b;have m:0<a.den*b.den:=UB p q;refine V7 func49 61 U3 λw0=>U0 1 [0,1] U<|U1 1 U λR c=>Wb (pB _ a) U7<|C6 7 [0,1,5,6,7] c U<|U0 1 [0,1,5,6,21] U<|G.cut (λfr x r s=>(True)/\fr=[(0,[],ae (qtx a)),(1,[],ae (qtx b))]/\r=[]) ?_ (λfr _ y s _ t=>?_)
 .refine G.cd (λn=>?_) λn=>?_
  .have g:=RD n;rw[aK g,aK g];have h:=oT g;refine U1 1 U λR c=>Wb (pB _ b) U7<|C6 7 [0,1,5,6,8,9,10] c U<|U0 1 [0,1,5,6,8,9,28] U<|G.cd (λo=>?_) λo=>?_
   .have i:=RD o;rw[aK i,aK i];have j:=oT i;have z:=kg h.1 j.2;have A:=kg j.1 h.2;have B:=ml h.2 j.2;exact U1 2 U λR c=>V8 _ U U6<|V4 2 U<|V8 _ U U6<|V8 _ U U6<|V4 2 U<|V8 (((a.den*b.den:Nat):Int)) (SK _ _).symm U6<|Wc (tD _ f.m_ _ _ m om_ om_) U7 fl_<|C6 1 [4] c U<|V6 U2<|⟨by rw[eZ],U⟩
   refine Wj 0 l_ (hn_ [0,1] U) ⟨trivial,U,U⟩
  refine Wj 0 l_ (hn_ [0,1] U) ⟨trivial,U,U⟩
 obtain⟨_,rfl,rfl⟩:=t;exact U1 1 U λR c=>Wc (pd _ a om_) U7 fl_<|C6 5 [1,11,12] c U<|U1 1 U λR c=>Wc (pd _ b om_) U7 fl_<|C6 5 [11,12,13,14] c U<|U1 2 U λR c=>Wc (ga _ f.m_ _ _ (kL d.1 om_) (kL (jH e) om_)) U7 fl_<|V4 2 U<|Wc (ga _ f.m_ _ _ (kL e.1 om_) (kL (jH d) om_)) U7 fl_<|Wc (ug _ f.m_ _ _ (kL (cP d.1 (jH e)) om_) (kL (cP e.1 (jH d)) om_)) U7 fl_<|V4 2 U<|Wc (ga _ f.m_ _ _ (kL (jH d) om_) (kL (jH e) om_)) U7 fl_<|Wc (ly _ f.m_ _ _ (kL (Te (UI _ _) (uB (cP d.1 (jH e)) (cP e.1 (jH d)))) om_) (kL (cP (jH d) (jH e)) om_) (by rw[<- SK];omega)) U7 fl_<|C6 1 [4] c U<|V6 U2<|⟨by rw[eZ,<- SK,pk m],U⟩
theorem KB (C:Mem)(f:Tabs C)(a b:Rat)(k:Nat)(i:0<k)(u:k<=40)(d:QB k a)(e:QB k b):Gives cx.P 153 [ae (qtx a),ae (qtx b)] C (ae (qtx (a*b))):=by
 have v:=aV d i;have w:=aV e i;have p:=fb a;have q:=fb b;have j:0<a.den*b.den:=UB p q;refine V7 func153 53 U3 λw0=>U0 1 [0,1] U<|U1 1 U λR c=>Wb (pB _ a) U7<|C6 7 [0,1,5,6,7] c U<|U0 1 [0,1,5,6,21] U<|G.cut (λfr x r s=>(True)/\fr=[(0,[],ae (qtx a)),(1,[],ae (qtx b))]/\r=[]) ?_ (λfr _ y s _ t=>?_)
 .refine G.cd (λl=>?_) λl=>?_
  .have g:=RD l;rw[aK g,aK g];have m:=oT g;refine U1 1 U λR c=>Wb (pB _ b) U7<|C6 7 [0,1,5,6,8,9,10] c U<|U0 1 [0,1,5,6,8,9,28] U<|G.cd (λn=>?_) λn=>?_
   .have h:=RD n;rw[aK h,aK h];have o:=oT h;have z:=CW m.1 o.1;have A:=ml m.2 o.2;exact U1 2 U λR c=>V8 _ U U6<|V4 2 U<|V8 (((a.den*b.den:Nat):Int)) (SK _ _).symm U6<|Wc (tD _ f.m_ _ _ j om_ om_) U7 fl_<|C6 1 [4] c U<|V6 U2<|⟨by rw[eY],U⟩
   refine Wj 0 l_ (hn_ [0,1] U) ⟨trivial,U,U⟩
  refine Wj 0 l_ (hn_ [0,1] U) ⟨trivial,U,U⟩
 obtain⟨_,rfl,rfl⟩:=t;exact U1 1 U λR c=>Wc (pd _ a om_) U7 fl_<|C6 5 [1,11,12] c U<|U1 1 U λR c=>Wc (pd _ b om_) U7 fl_<|C6 5 [11,12,13,14] c U<|U1 2 U λR c=>Wc (ga _ f.m_ _ _ (kL d.1 om_) (kL e.1 om_)) U7 fl_<|V4 2 U<|Wc (ga _ f.m_ _ _ (kL (jH d) om_) (kL (jH e) om_)) U7 fl_<|Wc (ly _ f.m_ _ _ (kL (cP d.1 e.1) om_) (kL (cP (jH d) (jH e)) om_) (by rw[<- SK];omega)) U7 fl_<|C6 1 [4] c U<|V6 U2<|⟨by rw[eY,<- SK,pk j],U⟩
theorem CI (C:Mem)(e:Tabs C)(a b:Rat)(k:Nat)(c:0<k)(f:k<=40)(g:QB k a)(d:QB k b):Gives cx.P 84 [ae (qtx a),ae (qtx b)] C (ae (qtx (a-b))):=by
 have i:=aV d c;exact V7 func84 9 U3 λw0=>U0 1 [0,1] U<|U1 2 U λR h=>Wc (Aj _ b om_) U7 fl_<|Wb (uO _ e.m_ a (-b) k c f g (eO d)) U7<|C6 1 [4] h U<|V6 U2<|⟨by rw[Vv],U⟩
theorem uQ (q:Rat):q.num<0 ↔ q<0:=by
 rw[Rat.lt_iff];simp
theorem NX (a b:Rat):er (a-b).num=nZ a b:=by
 have h1:(a-b).num<0 ↔ a<b:=by rw[uQ];grind
 have h2:(a-b).num=0 ↔ a=b:=by rw[Va];grind
 unfold er nZ;by_cases h:a<b
 .rw[aK (h1.2 h),aK h]
 rw[aF (λe=>h (h1.1 e)),aF h];by_cases h3:a=b
 .rw[aK (h2.2 h3),aF (by rw[h3];exact Rat.lt_irrefl)]
 rw[aF (λe=>h3 (h2.1 e)),aK (by grind)]
theorem xJ (C:Mem)(e:Tabs C)(a b:Rat)(k:Nat)(f:0<k)(g:k<=40)(c:QB k a)(d:QB k b):Gives cx.P 29 [ae (qtx a),ae (qtx b)] C (i_ (nZ a b)):=by
 exact V7 func29 9 U3 λw0=>U0 1 [0,1] U<|U1 2 U λR h=>Wb (CI _ e.m_ a b k f g c d) U7<|Wc (CC _ (a-b) (by have:=aV (kU c d) om_;omega)) U7 fl_<|C6 1 [4] h U<|V6 U2<|⟨by rw[NX],U⟩
theorem xH {z:Int}(h:(bh z.natAbs).length<=200):bT (txt z)=true:=by
 refine nG.2 ?_;rw[dM];refine⟨uY.2 ⟨(bA _).1,h⟩,λa=>?_⟩;have h1:=RD a;show 0<bS (bh z.natAbs);rw[(bA _).2];omega
theorem DM (z:Int):gn (txt z)=z:=by
 unfold gn;rw[dM];show sgZ (decide (z<0)) (bS (bh z.natAbs))=z;rw[(bA _).2];unfold sgZ;by_cases h:z<0
 .rw[SB h,aK rfl];omega
 rw[SM h,aF dc_];omega
theorem bx (h:QB 22 q):aS (qtx q)=true:=by
 have h1:(bh q.num.natAbs).length<=200:=by have:=cm h.1 dc_;omega
 have h2:(bh q.den).length<=200:=by have:=cm h.2 dc_;omega
 unfold aS;rw[mV];show(bT (txt q.num) && bT ((mS q.den).getD [49]) && ma (gn (txt q.num)) (mS q.den))=true;rw[Bb,DM,xH h1,<- df,xH (by rw[S4];exact h2),Vp,Vp];by_cases hd:q.den=1
 .rw[kv hd];rfl
 rw[fk hd];unfold ma;show(decide (1<gn (bh q.den)) && !(q.num == 0) && (Nat.gcd q.num.natAbs (gn (bh q.den)).natAbs == 1))=true;have a:gn (bh q.den)=((q.den:Nat):Int):=by rw[<- df,DM]
 have hp:=fb q;rw[a,SB om_,S4,show Nat.gcd q.num.natAbs q.den=1 from q.reduced];have b:q.num≠0:=by
  intro e;have h3:=q.reduced;rw[e]at h3;have h4:Nat.gcd 0 q.den=1:=h3;rw[Nat.gcd_zero_left]at h4;exact hd h4
 simp[b]
theorem yX (h:QB 22 q):oc (aS (qtx q))=0:=by rw[bx h];rfl
abbrev Pt:=Rat × Rat
def gK (p:Pt):List Value:=[ae (qtx p.1),ae (qtx p.2)]
def ptV (p:Pt):Value:=.agg ⟨gK p⟩
def QP (k:Nat)(p:Pt):Prop:=QB k p.1/\QB k p.2
def dO (a b c:Pt):Rat:=(b.1-a.1)*(c.2-a.2)-(b.2-a.2)*(c.1-a.1)
theorem eN (b:Bool):oc b=0/\b=true∨oc b=2/\b=false:=by cases b <;> simp[oc]
def dC (s:Str):List Value:=[ae s]
theorem tx (C:Mem)(h:Tabs C)(v:Value)(l:List Str)(c:Sl C 1 v (l.map dC))(j:∀s∈l,s.length<=999998):Gives cx.P 132 [v] C (i_ (oc (l.all aS))):=by
 obtain⟨k,c0,rfl,n,w,_⟩:=id c;have x:=mx_
 simp only[au]at c n⊢;refine V7 func132 18 U3 λw0=>U0 1 [0] U<|U0 3 [6,7,8] U<|G.loop (λfr y o p=>∃(i:Nat),(i<=l.length/\(l.take i).all aS=true)/\fr=[(6,[],.slice k l.length c0),(7,[],i_ l.length),(8,[],i_ i)]/\o=[]/\p=l.length-i) (hn_ [6,7,8] U) ⟨0,⟨Sm _,by simp⟩,U,U,U⟩ (λfr z A m q r=>?_);obtain⟨i,⟨B,d⟩,rfl,rfl,rfl⟩:=r;refine U0 1 [6,7,8,9] U<|G.cd (λe=>?_) λe=>?_
 .have f:i<l.length:=by simpa using e
  obtain⟨s,hs⟩:∃s,l[i]?=some s:=⟨l[i],ah f⟩;refine V3 λR a=>Wf c.m_ U10 om_ (by rw[Sh,hs];rfl:(l.map dC)[i]?=some (dC s)) fl_ λD t=>V1 t U8<|C6 1 [4,6,7,8] a U<|U1 1 U λR a=>Wb (dB _ h.m_ s (j s (aJ hs))) U7<|C6 1 [5,6,7,8] a U<|U0 2 [5,6,7,8,15] U<|G.cd (λb=>?_) λb=>?_
  .have g:aS s=false:=by
    rcases eN (aS s) with⟨h1,h2⟩|⟨h1,h2⟩
    .rw[h1]at b;exact absurd b dc_
    exact h2
   refine U0 2 [2] U<|V6 U2<|⟨?_,U⟩;rw[g,show l.all aS=false from UJ.2 ⟨s,aJ hs,by rw[g];decide⟩]
  have u:aS s=true:=by
   rcases eN (aS s) with⟨h1,h2⟩|⟨h1,h2⟩
   .exact h2
   rw[h1]at b;exact absurd b dc_
  refine V3 λR a=>V8 _ U U6<|C6 1 [6,7,8] a U<|We (m':=l.length-(i+1)) om_ q (hn_ [6,7,8] U) ⟨i+1,⟨by omega,by rw[SH,hs,VU,d];simp[u]⟩,U,U,U⟩
 have f:i=l.length:=by
  have:¬ i<l.length:=by simpa using e
  omega
 refine U0 1 [2] U<|V6 U2<|⟨?_,U⟩;rw[f,Ss]at d;rw[d];rfl
theorem Qi {t:Str}(a:s.length<=n)(b:t.length<=n):∀x∈[s,t],x.length<=n:=by simp[a,b]
theorem J6 {t u:Str}(a:s.length<=n)(b:t.length<=n)(c:u.length<=n):∀x∈[s,t,u],x.length<=n:=by simp[a,b,c]
theorem iU (C:Mem)(b:Tabs C)(s t:Str)(c:s.length<=999998)(d:t.length<=999998):Gives cx.P 66 [.agg ⟨[ae s,ae t]⟩] C (i_ (oc (aS s && aS t))):=by
 refine V7 func66 9 U3 λw0=>V3 λR a=>Wi U6 λf=>C6 1 [1] a U<|U1 1 U λR a=>V9 ag U9<|V2 U6<|V9 ag U9<|Wq [dC s,dC t] U12 λg _ _ e=>Wb (tx _ b.m_ _ [s,t] e.m_ (Qi c d)) U7<|C6 1 [2] a U<|V6 U2<|⟨?_,U⟩;simp
theorem sI (C:Mem)(b:Tabs C)(s t u:Str)(c:s.length<=999998)(d:t.length<=999998)(e:u.length<=999998):Gives cx.P 319 [.agg ⟨[ae s,ae t,ae u]⟩] C (i_ (oc (aS s && aS t && aS u))):=by
 refine V7 func319 11 U3 λw0=>V3 λR a=>Wi U6 λg=>C6 1 [1] a U<|U1 1 U λR a=>V9 ag U9<|V2 U6<|V9 ag U9<|V2 U6<|V9 ag U9<|Wq [dC s,dC t,dC u] U12 λh _ _ f=>Wb (tx _ b.m_ _ [s,t,u] f.m_ (J6 c d e)) U7<|C6 1 [2] a U<|V6 U2<|⟨?_,U⟩;simp[Bool.and_assoc]
theorem lH (C:Mem)(e:Tabs C)(a b c:Pt)(k:Nat)(g:0<k)(l:k<=1000)(d:QP k a)(h:QP k b)(i:QP k c):Gives cx.P 71 [ptV a,ptV b,ptV c] C (ae (qtx (dO a b c))):=by
 have h1:=kU h.1 d.1;have h2:=kU i.2 d.2;have h3:=kU h.2 d.2;have h4:=kU i.1 d.1;exact V7 func71 32 U3 λw0=>V3 λR f=>Wi U6 λm=>Wi U6 λn=>Wi U6 λo=>C6 1 [3,4,5] f U<|Wn [0,1,2,3,4,5,6,7,8,9,10,11] [(4,1),(9,1),(10,1)] U kr_ λR j f=>V2 U6<|V9 af U9<|V2 U6<|V9 ac U9<|Wo (λ_=>(dY _ e.m_ b.1 a.1 k g om_ h.1 d.1)) U9<|V2 U6<|V9 ag U9<|V2 U6<|V9 ac U9<|Wo (λ_=>(dY _ e.m_ c.2 a.2 k g om_ i.2 d.2)) U9<|Wo (λ_=>(cX _ e.m_ (b.1-a.1) (c.2-a.2) (k+k+1) om_ om_ h1 h2)) U9<|C6 1 [3,4,5,7] f U<|Wn [0,1,2,3,4,5,6,7,8,9,10,11,12,13] [(5,1),(10,1),(11,1),(12,1)] U kr_ λR j f=>V4 2 U<|V9 af U9<|V2 U6<|V9 ac U9<|Wo (λ_=>(dY _ e.m_ b.2 a.2 k g om_ h.2 d.2)) U9<|V2 U6<|V9 ag U9<|V2 U6<|V9 ac U9<|Wo (λ_=>(dY _ e.m_ c.1 a.1 k g om_ i.1 d.1)) U9<|Wo (λ_=>(cX _ e.m_ (b.2-a.2) (c.1-a.1) (k+k+1) om_ om_ h3 h4)) U9<|Wo (λ_=>(dY _ e.m_ ((b.1-a.1)*(c.2-a.2)) ((b.2-a.2)*(c.1-a.1)) (k+k+1+(k+k+1)) om_ om_ (sa h1 h2) (sa h3 h4))) U9<|C6 1 [6] f U<|V6 U2<|⟨U,U⟩
theorem BD {a b c:Pt}(d:QP k a)(e:QP k b)(f:QP k c):QB (8*k+5) (dO a b c):=by
 have h:=kU (sa (kU e.1 d.1) (kU f.2 d.2)) (sa (kU e.2 d.2) (kU f.1 d.1));exact h.le om_
theorem pQ (C:Mem)(h:Tabs C)(a b c:Pt)(k:Nat)(i:0<k)(j:k<=1000)(e:QP k a)(f:QP k b)(g:QP k c):Gives cx.P 129 [ptV a,ptV b,ptV c] C (i_ (er (dO a b c).num)):=by
 exact V7 func129 12 U3 λw0=>V3 λR d=>Wi U6 λl=>Wi U6 λm=>Wi U6 λn=>C6 1 [3,4,5] d U<|V3 λR d=>V9 ac U9<|V9 af U9<|V9 ag U9<|Wb (lH _ h.m_ a b c k i j e f g) U7<|Wc (fD _ (dO a b c) (by have:=aV (BD e f g) om_;omega)) U7 fl_<|C6 1 [6] d U<|V6 U2<|⟨U,U⟩
theorem uI (C:Mem)(c:Tabs C)(q:Rat)(b:QB 22 q):Gives cx.P 72 [ae (qtx q)] C (.tuple #[ae (qtx q),i_ 0]):=by
 refine V7 func72 8 U3 λw0=>U0 2 [0] U<|U1 1 U λR d=>Wc (dB _ c.m_ _ (by have:=aV b dc_;omega)) U7 fl_<|C6 1 [0,6] d U<|G.cd (λa=>?_) λa=>?_
 .exfalso;rw[yX b]at a;exact absurd a dc_
 refine U0 3 [2,3] U<|Wd (G.dropAll (Wu U3 ?_));exact⟨U,U⟩
abbrev Tri:=Nat × Nat × Nat
def jG (t:Tri):List Value:=[.int .i64 (t.1:Nat),.int .i64 (t.2.1:Nat),.int .i64 (t.2.2:Nat)]
def Pu (a b c:Pt):Value:=.agg ⟨gK a++gK b++gK c⟩
theorem Fz (C:Mem)(k l:Value)(d:List Pt)(g:List Tri)(i:Nat)(t:Tri)(a b c:Pt)(e:Sl C 2 k (d.map gK))(h:Sl C 3 l (g.map jG))(m:g[i]?=some t)(n:d[t.1]?=some a)(o:d[t.2.1]?=some b)(p:d[t.2.2]?=some c) :
  Gives cx.P 68 [.agg ⟨[k,l]⟩,i_ i] C (Pu a b c):=by
 obtain⟨x,y,rfl,q,z,_⟩:=id e;obtain⟨A2,c2,rfl,r,A,_⟩:=id h;have B:=mx_
 simp only[au]at e h q r⊢;have D:=(aT.1 m).1;have E:=(aT.1 n).1;have F:=(aT.1 o).1;have G:=(aT.1 p).1;refine V7 func68 30 U3 λw0=>V3 λR f=>Wi U6 λH=>Wg U5 λI=>V5 [1,2,4] f U<|U1 1 U λR f=>V9 af U9<|V2 U6<|Wf h.m_ U10 om_ (by rw[Sh,m];rfl:(g.map jG)[i]?=some (jG t)) fl_ λJ s=>V1 s U8<|Wg U5 λK=>Wa (j:=0) U12<|V5 [2,4,5] f U<|Wn [0,1,2,3,4,5,6,7,8,9,10,11,12,13,14,15,16,17,18,19] [] U kr_ λR L f=>V2 U6<|V9 ac U9<|Wp (0) U9 k_ U2<|V9 ag U9<|Wf e.m_ U10 om_ (by rw[Sh,n];rfl:(d.map gK)[t.1]?=some (gK a)) fl_ λM u=>V1 u U8<|V2 U6<|V9 ac U9<|Wp (1) U9 k_ U2<|V9 ag U9<|Wf e.m_ U10 om_ (by rw[Sh,o];rfl:(d.map gK)[t.2.1]?=some (gK b)) fl_ λN v=>V1 v U8<|V2 U6<|V9 ac U9<|Wp (2) U9 k_ U2<|V9 ag U9<|Wf e.m_ U10 om_ (by rw[Sh,p];rfl:(d.map gK)[t.2.2]?=some (gK c)) fl_ λO w=>V1 w U8<|Wm (gK a++gK b++gK c) U8<|Wa (j:=1) U12<|V5 [4] f U<|Wd (WO ag U4 ?_);exact⟨U,U⟩
theorem Ik (C:Mem)(d:Tabs C)(a b c p:Pt)(k:Nat)(e:0<k)(f:k<=1000)(j:QP k a)(l:QP k b)(m:QP k c)(g:QP k p) :
  Gives cx.P 67 [Pu a b c,ptV p] C (.bool (decide (0<=dO a b p) && decide (0<=dO b c p) && decide (0<=dO c a p))):=by
 refine V7 func67 30 U3 λw0=>V3 λR i=>Wi U6 λn=>Wi U6 λo=>C6 1 [2,3] i U<|V3 λR i=>Wp (0) U9 k_ U2<|V9 af U9<|Wp (2) U9 k_ U2<|V9 af U9<|V9 ag U9<|Wb (pQ _ d.m_ a b p k e f j l g) U7<|V4 2 U<|Wp (2) U9 k_ U2<|V9 af U9<|Wp (4) U9 k_ U2<|V9 af U9<|V9 ag U9<|WC (λ_=>(pQ _ d.m_ b c p k e f l m g)) U9<|V2 U6<|Wr U8<|V2 U6<|Wp (4) U9 k_ U2<|V9 af U9<|Wp (0) U9 k_ U2<|V9 af U9<|V9 ag U9<|WC (λ_=>(pQ _ d.m_ c a p k e f m j g)) U9<|V2 U6<|Wr U8<|C6 1 [4] i U<|V6 U2<|⟨?_,U⟩;have hs:∀q:Rat,decide (er q.num ≥ 0)=decide (0<=q):=λq=>by
  rw[S8,<- Rat.num_nonneg];rcases eD q.num with h|h|h <;> omega
 rw[<- hs,<- hs,<- hs]
open Go Go.Jog Go.RowKit Go.Shelf
attribute [local go_sem] Oper.semAt_some
def NV (zs:Nat->Int)(k:Nat):Value:=.agg #[.int .i64 (zs k),.int .i64 (zs ((k+1) % 3))]
set_option maxRecDepth 100000 in
theorem Km (l Bs:Nat)(zs:Nat->Int)(J:Nat->World->Prop)
  (hD:∀k W,J k W->J k W.drew)
  (hJ:∀k W,J k W->∀j,j<3->W.cell? ⟨Bs,j,none⟩=some (i_ (zs j)))
  (hY:∀k W,J k W->k<3->YieldAt Fence.wide 1 Tryz.prog l #[i_ (k:Nat),NV zs k] W λe W'=>e=.returned (.bool true)/\J (k+1) W')
  (W:World) (h0:J 0 W) :
  CallsIn Fence.wide 2 Tryz.prog 263 #[.func (.yield l) #[] #[],p_ Bs] W λe W'=>(∃v,e=.returned v)/\J 3 W':=by
 refine callsIn_of_wp func263 U trivial ?_ U;simp only[Tryz.ntmps263,T5,SC,SZ,Nat.reduceAdd,Nat.reduceSub,VQ,VR,List.push_toArray,List.append_toArray,Un,Ub]
 gi_wp2
 gi_loopw [4] (λi wr=>∃k:Nat,k<=3/\i=i_ k/\J k wr) (λi _=>(3-intOf i).toNat)
 case atStart=>exact⟨0,by omega,rfl,h0⟩
 case round =>
  obtain⟨k,hk,rfl,hJs⟩:=hrel;by_cases hlt:k<3
  .have hJd:=hD k wr hJs;have hcd:=hJ k _ hJd;obtain⟨fn,tmps,assign,body,hy,hR⟩:=hY k _ hJd hlt;rcases(by omega:k=0∨k=1∨k=2) with rfl|rfl|rfl
   .have hc0:=hcd 0 om_;have hc1:=hcd 1 om_;have hy2:Sem.run Tryz.prog (Instr.yield l #[i_ 0,Value.agg #[i_ (zs 0),i_ (zs 1)]]) wr.drew=.ok (.round l fn tmps assign body) wr.drew:=hy;clear hy
    gi_wp2
    gi_region_with (refine hR.mono ?_;rintro e W3 ⟨rfl,hJ3⟩)
    all_goals
     gi_wp2
     go_roundw
     case rel=>exact⟨1,by omega,rfl,hJ3⟩
     case measure=>simp[intOf]
   .have hc0:=hcd 1 om_;have hc1:=hcd 2 om_;have hy2:Sem.run Tryz.prog (Instr.yield l #[i_ 1,Value.agg #[i_ (zs 1),i_ (zs 2)]]) wr.drew=.ok (.round l fn tmps assign body) wr.drew:=hy;clear hy
    gi_wp2
    gi_region_with (refine hR.mono ?_;rintro e W3 ⟨rfl,hJ3⟩)
    all_goals
     gi_wp2
     go_roundw
     case rel=>exact⟨2,by omega,rfl,hJ3⟩
     case measure=>simp[intOf]
   have hc0:=hcd 2 om_;have hc1:=hcd 0 om_;have hy2:Sem.run Tryz.prog (Instr.yield l #[i_ 2,Value.agg #[i_ (zs 2),i_ (zs 0)]]) wr.drew=.ok (.round l fn tmps assign body) wr.drew:=hy;clear hy
   gi_wp2
   gi_region_with (refine hR.mono ?_;rintro e W3 ⟨rfl,hJ3⟩)
   all_goals
    gi_wp2
    go_roundw
    case rel=>exact⟨3,by omega,rfl,hJ3⟩
    case measure=>simp[intOf]
  obtain rfl:k=3:=by omega
  gi_wp2
  go_end0
  exact⟨⟨_,U⟩,hJs⟩
def FZ (t:Tri)(j:Nat):Int:=if j=0 then (t.1:Nat) else if j=1 then (t.2.1:Nat) else (t.2.2:Nat)
def xo (t:Tri):List (Value × Value):=(List.range 3).map λk=>(.int .i64 (k:Nat),NV (FZ t) k)
theorem nD (t:Tri):(xo t).length=3:=rfl
theorem xn {t:Tri}(h:k<3):(xo t)[k]?=some (i_ (k:Nat),NV (FZ t) k):=by
 simp[xo,h]
theorem EE (C:Mem)(b c:Nat)(t:Tri)(d:C b=some (.cells ⟨jG t⟩ c (0,0))) :
  RB Tryz.prog 263 #[p_ b] C (xo t):=by
 intro l J W e f g h0;refine Km l b (FZ t) J f (λk W a j i=>?_) (λk W a h=>g k _ W a (xn h)) W h0;have h1:=e k W a b _ d;rcases(by omega:j=0∨j=1∨j=2) with rfl|rfl|rfl <;> simp[World.cell?,h1,jG,FZ]
theorem Kn (C:Mem)(t:Tri):Pur cx.P 213 [.agg ⟨jG t⟩] C λr a=>∃b,r=.func (.func 263) #[] #[p_ b]/\a b=some (.cells ⟨jG t⟩ 65 (0,0)):=by
 exact V7 func213 4 U3 λw0=>V3 λR c=>Wi U6 λe=>C6 1 [1] c U<|U0 2 [2] U<|G.freeze 0 U λf g d=>V6 U2<|⟨U,_,U,d⟩
def oJ (t:Tri)(k:Nat):Int × Int:=(FZ t k,FZ t ((k+1) % 3))
abbrev PZ:=List ((Int × Int) × Value)
def F1 (m:PZ)(i:Nat)(t:Tri):Nat->PZ
|0=>m
|k+1=>iY (F1 m i t k) (oJ t k) (.int .i64 (i:Nat))
def yg (tris:List Tri):Nat->PZ
|0=>[]
|n+1=>F1 (yg tris n) n (tris.getD n (0,0,0)) 3
noncomputable def kI2:KeyP cx.P 163 (Int × Int):=R6 rfl rfl rfl kr_
abbrev zad:=λa b c=>Ent.obj a (.cells b c (0,0))
theorem yf (C:Mem)(q H:Value)(a:List Tri)(N:a≠[])(x:Sl C 3 H (a.map jG))(O:∀i t k,a[i]?=some t->k<3->ef (F1 (yg a i) i t k) (oJ t k)=none) :
  Pur cx.P 145 [.agg ⟨[q,H]⟩] C λu D=>∃b,u=.tuple #[.map (some b),.bool true]/\D b=some (bg rE (yg a a.length)):=by
 obtain⟨A2,c2,rfl,Q,ad,_⟩:=id x;have ae:=mx_
 simp only[au]at x Q⊢;refine Xq kr_ func145 U 36 U U λw0=>V3 λR c=>Wi U6 λr=>Wg U5 λh=>Wg U5 λn=>V5 [1,2,3] c U<|V3 λR c=>XT kI2 U U U U fl_ λf=>Wg U5 λo=>Wa (j:=0) U12<|V5 [1,2,3,4] c U<|U1 1 U λR c=>V9 (.tail _ aa) U9<|C6 2 [2,3,4,13,14,15] c U<|G.perm (L':=[zad o ⟨[.map (some f)]⟩ 234,.obj f (bg rE []),zad n ⟨[.bool false]⟩ 4,zad h ⟨[.map none]⟩ 234,zad r ⟨[q,.slice A2 a.length c2]⟩ 39]) (Sp _)<|YG (λdd fr C' d S=>∃(i:Nat)(g:List Nat),(i<=a.length/\g.length=i)/\dd=g.map Ma/\fr=[(2,[],p_ h),(3,[],p_ n),(4,[],p_ o),(13,[],.slice A2 a.length c2),(14,[],i_ a.length),(15,[],i_ i)]/\d=[zad o ⟨[.map (some f)]⟩ 234,.obj f (bg rE (yg a i)),zad n ⟨[.bool false]⟩ 4,zad h ⟨[.map none]⟩ 234,zad r ⟨[q,.slice A2 a.length c2]⟩ 39]++g.map Bh/\S=a.length-i) (hn_ [2,3,4,13,14,15] U) ⟨0,[],⟨Sm _,U⟩,U,U,U,U⟩ (λdd fr ai aj m _ p=>?_);obtain⟨i,g,⟨hi,y⟩,rfl,rfl,rfl,rfl⟩:=p;refine U0 1 [2,3,4,13,14,15,16] U<|G.cd (λA=>?_) λA=>?_
 .have B:i<a.length:=by simpa using A
  obtain⟨t,ht⟩:∃t,a[i]?=some t:=⟨a[i],ah B⟩;refine U1 1 U λR c=>Wf x.m_ U10 om_ (by rw[Sh,ht];rfl:(a.map jG)[i]?=some (jG t)) fl_ λal T=>V1 T U8<|Wg U5 λE=>Wg U5 λI=>Wa (j:=1) U12<|Wa (j:=1) U12<|V5 [2,3,4,5,6,13,14,15] c U<|V3 λR c=>V9 ag U9<|Wz (Kn _ t) U7 λam _ _ V=>V5 [2,3,4,5,13,14,15,21] c U ?_;obtain⟨W,rfl,X⟩:=V;refine YJ U U kr_ (EE _ W _ t X) (λj d=>∃(z:Unit),(j<=3)/\d=[zad I ⟨jG t⟩ 65,zad E ⟨[i_ i]⟩ 3,zad o ⟨[.map (some f)]⟩ 234,.obj f (bg rE (F1 (yg a i) i t j)),zad n ⟨[.bool false]⟩ 4,zad h ⟨[.map none]⟩ 234,zad r ⟨[q,.slice A2 a.length c2]⟩ 39]++g.map Bh) ⟨(),Sm _,U⟩ U (λ_ _=>rfl) (λj d fr J=>∃(s:Nat),fr=[(2,[],p_ h),(3,[],p_ n),(4,[],p_ o),(5,[],p_ E),(8,[],p_ s)]/\J=.obj s (.cells ⟨[i_ (oJ t j).1,i_ (oJ t j).2]⟩ 163 (0,0))::d) (λl j u v d Y p w=>?_) (λl j u v d an J Y p w Z=>?_) (λK d p=>?_)
  .obtain⟨z,L,rfl⟩:=p;have F:j<3:=by have:=(aT.1 w).1;rwa [nD]at this
   rw[xn F]at w;cases w
   exact V3 λR c=>Wg U5 λs=>Wa (j:=0) U12<|V5 [2,3,4,5,8] c U<|YK (hn_ [2,3,4,5,8] U) ⟨s,U,U⟩
  .obtain⟨z,L,rfl⟩:=p;obtain⟨s,rfl,rfl⟩:=Z;have F:j<3:=by have:=(aT.1 w).1;rwa [nD]at this
   refine V3 λR c=>V9 aa U9<|V9 ag U9<|XU kI2 (.tail _ aa) U U U U U U U U U (congrArg (mA _ true) (O i t j ht F)) U U<|C6 5 [2,3,4,5,8,10] c U<|U0 1 [2,3,4,5,8,30] U<|G.cd (λM=>?_) λM=>?_
   .exact absurd M dc_
   refine V3 λR c=>V9 aa U9<|V9 ag U9<|V9 ac U9<|XM kI2 (j:=4) U U U U U U U U U U<|WV [] trivial (c _ _ _ U ?_);exact WH 1 U<|XI (R:=λd=>∃(z:Unit),((j+1)<=3)/\d=[zad I ⟨jG t⟩ 65,zad E ⟨[i_ i]⟩ 3,zad o ⟨[.map (some f)]⟩ 234,.obj f (bg rE (F1 (yg a i) i t (j+1))),zad n ⟨[.bool false]⟩ 4,zad h ⟨[.map none]⟩ 234,zad r ⟨[q,.slice A2 a.length c2]⟩ 39]++g.map Bh) (List.perm_middle (l₁:=[_,_,_])).symm ⟨(),om_,U⟩
  obtain⟨z,L,rfl⟩:=p;refine V3 λR c=>V8 _ U U6<|C6 1 [2,3,4,13,14,15] c U<|WH 1 U<|WH 1 U<|G.perm (L':=[zad o ⟨[.map (some f)]⟩ 234,.obj f (bg rE (yg a (i+1))),zad n ⟨[.bool false]⟩ 4,zad h ⟨[.map none]⟩ 234,zad r ⟨[q,.slice A2 a.length c2]⟩ 39]++(K::g).map Bh) (by
   rw[show yg a (i+1)=F1 (yg a i) i t (xo t).length by rw[nD,yg,ak,ht];rfl];exact(List.perm_middle (l₁:=[_,_,_,_,_])).symm) ?_
  refine YF (m':=a.length-(i+1)) om_ mup (hn_ [2,3,4,13,14,15] U) ⟨i+1,K::g,⟨by omega,by simp[y]⟩,U,U,U,U⟩
 have B:i=a.length:=by
  have:¬ i<a.length:=by simpa using A
  omega
 refine V3 λR c=>V9 ag U9<|Wa (j:=3) U12<|Wa (j:=3) U12<|V5 [2,3] c U<|G.freeze 3 U λCf ao ab=>G.perm (L':=g.map Bh++[_,_,_,_]) (Tq (l₁:=[_,_,_,_]))<|Wd (YH (QC af ag U U U U U U U) ?_ ?_)
 .exact⟨U,f,U,by rw[<- B];exact ab⟩
 intro e;rw[e]at y;have:=S7.2 N;simp at y;omega
def MJ (kd a b:Int)(h:Bool):Value:=.agg ⟨[.int .u8 kd,.int .i8 a,.int .i8 b,.bool h]⟩
def ec (h:Bool):Int:=if h then 2 else 1
def dL (a b:Int)(h:Bool)(x y by':Int):Pt:=(lF (x+a.tmod 8*by') (ec h*by'),lF (y+b.tmod 8*by') (ec h*by'))
theorem zG (a:Int):-8<a.tmod 8/\a.tmod 8<8:=by
 have h:(a.tmod 8).natAbs=a.natAbs % 8:=UZ a 8;omega
theorem Dc (C:Mem)(g:Tabs C)(i a b:Int)(h:Bool)(x y n:Int)(u:0<n)(v:n<=4)(w:-128<=x/\x<=127)(A:-128<=y/\y<=127) :
  Gives cx.P 116 [MJ i a b h,.agg ⟨[.int .i8 x,.int .i8 y]⟩,i_ n] C (ptV (dL a b h x y n)):=by
 have k:=zG a;have l:=zG b;have m:∀z:Int, -8<z->z<8->-32<z*n/\z*n<32:=λz h1 h2=>by
  rcases(by omega:n=1∨n=2∨n=3∨n=4) with e|e|e|e <;> subst e <;> omega
 have B:=m _ k.1 k.2;have D:=m _ l.1 l.2;have hh:ec h=1∨ec h=2:=by cases h <;> simp[ec]
 have hd:0<ec h*n/\ec h*n<=8:=by rcases hh with e|e <;> rw[e] <;> omega
 refine V7 func116 53 U3 λw0=>V3 λR d=>Wi U6 λo=>Wi U6 λp=>Wg U5 λq=>V5 [2,3,4,6] d U<|U0 1 [2,3,4,6,7] U<|U1 1 U λR d=>V9 ac U9<|V5 [2,3,4,6,7,13] d U<|G.cut (λfr E r s=>(True)/\fr=[(2,[],i_ n),(3,[],p_ o),(4,[],p_ p),(6,[],p_ q),(7,[],i_ (ec h))]/\r=[zad q ⟨[ae [],ae []]⟩ 34,zad p ⟨[.int .i8 x,.int .i8 y]⟩ 23,zad o ⟨[.int .u8 i,.int .i8 a,.int .i8 b,.bool h]⟩ 25]) ?_ (λfr _ F s _ t=>?_)
 .refine G.cd (λf=>?_) λf=>?_
  .have h1:h=true:=f;subst h1;refine U0 1 [2,3,4,6,7] U<|Wj 0 l_ (hn_ [2,3,4,6,7] U) ⟨trivial,U,U⟩
  have h1:h=false:=by simpa using f
  subst h1;refine Wj 0 l_ (hn_ [2,3,4,6,7] U) ⟨trivial,U,U⟩
 obtain⟨_,rfl,rfl⟩:=t;refine V3 λR d=>Wp (0) U9 k_ U2<|V9 af U9<|WG (c:=x) U8 (wrap_i64 om_ om_) fl_<|V2 U6<|Wp (1) U9 k_ U2<|V9 ac U9<|WY (a.tmod 8) U6 dc_ U3<|WG (c:=a.tmod 8) U8 (wrap_i64 om_ om_) fl_<|V2 U6<|V8 _ U U6<|V8 _ U U6<|V4 2 U<|V8 _ U U6<|Wc (G5 _ g.m_ (x+a.tmod 8*n) (ec h*n) om_ om_ om_) U7 fl_<|C6 5 [2,3,4,6,7,8] d U<|V3 λR d=>Wp (1) U9 k_ U2<|V9 af U9<|WG (c:=y) U8 (wrap_i64 om_ om_) fl_<|V2 U6<|Wp (2) U9 k_ U2<|V9 ac U9<|WY (b.tmod 8) U6 dc_ U3<|WG (c:=b.tmod 8) U8 (wrap_i64 om_ om_) fl_<|V2 U6<|V8 _ U U6<|V8 _ U U6<|V4 2 U<|V8 _ U U6<|Wc (G5 _ g.m_ (y+b.tmod 8*n) (ec h*n) om_ om_ om_) U7 fl_<|C6 5 [6,8,10] d U<|U1 2 U λR d=>Wm (gK (dL a b h x y n)) U8<|Wa (j:=0) U12<|V5 [6] d U<|Wd (WO ag U4 ?_);exact⟨U,U⟩
def gu (s p:Nat):Value:=.agg ⟨[.int .i64 (s:Nat),.int .i64 (p:Nat)]⟩
theorem jo (C:Mem)(s p:Nat)(h:s*p<=1000000000):Gives cx.P 149 [gu s p] C (i_ ((s*p:Nat):Int)):=by
 exact V7 func149 8 U3 λw0=>V3 λR a=>Wi U6 λb=>C6 1 [1] a U<|U1 1 U λR a=>V9 ag U9<|V2 U6<|V9 ag U9<|V8 _ U U6<|C6 1 [2] a U<|V6 U2<|⟨U,U⟩
theorem Qu (C:Mem)(s p:Nat)(i k:Int)(h:-1000000000000<=i*p/\i*p<=1000000000000)(b:-1000000000<=k/\k<=1000000000):Gives cx.P 240 [gu s p,i_ i,i_ k] C (i_ (i*p+k)):=by
 exact V7 func240 13 U3 λw0=>V3 λR a=>Wi U6 λc=>C6 1 [1,2,3] a U<|U1 2 U λR a=>V9 ag U9<|V8 _ U U6<|V2 U6<|V8 _ U U6<|C6 1 [6] a U<|V6 U2<|⟨U,U⟩
theorem Dh {m:PZ}{s:fE}:(ef m (s.2,s.1)).isSome=!jJ (m.map (·.1)) s:=by
 unfold jJ oI;rw[Bool.not_not];cases h:ef m (s.2,s.1) with
|none=>rw[cN]at h;simp[h]
|some v =>
  have:=Ut (f:=(·.1)) (gC h);simp only[Option.isSome_some];exact(SB this).symm
theorem KX (C:Mem)(v1 v2:Value)(b:Nat)(m:PZ)(n:C b=some (bg rE m))(hn:(m.map (·.1)).Nodup)(O:∀s∈m.map (·.1),0<=s.1)(aC:m.length<=1000000) :
  Pur cx.P 196 [.agg ⟨[v1,v2]⟩,.map (some b)] C λu D=>∃v,u=.tuple #[v,.bool (decide (yi (m.map (·.1))≠[]))]/\Sl D 1 v ((yi (m.map (·.1))).map nU):=by
 have aD:=mx_
 have Q:=λs:fE=>Dh (m:=m) (s:=s);obtain⟨ks,J⟩:∃ks,m.map (·.1)=ks:=⟨_,rfl⟩;rw[J]at hn O⊢;simp only[J]at Q;have aj:ks.length=m.length:=by rw[<- J];simp
 refine V7 func196 93 U3 λw0=>V3 λR c=>Wi U6 λb2=>C6 2 [1] c U<|V3 λR c=>D.makeMap keyZ U U U U fl_ λl=>C6 1 [1,6] c U<|U0 1 [1,6,7] U<|U1 1 U λR c=>XO kI2.enc (Mem.get n mup) U U U U U U U fl_ λE=>V5 [1,6,7,19] c U<|WH 2 U<|G.loop (λfr C' o S=>∃(seen:List Nat)(f:Int),(seen.Nodup/\(∀j∈seen,j<ks.length)/\((fB ks seen).map (·.1)).Nodup/\mD (fB ks seen) f)/\fr=[(1,[],.map (some b)),(6,[],.map (some l)),(7,[],i_ f),(19,[],p_ E)]/\o=[.obj E (bk b m.length seen),.obj l (bg keyZ.enc (ve (fB ks seen)))]/\S=ks.length-seen.length) (hn_ [1,6,7,19] U) ⟨[], -1,⟨List.nodup_nil,by simp,by simp[fB],.inl ⟨U,U⟩⟩,U,U,U⟩ (λfr aE aG m _ T=>?_);obtain⟨seen,f,⟨ak,am,K,L⟩,rfl,rfl,rfl⟩:=T;refine V3 λR c=>XR kI2.enc (q:=0) (Mem.get n mup) U U U U U U fl_ λan aH M ao=>C6 1 [1,6,7,19,21] c U<|G.cd (λF=>?_) λF=>?_
 .obtain⟨aI,j,hj,aw,rfl⟩:an=true/\∃j,j<m.length/\j ∉ seen/\M=seen++[j]:=by
   rcases ao with⟨h1,_⟩|h1
   .rw[h1]at F;cases F
   exact h1
  rw[<- aj]at hj;obtain⟨⟨s,bv⟩,hs⟩:∃p,m[j]?=some p:=⟨m[j]'om_,ah om_⟩;have ap:ks[j]?=some s:=by rw[<- J,Sh,hs];rfl
  have H:(seen++[j]).Nodup:=by
   rw[TX];exact⟨ak,by simp,λa V b n e=>by rw[SD.1 n]at e;subst e;exact aw V⟩
  have z:∀i∈seen++[j],i<ks.length:=λi W=>by
   rcases Sx.1 W with h|h
   .exact am i h
   rw[SD.1 h];exact hj
  have aL:(seen++[j]).length<=ks.length:=by
   have:=List.Nodup.length_le_of_subset H (l₂:=List.range ks.length) (λi W=>SE.2 (z i W));simpa using this
  have aM:(seen++[j]).length=seen.length+1:=by simp
  have d:=EH ap (seen:=seen);have ay:0<=s.1:=O s (aJ ap);refine V3 λR c=>XP kI2.enc (Mem.get n mup) hs ag U U U U U U U<|V2 U6<|Wg U5 λb8=>Wa (j:=0) U12<|V5 [1,6,7,8,19] c U<|U1 1 U λR c=>Wp (1) U9 k_ U2<|V9 ag U9<|Wp (0) U9 k_ U2<|V9 ag U9<|Wm [i_ s.2,i_ s.1] U8<|XV kI2 (λ_=>(Mem.get n mup)) U U U U U U U U U (my _ (ef m (s.2,s.1))) U U<|C6 5 [1,6,7,8,10,19] c U<|U0 1 [1,6,7,8,19,34] U<|G.cd (λX=>?_) λX=>?_
  .have Y:jJ ks s=false:=by
    have h:(ef m (s.2,s.1)).isSome=true:=X;rw[Q]at h;simpa using h
   rw[Y]at d;simp only[Tg,TS,SF]at d;refine WH 0 U<|Wk (L':=[.obj E (bk b m.length (seen++[j])),.obj l (bg keyZ.enc (ve (fB ks (seen++[j]))))]) (by rw[d];rfl)<|We (m':=ks.length-(seen++[j]).length) om_ mup (hn_ [1,6,7,19] U) ⟨seen++[j],f,⟨H,z,by rw[d];exact K,by rw[d];exact L⟩,U,U,U⟩
  have Y:jJ ks s=true:=by
   have h:(ef m (s.2,s.1)).isSome=false:=X;rw[Q]at h;simpa using h
  rw[Y]at d;simp only[Ul]at d;refine U1 1 U λR c=>Wp (0) U9 k_ U2<|V9 ag U9<|Xm keyZ ac U U U U U U U U kr_ U (my _ (ef (ve (fB ks seen)) s.1)) U U<|C6 5 [1,6,7,8,12,19] c U<|U0 1 [1,6,7,8,19,42] U<|G.cd (λZ=>?_) λZ=>?_
  .have x:(ef (ve (fB ks seen)) s.1).isSome=true:=Z;rw[ix]at x;have aa:F2 ks=none:=by
    cases k:ef (fB ks seen) s.1 with
   |none=>rw[k]at x;cases x
   |some q=>exact EY (B:=fB ks seen) (s:=s) (t:=(s.1,q)) (by rw[<- d];exact zS hn H z) (by rw[<- d];exact GW z) (gC k) rfl
   have I:yi ks=[]:=by unfold yi;rw[aa];rfl
   refine U0 2 [4,5] U<|Wd (G.dropAll (Wu U3 ?_));exact⟨U,.slice none 0 0,by rw[I];rfl,by rw[I];exact Sl.nil _ _⟩
  have x:(ef (ve (fB ks seen)) s.1).isSome=false:=Z;have ab:ef (fB ks seen) s.1=none:=by
   rw[ix]at x;cases k:ef (fB ks seen) s.1 with
  |none=>rfl
  |some q=>rw[k]at x;cases x
  have aq:((fB ks (seen++[j])).map (·.1)).Nodup:=by
   rw[d,SV,TX];refine⟨K,by simp,λa V b n e=>?_⟩;rw[List.map_singleton,SD]at n;subst n;subst e;exact(cN.1 ab) V
  have N:=rn L s ay;refine U1 1 U λR c=>Wp (0) U9 k_ U2<|V9 ag U9<|Wp (1) U9 k_ U2<|V9 ag U9<|D.mapUpdate keyZ (j:=2) U U U U U U U U U U kr_<|V5 [1,6,7,8,19] c U<|U1 3 U λR c=>Wp (0) U9 k_ U2<|V9 af U9<|V4 2 U<|Wy U8<|V5 [1,6,7,8,19,55] c U<|G.cd (λad=>?_) λad=>?_
  .have ae:f<0∨s.1<f:=by simpa using ad
   rw[aK ae]at N;refine V3 λR c=>Wp (0) U9 k_ U2<|V9 af U9<|C6 1 [1,6,7,19] c U<|WH 1 U<|G.perm (L':=[.obj E (bk b m.length (seen++[j])),.obj l (bg keyZ.enc (ve (fB ks (seen++[j]))))]) (by
    rw[d,<- Dj ab];exact List.Perm.swap _ _ _) ?_
   refine We (m':=ks.length-(seen++[j]).length) om_ mup (hn_ [1,6,7,19] U) ⟨seen++[j],s.1,⟨H,z,aq,by rw[d];exact N⟩,U,U,U⟩
  have ae:¬ (f<0∨s.1<f):=by simpa using ad
  rw[aF ae]at N;refine WH 1 U<|G.perm (L':=[.obj E (bk b m.length (seen++[j])),.obj l (bg keyZ.enc (ve (fB ks (seen++[j]))))]) (by
   rw[d,<- Dj ab];exact List.Perm.swap _ _ _) ?_
  refine We (m':=ks.length-(seen++[j]).length) om_ mup (hn_ [1,6,7,19] U) ⟨seen++[j],f,⟨H,z,aq,by rw[d];exact N⟩,U,U,U⟩
 obtain⟨aN,rfl,ar⟩:an=false/\M=seen/\∀j,j<m.length->j∈seen:=by
  rcases ao with h1|⟨h1,_⟩
  .exact h1
  rw[h1]at F;cases F
 rw[<- aj]at ar;have hp:(fB ks M).Perm (ks.filter (jJ ks)):=(qu ak am ar).filter _;obtain⟨B,d⟩:∃B,fB ks M=B:=⟨_,rfl⟩;rw[d]at hp K L;have hO:=KY hp K O L;have aO:B.length<=ks.length:=by rw[hp.length_eq];exact TV _ _
 refine U0 1 [6,7,13] U<|U0 2 [6,7,13,14] U<|WH 0 U<|G.nilArr 3 1<|Wk (L':=[.arr (.slice none 0 0) 3 1 0 [],.obj l (bg keyZ.enc (ve B))]) (by rw[d];rfl)<|G.loop (λfr C' o S=>∃(out:List Int)(w:Value)(p:Int),(out.length<=B.length/\jb B f (B.length-out.length) p out=F2 ks)/\fr=[(6,[],.map (some l)),(7,[],i_ f),(13,[],w),(14,[],i_ p)]/\o=[.arr w 3 1 out.length (out.map (Value.int .i64)),.obj l (bg keyZ.enc (ve B))]/\S=B.length-out.length) (hn_ [6,7,13,14] U) ⟨[],_,f,⟨Sm _,hO.symm⟩,U,U,U⟩ (λfr aP aQ m _ T=>?_);obtain⟨out,w,p,⟨aR,A⟩,rfl,rfl,rfl⟩:=T;refine X3 ag (λAw cw hw aS aT aU=>?_);subst hw;refine Wt [(3,1)] U λR c=>V4 3 U<|XY keyZ.enc af U U U U U U U U U<|C6 1 [6,7,13,14,63] c U<|G.cd (λai=>?_) λai=>?_
 .have aV:out.length<B.length:=by
   simp only[Sr,Dk]at ai;omega
  obtain⟨r,hr⟩:∃r,B.length-out.length=r+1:=⟨B.length-out.length-1,by omega⟩;rw[hr]at A;refine U1 2 U λR c=>Xm keyZ af U U U U U U U U kr_ U (my _ (ef (ve B) p)) U U<|C6 5 [6,7,13,14,16] c U<|U1 10 U λR c=>Wr U8<|Wy U8<|V5 [6,7,13,14,84] c U<|G.cd (λg=>?_) λg=>?_
  .have aa:F2 ks=none:=by
    rw[<- A];refine En ?_;rw[ix]at g;cases k:ef B p with
   |none=>exact .inl rfl
   |some q =>
     rw[k]at g;simp only[TU,Option.isSome_some,Bool.not_true,Bool.false_or,Sz,T4,Sr]at g;exact .inr ⟨g.1,λe=>by rw[e]at g;simp at g⟩
   have I:yi ks=[]:=by unfold yi;rw[aa];rfl
   refine U0 2 [4,5] U<|Wd (G.dropAll (Wu U3 ?_));exact⟨U,.slice none 0 0,by rw[I];rfl,by rw[I];exact Sl.nil _ _⟩
  obtain⟨q,k⟩:∃q,ef B p=some q:=by
   rw[ix]at g;cases k:ef B p with
  |some q=>exact⟨q,rfl⟩
  |none=>rw[k]at g;simp at g
  have az:¬ (p=f/\out≠[]):=by
   rintro ⟨e1,e2⟩;rw[ix,k]at g;have:=S7.2 e2;simp[e1]at g;exact e2 g
  rw[Em k az]at A;have aW:(out++[p]).length=out.length+1:=by simp
  refine U1 2 U λR c=>Wq [nU p] U12 λaX _ _ aA=>D.append (j:=0) U11 aA U ax (by simp only[Sk];omega) fl_ λau=>C6 1 [6,7,13,14] c U<|U1 2 U λR c=>Xm keyZ af U U U U U U U U kr_ U (by rw[ix,k];rfl:mA _ false (ef (ve B) p)=i_ q) U U<|C6 1 [6,7,13,14] c U<|Wk (L':=[.arr au 3 1 (out++[p]).length ((out++[p]).map (Value.int .i64)),.obj l (bg keyZ.enc (ve B))]) (by simp[nU])<|We (m':=B.length-(out++[p]).length) om_ mup (hn_ [6,7,13,14] U) ⟨out++[p],au,q,⟨by omega,by rw[show B.length-(out++[p]).length=r by omega];exact A⟩,U,U,U⟩
 have aY:B.length<=out.length:=by
  simp only[SS,Dk]at ai;omega
 have av:yi ks=out:=by
  rw[show B.length-out.length=0 by omega]at A;unfold yi;rw[<- A];rfl
 refine U0 6 [4,5] U<|Wk (L':=[.arr (.slice Aw out.length cw) 3 1 out.length (out.map nU).flatten,.obj l (bg keyZ.enc (ve B))]) (by rw[show(out.map nU).flatten=out.map (Value.int .i64) from eE _ _])<|G.freezeArr 0 (out.map nU) U2 (by intro r hr;obtain⟨y,_,rfl⟩:=Sn.1 hr;rfl) al λCg hg aB=>Wd (G.dropAll (Wu U3 ?_));refine⟨U,_, ?_,by rw[av];exact aB⟩;rw[av];have:decide ((out.length:Int) > 0)=decide (out≠[]):=by
  rw[S8,<- S7];omega
 rw[<- this]
def sD (pts:List Pt)(cyc:List Nat)(i:Nat):Pt:=pts.getD (cyc.getD (i % cyc.length) 0) (0,0)
def upB (p q:Pt):Bool:=decide (p.2<q.2) || (decide (p.2=q.2) && decide (p.1<q.1))
def LD (pts:List Pt)(cyc:List Nat)(i:Nat):Bool:=!upB (sD pts cyc i) (sD pts cyc (i+1)) && upB (sD pts cyc (i+1)) (sD pts cyc (i+1+1))
def yr (pts:List Pt)(cyc:List Nat)(i:Nat):Bool:=decide (0<=dO (sD pts cyc i) (sD pts cyc (i+1)) (sD pts cyc (i+2)))
def K1 (pts:List Pt)(cyc:List Nat):Bool:=(List.range cyc.length).all (yr pts cyc) && decide (((List.range cyc.length).filter (LD pts cyc)).length=1)
structure OnceC (C:Mem)(b2 b3 b5:Nat)(pts:List Pt)(cyc:List Nat):Prop where
 ex:∃v1 v2,C b2=some (.cells ⟨[v1,v2]⟩ 39 (0,0))/\Sl C 2 v1 (pts.map gK)
 ey:∃cv,C b3=some (.cells ⟨[cv]⟩ 57 (0,0))/\Sl C 1 cv (cyc.map aW)
 ez:C b5=some (.cells ⟨[.int .i64 (cyc.length:Nat)]⟩ 3 (0,0))
 ne:0<cyc.length
 ins:∀z∈cyc,z<pts.length
 q:∀p∈pts,QP 1 p
theorem OnceC.mono {C D:Mem}{b c d:Nat}{e:List Pt}{f:List Nat}(h:OnceC C b c d e f)(a:C.le D):OnceC D b c d e f:=by
 obtain⟨g,i,h1,h2⟩:=h.ex;obtain⟨j,h3,h4⟩:=h.ey;exact⟨⟨g,i,a _ _ h1,h2.mono a⟩,⟨j,a _ _ h3,h4.mono a⟩,a _ _ h.ez,h.ne,h.ins,h.q⟩
theorem OnceC.m_ {D:Mem}{a b c:Nat}{d:List Pt}(h:OnceC C a b c d cyc)(e:C.le D:=by exact mup):OnceC D a b c d cyc:=OnceC.mono h e
theorem Nk {a:List Pt}(h:0<cyc.length)(c:∀z∈cyc,z<a.length)(i:Nat):∃z,cyc[i % cyc.length]?=some z/\a[z]?=some (sD a cyc i):=by
 have b:=S5 i h;refine⟨cyc[i % cyc.length],ah b, ?_⟩;have d:=c _ (Td b);simp[sD,ah b,ah d]
theorem Nj {a:List Pt}(h:0<cyc.length)(b:∀z∈cyc,z<a.length)(c:∀p∈a,QP 1 p)(i:Nat):QP 1 (sD a cyc i):=by
 obtain⟨z,_,h2⟩:=Nk h b i;exact c _ (aJ h2)
theorem qI (C:Mem)(e f c:Nat)(b:List Pt)(a:List Nat)(h:OnceC C e f c b a)(i:Nat) :
  Gives cx.P 258 [i_ i,p_ e,p_ f,p_ c] C (ptV (sD b a i)):=by
 obtain⟨p,q,g,h1⟩:=h.ex;obtain⟨r,k,h3⟩:=h.ey;have l:=h.ez;have s:=h.ne;obtain⟨z,m,hp⟩:=Nk h.ne h.ins i;obtain⟨t,u,rfl,v,w,_⟩:=id h1;obtain⟨x,y,rfl,A,B,_⟩:=id h3;simp only[au]at h1 h3 g k;refine V7 func258 16 U3 λw0=>V3 λR d=>Wg U5 λc=>V5 [0,1,2,3,5] d U<|Wn [0,1,2,3,4,5,6,7,8,9,10] [] U kr_ λR D d=>V2 U6<|V1 (PtrTo.block (Mem.get g mup) _) U8<|V1 (PtrTo.block (Mem.get k mup) _) U8<|V2 U6<|V1 (PtrTo.block (Mem.get l mup) _) U8<|WT (i) (a.length) U6 om_ U2<|Wf h3.m_ U10 om_ (by rw[Sh,show((i % a.length:Nat):Int).toNat=i % a.length from U,m];rfl:(a.map aW)[((i % a.length:Nat):Int).toNat]?=some (aW z)) fl_ λE n=>V1 n U8<|Wf h1.m_ U10 om_ (by rw[Sh,show((z:Nat):Int).toNat=z from U,hp];rfl:(b.map gK)[((z:Nat):Int).toNat]?=some (gK (sD b a i))) fl_ λF o=>V1 o U8<|Wa (j:=0) U12<|V5 [5] d U<|Wd (WO ag U4 ?_);exact⟨U,U⟩
def fn1V (b2 b3 b5:Nat):Value:=.func (.func 258) #[] #[.pointer (some ⟨b2,0,none⟩),.pointer (some ⟨b3,0,none⟩),.pointer (some ⟨b5,0,none⟩)]
theorem Bm (a b:Rat):decide (nZ a b > 0)=decide (b<a):=by
 unfold nZ;by_cases h1:a<b
 .have:¬ b<a:=by grind
  simp[h1,this]
 by_cases h2:b<a <;> simp[h1,h2]
theorem Py (a b:Rat):(nZ a b == 0)=decide (b=a):=by
 unfold nZ;by_cases h1:a<b
 .have:¬ b=a:=by grind
  simp[h1,this]
 by_cases h2:b<a
 .have:¬ b=a:=by grind
  simp[h1,h2,this]
 have:b=a:=by grind
 subst this;simp[h1]
theorem MF (C:Mem)(k:Tabs C)(c d e l:Nat)(a:List Pt)(b:List Nat)(h:OnceC C c d e a b)(f:C l=some (.cells ⟨[fn1V c d e]⟩ 352 (0,0)))(i:Nat)(n:i<=1000000) :
  Gives cx.P 259 [i_ i,p_ l] C (.bool (upB (sD a b i) (sD a b (i+1)))):=by
 have g:=λi=>Nj h.ne h.ins h.q i;unfold fn1V at f;refine V7 func259 34 U3 λw0=>U0 1 [0,1] U<|Wn [0,1,2,3,4,5,6,7,8,9,10] [(3,1),(7,1),(9,1)] U kr_ λR m j=>V1 (PtrTo.block (Mem.get f mup) _) U8<|V2 U6<|V8 _ U U6<|WC (λ_=>(qI _ c d e a b h.m_ (i+1))) U9<|Xe U12<|V1 (PtrTo.block (Mem.get f mup) _) U8<|V2 U6<|WC (λ_=>(qI _ c d e a b h.m_ i)) U9<|Xe U12<|Wo (λ_=>(fP _ k.m_ (sD a b (i+1)).2 (sD a b i).2 1 dc_ dc_ (g (i+1)).2 (g i).2)) U9<|C6 1 [0,1,4] j U<|Wn [0,1,2,3,4,5,6,7,8,9,10,11,12,13,14,15,16,17,18,19] [] U kr_ λR m j=>V4 6 U<|Wv U6 (λ_=>PtrTo.block (Mem.get f mup) _) U3<|V2 U6<|V8 _ U U6<|WC (λ_=>(qI _ c d e a b h.m_ (i+1))) U9<|Xe U12<|Wv U6 (λ_=>PtrTo.block (Mem.get f mup) _) U3<|V2 U6<|WC (λ_=>(qI _ c d e a b h.m_ i)) U9<|Xe U12<|Wo (λ_=>(fP _ k.m_ (sD a b (i+1)).1 (sD a b i).1 1 dc_ dc_ (g (i+1)).1 (g i).1)) U9<|V2 U6<|Wr U8<|Wy U8<|C6 1 [3] j U<|V6 U2<|⟨?_,U⟩;rw[Bm,Py,Bm];rfl
theorem GO (q:Rat):decide (er q.num<0)=!decide (0<=q):=by
 rw[<- decide_not,S8,<- Rat.num_nonneg];rcases eD q.num with h|h|h <;> omega
theorem OL (C:Mem)(r:Tabs C)(s B D:Value)(b:List Pt)(a:List Nat)(I:Sl C 2 s (b.map gK))(t:Sl C 1 D (a.map aW))(J:0<a.length)(K:∀z∈a,z<b.length)(L:∀p∈b,QP 1 p)(X:a.length<=100000) :
  Gives cx.P 197 [.agg ⟨[s,B]⟩,D] C (.bool (K1 b a)):=by
 obtain⟨Y,Z,rfl,aa,ab,_⟩:=id t;simp only[au]at t⊢;refine V7 func197 46 U3 λw0=>V3 λR c=>Wi U6 λe=>Wi U6 λf=>C6 1 [2,3] c U<|V3 λR c=>V9 ag U9<|V2 U6<|Wg U5 λg=>Wa (j:=0) U12<|V5 [2,3,5] c U<|U1 1 U λR c=>Wg U5 λo=>Wa (j:=0) U12<|V5 [5,6] c U<|G.freeze 0 U λ_ _ h=>G.freeze 0 U λ_ _ E=>G.freeze 0 U λ_ _ M=>G.freeze 0 U (λN _ O=>?_);have d:OnceC N e f g b a:=⟨⟨s,B,O,I.mono mup⟩,⟨_,Mem.get M mup,t.mono mup⟩,Mem.get E mup,J,K,L⟩;have u:=λi=>Nj d.ne d.ins d.q i;refine U0 2 [5,6,7] U<|U0 1 [5,6,7,8] U<|V3 λR c=>V1 (PtrTo.block (Mem.get E mup) _) U8<|C6 1 [6,7,8,14,15] c U<|G.loop (λfr C' Q S=>∃(i k:Nat),(i<=a.length/\(List.range i).all (yr b a)=true/\((List.range i).filter (LD b a)).length=k)/\fr=[(6,[],p_ o),(7,[],.func (.func 259) #[] #[p_ o]),(8,[],i_ k),(14,[],i_ a.length),(15,[],i_ i)]/\Q=[]/\S=a.length-i) (hn_ [6,7,8,14,15] U) ⟨0,0,⟨Sm _,U,U⟩,U,U,U⟩ (λfr ac ad m F T=>?_);obtain⟨i,k,⟨hi,v,l⟩,rfl,rfl,rfl⟩:=T;refine U0 1 [6,7,8,14,15,16] U<|G.cd (λw=>?_) λw=>?_
 .have x:i<a.length:=by simpa using w
  have ae:k<=i:=by
   rw[<- l];exact Su (TV _ _) al
  refine U0 2 [6,7,8,9,14,15] U<|Wn [0,1,2,3,4,5,6,7,8,9,10,11,12] [(2,1),(6,1),(10,1),(11,1)] U kr_ λR hB c=>V1 (PtrTo.block (Mem.get h mup) _) U8<|V2 U6<|WC (λ_=>(qI _ e f g b a d.m_ i)) U9<|V1 (PtrTo.block (Mem.get h mup) _) U8<|V2 U6<|V8 _ U U6<|WC (λ_=>(qI _ e f g b a d.m_ (i+1))) U9<|V1 (PtrTo.block (Mem.get h mup) _) U8<|V2 U6<|V8 _ U U6<|WC (λ_=>(qI _ e f g b a d.m_ (i+2))) U9<|Wo (λ_=>(pQ _ r.m_ (sD b a i) (sD b a (i+1)) (sD b a (i+2)) 1 dc_ dc_ (u i) (u (i+1)) (u (i+2)))) U9<|C6 1 [6,7,8,9,14,15,30] c U<|G.cd (λn=>?_) λn=>?_
  .have V:yr b a i=false:=by
    rw[GO]at n;simpa [yr] using n
   refine U0 1 [4] U<|V6 U2<|⟨?_,U⟩;have:(List.range a.length).all (yr b a)=false:=UJ.2 ⟨i,SE.2 x,by rw[V];decide⟩;unfold K1;rw[this];rfl
  have W:yr b a i=true:=by
   rw[GO]at n;simpa [yr] using n
  have H:(List.range (i+1)).all (yr b a)=true:=by rw[Tz,VU,v];simp[W]
  refine U1 2 U λR c=>Wc (MF _ r.m_ e f g o b a d.m_ (Mem.get h mup) i om_) U7 fl_<|V4 4 U<|V8 _ U U6<|Wo (λ_=>(MF _ r.m_ e f g o b a d.m_ (Mem.get h mup) (i+1) om_)) U9<|Wr U8<|V5 [6,7,8,14,15,40] c U<|G.cd (λy=>?_) λy=>?_
  .have A:LD b a i=true:=y;refine U1 1 U λR c=>V8 _ U U6<|C6 1 [6,7,8,14,15] c U<|V3 λR c=>V8 _ U U6<|C6 1 [6,7,8,14,15] c U<|We (m':=a.length-(i+1)) om_ F (hn_ [6,7,8,14,15] U) ⟨i+1,k+1,⟨by omega,H,by rw[Tz,TM,So,l];simp[A]⟩,U,U,U⟩
  have A:LD b a i=false:=y;refine V3 λR c=>V8 _ U U6<|C6 1 [6,7,8,14,15] c U<|We (m':=a.length-(i+1)) om_ F (hn_ [6,7,8,14,15] U) ⟨i+1,k,⟨by omega,H,by rw[Tz,TM,So,l];simp[A]⟩,U,U,U⟩
 have x:i=a.length:=by
  have:¬ i<a.length:=by simpa using w
  omega
 refine U0 3 [4] U<|V6 U2<|⟨?_,U⟩;rw[x]at v l;unfold K1;rw[v,l,Vp];congr 1;rw[VS,Sr];simp;omega
def qo (t:Tri):List fE:=[oJ t 0,oJ t 1,oJ t 2]
def bR (tris:List Tri):List fE:=tris.flatMap qo
theorem CD (t:Tri)(a:k<3):(qo t)[k]?=some (oJ t k):=by
 rcases(by omega:k=0∨k=1∨k=2) with rfl|rfl|rfl <;> rfl
theorem qP (m:PZ)(i:Nat)(t:Tri):∀k,k<=3->(m.map (·.1)++(qo t).take k).Nodup->(F1 m i t k).map (·.1)=m.map (·.1)++(qo t).take k
|0,_,_=>by simp[F1]
|k+1,e,a=>by
  have h3:=CD t (show k<3 by omega);rw[SH,h3,TE,<- SX]at a⊢;have b:=(TX.1 a);have c:=qP m i t k om_ b.1;have d:ef (F1 m i t k) (oJ t k)=none:=by
   rw[cN,c];intro h;exact b.2.2 _ h _ al U
  rw[F1,kl d,SV,c];rfl
theorem qj {a:List Tri}{t:Tri}(h:a[n]?=some t):bR (a.take (n+1))=bR (a.take n)++qo t:=by
 unfold bR;rw[SH,h,List.flatMap_append];simp
theorem sR {a:List Tri}(h:(bR a).Nodup)(n:Nat):(bR (a.take n)).Nodup:=by
 have:bR a=bR (a.take n)++bR (a.drop n):=by
  unfold bR;rw[<- List.flatMap_append,Tf]
 rw[this]at h;exact(TX.1 h).1
theorem fT {a:List Tri}(h:(bR a).Nodup):∀n,n<=a.length->(yg a n).map (·.1)=bR (a.take n)
|0,_=>by simp[yg,bR]
|n+1,c=>by
  have ht:a[n]?=some a[n]:=ah om_;have h1:=sR h (n+1);rw[qj ht]at h1⊢;have b:=fT h n om_;rw[yg,ak,ht];show(F1 (yg a n) n a[n] 3).map (·.1)=_;rw[qP _ _ _ 3 (Sg _) (by rw[b];exact h1),b];rfl
theorem tw {a:List Tri}(h:(bR a).Nodup)(i:Nat)(t:Tri)(k:Nat)(b:a[i]?=some t)(d:k<3):ef (F1 (yg a i) i t k) (oJ t k)=none:=by
 have e:=(aT.1 b).1;have h1:=sR h (i+1);rw[qj b]at h1;have c:=fT h i om_;have h3:=CD t d;have h2:(bR (a.take i)++(qo t).take (k+1)).Nodup:=by
  refine List.Nodup.sublist (List.Sublist.append (List.Sublist.refl _) (List.take_sublist _ _)) h1
 rw[SH,h3,TE,<- SX]at h2;have h4:=TX.1 h2;rw[cN,qP _ _ _ k om_ (by rw[c];exact h4.1),c];intro h5;exact h4.2.2 _ h5 _ al U
theorem wI {B:List fE}{d:Int}:∀(k:Nat)(p:Int)(out r:List Int),jb B d k p out=some r->(∀z∈out,z∈B.map (·.1))->∀z∈r,z∈B.map (·.1)
|0,p,out,r,h,b=>by simp only[jb,S6]at h;subst h;exact b
|k+1,p,out,r,h,b=>by
  simp only[jb]at h;cases c:ef B p with
 |none=>rw[c]at h;cases h
 |some q =>
   rw[c]at h;simp only at h;split at h
   .cases h
   refine wI k q _ r h (λz a=>?_);rcases Sx.1 a with a|a
   .exact b z a
   rw[SD.1 a];exact Ut (f:=(·.1)) (gC c)
theorem wJ {B:List fE}{b:Int}:∀(k:Nat)(p:Int)(out r:List Int),jb B b k p out=some r->r.length=out.length+k
|0,p,out,r,h=>by simp only[jb,S6]at h;subst h;rfl
|k+1,p,out,r,h=>by
  simp only[jb]at h;cases a:ef B p with
 |none=>rw[a]at h;cases h
 |some q =>
   rw[a]at h;simp only at h;split at h
   .cases h
   have:=wJ k q _ r h;simp at this;omega
theorem Dg {c:List fE}:∀z∈yi c,z∈c.map (·.1):=by
 intro z a;unfold yi at a;cases b:F2 c with
|none=>rw[b]at a;simp at a
|some r =>
  rw[b]at a;simp only[TD]at a;unfold F2 at b;split at b
  .have:=wI _ _ _ _ b al z a;obtain⟨s,hs,rfl⟩:=Sn.1 this;exact Ut (f:=(·.1)) (TP.1 hs).1
  cases b
theorem KZ (a:List fE):(yi a).length<=a.length:=by
 unfold yi;cases b:F2 a with
|none=>simp
|some r =>
  unfold F2 at b;split at b
  .have:=wJ _ _ _ _ b;have h2:=TV (jJ a) a;simp at this⊢;omega
  cases b
def oh (n:Nat)(t:Tri):Prop:=t.1<n/\t.2.1<n/\t.2.2<n
theorem Ko {t:Tri}(h:oh n t):∀s∈qo t,0<=s.1/\s.1.toNat<n:=by
 obtain⟨h1,h2,h3⟩:=h;intro s hs;simp only[qo,Sw,Tp,UG]at hs;rcases hs with rfl|rfl|rfl <;> simp[oJ,FZ] <;> omega
theorem qm {a:List Tri}(h:∀t∈a,oh n t):∀s∈bR a,0<=s.1/\s.1.toNat<n:=by
 intro s hs;obtain⟨t,ht,hs⟩:=List.mem_flatMap.1 hs;exact Ko (h t ht) s hs
theorem nE (a:List Tri):(bR a).length=3*a.length:=by
 induction a with
|nil=>rfl
|cons t l b =>
  have:bR (t::l)=qo t++bR l:=rfl;rw[this,So,b];simp[qo];omega
def gd (tris:List Tri):List Nat:=(yi (bR tris)).map Int.toNat
theorem FI {a:List Tri}(h:∀t∈a,oh n t):∀z∈gd a,z<n:=by
 intro z b;obtain⟨y,hy,rfl⟩:=Sn.1 b;obtain⟨s,hs,rfl⟩:=Sn.1 (Dg y hy);exact(qm h s hs).2
theorem Bv {a:List Tri}(h:∀t∈a,oh n t):(yi (bR a)).map nU=(gd a).map aW:=by
 unfold gd;rw[Th];refine List.map_congr_left (λy hy=>?_);obtain⟨s,hs,rfl⟩:=Sn.1 (Dg y hy);have:=(qm h s hs).1;show nU s.1=aW s.1.toNat;unfold nU aW;rw[Int.toNat_of_nonneg this]
def JO (ks:List Int):List (Int × Value):=ks.map λz=>(z,.bool true)
def Rn (ks:List Int)(z:Int):List Int:=if z∈ks then ks else ks++[z]
theorem Kv (a:List Int):(JO a).length=a.length:=by simp[JO]
theorem yn:∀{ks:List Int}{z:Int},iY (JO ks) z (.bool true)=JO (Rn ks z)
|[],z=>by simp[JO,iY,Rn]
|k::ks,z=>by
  have a:=yn (ks:=ks) (z:=z);unfold JO at a⊢;simp only[S1,iY];by_cases e:k=z
  .subst e;simp[Rn]
  have b:¬ z=k:=λh=>e h.symm;rw[aF e,a];unfold Rn;by_cases h:z∈ks
  .simp[h]
  simp[h,b]
def NJ (ks:List Int)(t:Tri):Nat->List Int
|0=>ks
|k+1=>Rn (NJ ks t k) (FZ t k)
def wQ (tris:List Tri):Nat->List Int
|0=>[]
|n+1=>NJ (wQ tris n) (tris.getD n (0,0,0)) 3
theorem IN (t:Tri)(a:k<3):(jG t)[k]?=some (i_ (FZ t k)):=by
 rcases(by omega:k=0∨k=1∨k=2) with rfl|rfl|rfl <;> rfl
theorem FH {a:List Tri}(h:decide (yi (bR a)≠[])=true):0<(gd a).length:=by
 unfold gd;rw[au];exact S7.2 (RD h)
theorem Jn (a:List Tri):decide (yi (bR a)≠[])=decide (gd a≠[]):=by
 rw[S8];unfold gd;simp
def oq (pts:List Pt)(tris:List Tri):Bool:=decide (gd tris≠[]) && (decide ((wQ tris tris.length).length=pts.length) && K1 pts (gd tris))
theorem uu (C:Mem)(I:Tabs C)(x y:Value)(c:List Pt)(a:List Tri)(J:a≠[])(k:Sl C 2 x (c.map gK))(g:Sl C 3 y (a.map jG))(d:(bR a).Nodup)(l:∀t∈a,oh c.length t)(K:∀p∈c,QP 1 p)(z:a.length<=10000) :
  Gives cx.P 130 [.agg ⟨[x,y]⟩] C (.bool (oq c a)):=by
 obtain⟨V,W,rfl,L,X,_⟩:=id k;obtain⟨A2,c2,rfl,M,Y,_⟩:=id g;have Z:=mx_
 simp only[au]at k g L M⊢;refine V7 func130 55 U3 λw0=>V3 λR b=>Wi U6 λA=>C6 1 [1] b U<|G.freeze 0 U λ_ B e=>V3 λR b=>V1 (PtrTo.block (Mem.get e mup) _) U8<|Wz (yf _ _ _ a J g.m_ (tw d)) U7 (λaa _ _ N=>?_);obtain⟨n,rfl,O⟩:=N;refine C6 5 [1,3,4] b U<|U0 2 [1,3,18] U<|G.cd (λE=>?_) λE=>?_
 .exact absurd E dc_
 refine V3 λR b=>D.makeMap keyZ U U U U fl_ λf=>C6 1 [1,3,5] b U<|U1 1 U λR b=>V1 (PtrTo.block (Mem.get e mup) _) U8<|C6 2 [1,3,5,21,22,23] b U<|G.loop (λfr Q h o=>∃(i:Nat),(i<=a.length)/\fr=[(1,[],p_ A),(3,[],.map (some n)),(5,[],.map (some f)),(21,[],.slice A2 a.length c2),(22,[],i_ a.length),(23,[],i_ i)]/\h=[.obj f (bg keyZ.enc (JO (wQ a i)))]/\o=a.length-i) (hn_ [1,3,5,21,22,23] U) ⟨0,Sm _,U,U,U⟩ (λfr ab ac m _ q=>?_);obtain⟨i,hi,rfl,rfl,rfl⟩:=q;refine U0 1 [1,3,5,21,22,23,24] U<|G.cd (λr=>?_) λr=>?_
 .have u:i<a.length:=by simpa using r
  obtain⟨t,ht⟩:∃t,a[i]?=some t:=⟨a[i],ah u⟩;refine V3 λR b=>Wf g.m_ U10 om_ (by rw[Sh,ht];rfl:(a.map jG)[i]?=some (jG t)) fl_ λad S=>V1 S U8<|Wg U5 λb7=>Wa (j:=0) U12<|V5 [1,3,5,7,21,22,23] b U<|V3 λR b=>V9 ag U9<|C6 1 [1,3,5,21,22,23,27,28] b U<|WH 0 U<|G.loop (λfr Q h o=>∃(j:Nat),(j<=3)/\fr=[(1,[],p_ A),(3,[],.map (some n)),(5,[],.map (some f)),(21,[],.slice A2 a.length c2),(22,[],i_ a.length),(23,[],i_ i),(27,[],.agg ⟨jG t⟩),(28,[],i_ j)]/\h=[.obj f (bg keyZ.enc (JO (NJ (wQ a i) t j)))]/\o=3-j) (hn_ [1,3,5,21,22,23,27,28] U) ⟨0,Sm _,U,U,U⟩ (λfr ae af m B q=>?_);obtain⟨j,hj,rfl,rfl,rfl⟩:=q;refine U0 1 [1,3,5,21,22,23,27,28,29] U<|G.cd (λv=>?_) λv=>?_
  .have w:j<3:=by
    simp only[Sr]at v;omega
   refine V3 λR b=>W7 U11 (λ_=>⟨by omega,by omega,IN t w⟩) U2<|C6 1 [1,3,5,9,21,22,23,27,28] b U<|U1 2 U λR b=>D.mapUpdate keyZ (j:=0) U U U U U U U U U U kr_<|V5 [1,3,5,21,22,23,27,28] b U<|V3 λR b=>V8 _ U U6<|C6 1 [1,3,5,21,22,23,27,28] b U ?_;rw[yn];refine We (m':=3-(j+1)) om_ B (hn_ [1,3,5,21,22,23,27,28] U) ⟨j+1,om_,U,U,U⟩
  have w:j=3:=by
   simp only[SS]at v;omega
  subst w;refine V3 λR b=>V8 _ U U6<|C6 1 [1,3,5,21,22,23] b U<|Wk (L':=[.obj f (bg keyZ.enc (JO (wQ a (i+1))))]) (by rw[wQ,ak,ht];rfl)<|We (m':=a.length-(i+1)) om_ mup (hn_ [1,3,5,21,22,23] U) ⟨i+1,om_,U,U,U⟩
 have u:i=a.length:=by
  have:¬ i<a.length:=by simpa using r
  omega
 subst u;refine V3 λR b=>V1 (PtrTo.block (Mem.get e mup) _) U8<|V2 U6<|Ws (KX _ _ _ n (yg a a.length) (Mem.get O mup) (by rw[fT d _ (Sg _),Ss];exact d) (by rw[fT d _ (Sg _),Ss];exact λs hh=>(qm l s hh).1) (by have:=congrArg List.length (fT d _ (Sg _));rw[Ss,nE,au]at this;omega)) U7 fl_ (λai _ _ F=>?_);rw[fT d _ (Sg _),Ss]at F;obtain⟨bv,rfl,H⟩:=F;rw[Bv l]at H;refine C6 5 [1,5,10,11] b U<|Wt [(3,1)] U λR b=>V4 3 U<|XY keyZ.enc ag U U U U U U U U U<|V2 U6<|Wv U6 (λ_=>PtrTo.block (Mem.get e mup) _) U3<|V4 2 U<|Wr U8<|V2 U6<|Wv U6 (λ_=>PtrTo.block (Mem.get e mup) _) U3<|V2 U6<|Wo (λT=>(OL _ I.m_ _ _ bv c (gd a) k.m_ H.m_ (by exact FH (Vo.1 (show(decide (yi (bR a)≠[]) && _)=true/\True from T).1).1) (FI l) K (by have:=KZ (bR a);rw[nE]at this;unfold gd;rw[au];omega))) U9<|Wr U8<|C6 1 [2] b U<|V6 U2<|⟨?_,U⟩;have z:(((JO (wQ a a.length)).length:Int) == (c.length:Int))=decide ((wQ a a.length).length=c.length):=by
  rw[Kv,VS,T4,Sr];omega
 unfold oq;rw[<- Jn,<- z,<- Bool.and_assoc]
noncomputable def kP2:KeyP cx.P 34 (Str × Str):=R5 rfl rfl rfl dc_ dc_ rfl rfl kr_
def ptK (p:Pt):Str × Str:=(qtx p.1,qtx p.2)
theorem Ox {p q:Pt}(h:ptK p=ptK q):p=q:=by
 have h1:=gx (congrArg (·.1) h);have h2:=gx (congrArg (·.2) h);exact Prod.ext h1 h2
def Lb (l:List Pt):List ((Str × Str) × Value):=l.map λp=>(ptK p,.bool true)
theorem Dr {l:List Pt}{p:Pt}(h:p ∉ l):ef (Lb l) (ptK p)=none:=by
 rw[cN];unfold Lb;rw[Th];intro hm;obtain⟨q,a,b⟩:=Sn.1 hm;exact h (Ox b ▸ a)
theorem OX {l:List Pt}{p:Pt}(h:p ∉ l):iY (Lb l) (ptK p) (.bool true)=Lb (l++[p]):=by
 rw[kl (Dr h)];simp[Lb]
def pn (n:Nat)(X:Nat->Nat->Bool):Bool:=(List.range n).any λi=>(List.range i).any λk=>X i k
def Am (pts:List Pt)(tris:List Tri)(X:Nat->Nat->Bool):Int:=if tris=[] then 13 else if oq pts tris then 0 else if pn tris.length X then 26 else 25
structure MeshOk (pts:List Pt)(tris:List Tri):Prop where
 q:∀p∈pts,QP 1 p
 nd:pts.Nodup
 ins:∀t∈tris,oh pts.length t
 pos:∀t∈tris,0<dO (pts.getD t.1 (0,0)) (pts.getD t.2.1 (0,0)) (pts.getD t.2.2 (0,0))
 sides:(bR tris).Nodup
 lt:tris.length<=800
 lp:pts.length<=400
theorem qH {a:List Pt}(h:i<a.length):a[i]?=some (a.getD i (0,0)):=by
 rw[ak,ah h];rfl
theorem CU {a:List Pt}(h:i<a.length):a.getD i (0,0)∈a:=aJ (qH h)
def pR (t:Tri)(j:Nat):Nat:=if j=0 then t.1 else if j=1 then t.2.1 else t.2.2
theorem Qk (t:Tri)(j:Nat):FZ t j=(pR t j:Nat):=by
 unfold FZ pR;split
 .rfl
 split <;> rfl
theorem fK {t:Tri}(h:oh n t)(j:Nat):pR t j<n:=by
 obtain⟨h1,h2,h3⟩:=h;unfold pR;split
 .exact h1
 split <;> assumption
theorem Qq (q:Rat):decide (er q.num<=0)=!decide (0<q):=by
 have h1:=uQ q;have h2:q.num=0 ↔ q=0:=Va;rw[<- decide_not,S8];have h3:¬ 0<q ↔ (q<0∨q=0):=by grind
 rw[h3,<- h1,<- h2];rcases eD q.num with h|h|h <;> omega
theorem HV (C:Mem)(F:Tabs C)(H I:Value)(c:List Pt)(b:List Tri)(X:Nat->Nat->Bool)(r:Sl C 2 H (c.map gK))(x:Sl C 3 I (b.map jG))(d:MeshOk c b)
  (V:b≠[]->oq c b=false->∀D:Mem,C.le D->∀i k:Nat,i<b.length->k<i->Gives cx.P 131 [.agg ⟨[H,I]⟩,i_ i,i_ k] D (.bool (X i k))) :
  Gives cx.P 65 [.agg ⟨[H,I]⟩] C (i_ (Am c b X)):=by
 obtain⟨A1,c1,rfl,ae,ay,_⟩:=id r;obtain⟨A2,c2,rfl,ai,az,_⟩:=id x;have aA:=mx_
 have aB:=d.lt;have aC:=d.lp;simp only[au]at r x ae ai V⊢;refine V7 func65 105 U3 λw0=>V3 λR a=>Wi U6 λu=>C6 1 [1] a U<|G.freeze 0 U λ_ _ f=>U1 1 U λR a=>V1 (PtrTo.block (Mem.get f mup) _) U8<|C6 3 [1,12] a U<|G.cd (λy=>?_) λy=>?_
 .have h0:b=[]:=by
   have h:((b.length:Nat):Int)=0:=by simpa using y
   exact S9 om_
  exact U0 1 [2] U<|V6 U2<|⟨by unfold Am;rw[aK h0],U⟩
 have h0:b≠[]:=by
  intro e;rw[e]at y;exact absurd y dc_
 refine U1 1 U λR a=>V1 (PtrTo.block (Mem.get f mup) _) U8<|V4 4 U<|Wv U6 (λ_=>PtrTo.block (Mem.get f mup) _) U3<|V4 2 U<|Wy U8<|C6 1 [1,17] a U<|G.cd (λW=>?_) λW=>?_
 .exfalso;simp only[Uh,Sr]at W;omega
 refine V3 λR a=>XT kP2 U U U U fl_ λJ=>C6 1 [1,3] a U<|U1 1 U λR a=>V1 (PtrTo.block (Mem.get f mup) _) U8<|C6 2 [1,3,30,31,32] a U<|G.loop (λfr z g l=>∃(i:Nat),(i<=c.length)/\fr=[(1,[],p_ u),(3,[],.map (some J)),(30,[],.slice A1 c.length c1),(31,[],i_ c.length),(32,[],i_ i)]/\g=[.obj J (bg Fs (Lb (c.take i)))]/\l=c.length-i) (hn_ [1,3,30,31,32] U) ⟨0,Sm _,U,U,U⟩ (λfr aD aE m _ n=>?_);obtain⟨i,hi,rfl,rfl,rfl⟩:=n;refine U0 1 [1,3,30,31,32,33] U<|G.cd (λY=>?_) λY=>?_
 .have o:i<c.length:=by simpa using Y
  obtain⟨p,hp⟩:∃p,c[i]?=some p:=⟨c[i],ah o⟩;have A:=d.q p (aJ hp);have Z:p ∉ c.take i:=by
   intro hm;obtain⟨j,v⟩:=TR hm;rw[Tb]at v;split at v
   .rename_i aG;have h3:=(aT.1 v);have h4:=(aT.1 hp);have:=(List.getElem_inj d.nd).1 (h3.2.trans h4.2.symm);omega
   cases v
  have aj:Lb (c.take (i+1))=Lb (c.take i++[p]):=by rw[SH,hp];rfl
  refine V3 λR a=>Wf r.m_ U10 om_ (by rw[Sh,hp];rfl:(c.map gK)[i]?=some (gK p)) fl_ λaH ak=>V1 ak U8<|Wg U5 λb5=>Wa (j:=0) U12<|V5 [1,3,5,30,31,32] a U<|V3 λR a=>V9 ag U9<|Wc (iU _ F.m_ (qtx p.1) (qtx p.2) (by have:=aV A.1 dc_;omega) (by have:=aV A.2 dc_;omega)) U7 fl_<|C6 1 [1,3,5,30,31,32,38] a U<|G.cd (λK=>?_) λK=>?_
  .exfalso;rw[bx (A.1.le dc_),bx (A.2.le dc_)]at K;exact absurd K dc_
  refine U1 1 U λR a=>V9 ag U9<|XU kP2 af U U U U U U U U U (congrArg (mA (.bool false) false) (Dr Z)) U U<|V5 [1,3,5,30,31,32,41] a U<|G.cd (λaa=>?_) λaa=>?_
  .exact absurd aa dc_
  refine U1 1 U λR a=>V9 ag U9<|XM kP2 (j:=1) (key:=ptK p) U U U U U U U U U U<|V5 [1,3,30,31,32] a U<|V3 λR a=>V8 _ U U6<|C6 1 [1,3,30,31,32] a U<|WH 1 U<|Wk (L':=[.obj J (bg Fs (Lb (c.take (i+1))))]) (by rw[aj,<- OX Z];rfl)<|We (m':=c.length-(i+1)) om_ mup (hn_ [1,3,30,31,32] U) ⟨i+1,om_,U,U,U⟩
 refine U1 1 U λR a=>V1 (PtrTo.block (Mem.get f mup) _) U8<|C6 2 [1,46,47,48] a U<|G.dropAll<|G.loop (λfr z g l=>∃(i:Nat),(i<=b.length)/\fr=[(1,[],p_ u),(46,[],.slice A2 b.length c2),(47,[],i_ b.length),(48,[],i_ i)]/\g=[]/\l=b.length-i) (hn_ [1,46,47,48] U) ⟨0,Sm _,U,U,U⟩ (λfr aI aL m _ n=>?_);obtain⟨i,hi,rfl,rfl,rfl⟩:=n;refine U0 1 [1,46,47,48,49] U<|G.cd (λL=>?_) λL=>?_
 .have o:i<b.length:=by simpa using L
  obtain⟨t,ht⟩:∃t,b[i]?=some t:=⟨b[i],ah o⟩;have ab:=aJ ht;have s:=d.ins t ab;have al:=d.pos t ab;refine V3 λR a=>Wf x.m_ U10 om_ (by rw[Sh,ht];rfl:(b.map jG)[i]?=some (jG t)) fl_ λaM am=>V1 am U8<|Wg U5 λb7=>Wa (j:=0) U12<|V5 [1,7,46,47,48] a U<|V3 λR a=>V9 ag U9<|C6 1 [1,7,46,47,48,52,53] a U<|G.loop (λfr z g l=>∃(j:Nat),(j<=3)/\fr=[(1,[],p_ u),(7,[],p_ b7),(46,[],.slice A2 b.length c2),(47,[],i_ b.length),(48,[],i_ i),(52,[],.agg ⟨jG t⟩),(53,[],i_ j)]/\g=[.obj b7 (.cells ⟨jG t⟩ 65 (0,0))]/\l=3-j) (hn_ [1,7,46,47,48,52,53] U) ⟨0,Sm _,U,U,U⟩ (λfr aN aO m an n=>?_);obtain⟨j,v,rfl,rfl,rfl⟩:=n;refine U0 1 [1,7,46,47,48,52,53,54] U<|G.cd (λM=>?_) λM=>?_
  .have ao:j<3:=by
    simp only[Sr]at M;omega
   have aP:=fK s j;refine V3 λR a=>W7 U11 (λ_=>⟨by omega,by omega,(show(jG t)[((j:Nat):Int).toNat]?=some (i_ ((pR t j:Nat):Int)) from by rw[<- Qk];exact IN t ao)⟩) U2<|C6 1 [1,7,9,46,47,48,52,53] a U<|U1 5 U λR a=>Wv U6 (λ_=>PtrTo.block (Mem.get f mup) _) U3<|V4 2 U<|Wy U8<|V5 [1,7,46,47,48,52,53,64] a U<|G.cd (λac=>?_) λac=>?_
   .exfalso;simp only[Uh,Sr]at ac;omega
   refine V3 λR a=>V8 _ U U6<|C6 1 [1,7,46,47,48,52,53] a U<|We (m':=3-(j+1)) om_ an (hn_ [1,7,46,47,48,52,53] U) ⟨j+1,om_,U,U,U⟩
  clear M;refine Wn [0,1,2,3,4,5,6,7,8,9,10,11,12,13,14,15,16,17,18,19] [(18,1)] U kr_ λR hB a=>V2 U6<|V1 (PtrTo.block (Mem.get f mup) _) U8<|Wp (0) U9 k_ U2<|V9 ag U9<|Wf r.m_ U10 om_ (by rw[Sh,show(((t.1:Nat):Int)).toNat=t.1 from U,qH s.1];rfl:(c.map gK)[(((t.1:Nat):Int)).toNat]?=some (gK (c.getD t.1 (0,0)))) fl_ λaQ ap=>V1 ap U8<|V2 U6<|V1 (PtrTo.block (Mem.get f mup) _) U8<|Wp (1) U9 k_ U2<|V9 ag U9<|Wf r.m_ U10 om_ (by rw[Sh,show(((t.2.1:Nat):Int)).toNat=t.2.1 from U,qH s.2.1];rfl:(c.map gK)[(((t.2.1:Nat):Int)).toNat]?=some (gK (c.getD t.2.1 (0,0)))) fl_ λaR aq=>V1 aq U8<|V2 U6<|V1 (PtrTo.block (Mem.get f mup) _) U8<|Wp (2) U9 k_ U2<|V9 ag U9<|Wf r.m_ U10 om_ (by rw[Sh,show(((t.2.2:Nat):Int)).toNat=t.2.2 from U,qH s.2.2];rfl:(c.map gK)[(((t.2.2:Nat):Int)).toNat]?=some (gK (c.getD t.2.2 (0,0)))) fl_ λaS ar=>V1 ar U8<|Wo (λ_=>(pQ _ F.m_ (c.getD t.1 (0,0)) (c.getD t.2.1 (0,0)) (c.getD t.2.2 (0,0)) 1 dc_ dc_ (d.q _ (CU s.1)) (d.q _ (CU s.2.1)) (d.q _ (CU s.2.2)))) U9<|C6 1 [1,46,47,48,85] a U<|G.cd (λN=>?_) λN=>?_
  .exfalso;rw[Qq,SB al]at N;exact absurd N dc_
  refine V3 λR a=>V8 _ U U6<|C6 1 [1,46,47,48] a U<|G.dropAll<|We (m':=b.length-(i+1)) om_ mup (hn_ [1,46,47,48] U) ⟨i+1,om_,U,U,U⟩
 clear L;refine V3 λR a=>V1 (PtrTo.block (Mem.get f mup) _) U8<|Wc (uu _ F.m_ _ _ c b h0 r.m_ x.m_ d.sides d.ins d.q om_) U7 fl_<|V5 [1,88] a U<|G.cd (λO=>?_) λO=>?_
 .have w:oq c b=true:=O;exact U0 1 [2] U<|V6 U2<|⟨by unfold Am;rw[aF h0,aK w],U⟩
 have w:oq c b=false:=O;refine U1 1 U λR a=>V1 (PtrTo.block (Mem.get f mup) _) U8<|C6 2 [1,91,92] a U<|G.loop (λfr z g l=>∃(i:Nat),(i<=b.length/\pn i X=false)/\fr=[(1,[],p_ u),(91,[],i_ b.length),(92,[],i_ i)]/\g=[]/\l=b.length-i) (hn_ [1,91,92] U) ⟨0,⟨Sm _,U⟩,U,U,U⟩ (λfr aU aW m _ n=>?_);obtain⟨i,⟨aX,B⟩,rfl,rfl,rfl⟩:=n;refine U0 1 [1,91,92,93] U<|G.cd (λQ=>?_) λQ=>?_
 .have o:i<b.length:=by simpa using Q
  refine U0 2 [1,10,91,92] U<|U0 2 [1,10,91,92,95,96] U<|G.loop (λfr z g l=>∃(k:Nat),(k<=i/\(List.range k).any (λk=>X i k)=false)/\fr=[(1,[],p_ u),(10,[],i_ i),(91,[],i_ b.length),(92,[],i_ i),(95,[],i_ i),(96,[],i_ k)]/\g=[]/\l=i-k) (hn_ [1,10,91,92,95,96] U) ⟨0,⟨Sm _,U⟩,U,U,U⟩ (λfr aY aZ m av n=>?_);obtain⟨k,⟨a0,ad⟩,rfl,rfl,rfl⟩:=n;refine U0 1 [1,10,91,92,95,96,97] U<|G.cd (λS=>?_) λS=>?_
  .have E:k<i:=by simpa using S
   refine U0 2 [1,10,11,91,92,95,96] U<|V3 λR a=>V1 (PtrTo.block (Mem.get f mup) _) U8<|V4 2 U<|Wb (V h0 w _ mup i k o E) U7<|V5 [1,10,91,92,95,96,102] a U<|G.cd (λT=>?_) λT=>?_
   .have aw:X i k=true:=T;have hc:pn b.length X=true:=UM.2 ⟨i,SE.2 o,UM.2 ⟨k,SE.2 E,aw⟩⟩;exact U0 1 [2] U<|V6 U2<|⟨by unfold Am;rw[aF h0,w,aF dc_,aK hc],U⟩
   have ax:X i k=false:=T;refine V3 λR a=>V8 _ U U6<|C6 1 [1,10,91,92,95,96] a U<|We (m':=i-(k+1)) om_ av (hn_ [1,10,91,92,95,96] U) ⟨k+1,⟨by omega,by rw[Tz,List.any_append,ad];simp[ax]⟩,U,U,U⟩
  have E:k=i:=by
   have:¬ k<i:=by simpa using S
   omega
  subst E;refine V3 λR a=>V8 _ U U6<|C6 1 [1,91,92] a U<|We (m':=b.length-(k+1)) om_ mup (hn_ [1,91,92] U) ⟨k+1,⟨by omega,by unfold pn at B⊢;rw[Tz,List.any_append,B];simp[ad]⟩,U,U,U⟩
 have o:i=b.length:=by
  have:¬ i<b.length:=by simpa using Q
  omega
 refine U0 1 [2] U<|V6 U2<|⟨?_,U⟩;rw[o]at B;unfold Am;rw[aF h0,w,aF dc_,B];rfl
structure Good (pts:List Pt)(tris:List Tri):Prop where
 ok:MeshOk pts tris
 ne:tris≠[]
 whole:oq pts tris=true
structure MeshIn (C:Mem)(mv:Value)(pts:List Pt)(tris:List Tri):Prop where
 ex:∃v1 v2,mv=.agg ⟨[v1,v2]⟩/\Sl C 2 v1 (pts.map gK)/\Sl C 3 v2 (tris.map jG)
theorem MeshIn.mono {C D:Mem}{a:Value}{b:List Pt}{c:List Tri}(h:MeshIn C a b c)(d:C.le D):MeshIn D a b c:=by
 obtain⟨e,f,h1,h2,h3⟩:=h.ex;exact⟨e,f,h1,h2.mono d,h3.mono d⟩
theorem MeshIn.m_ {D:Mem}{a:Value}{b:List Pt}{c:List Tri}(h:MeshIn C a b c)(d:C.le D:=by exact mup):MeshIn D a b c:=MeshIn.mono h d
def nox:Nat->Nat->Bool:=λ_ _=>false
theorem ic (C:Mem)(f:Tabs C)(d:Value)(a:List Pt)(b:List Tri)(g:MeshIn C d a b)(c:Good a b):Gives cx.P 65 [d] C (i_ 0):=by
 obtain⟨i,j,rfl,h1,h2⟩:=g.ex;have h:=HV C f i j a b nox h1 h2 c.ok (λ_ h3=>by rw[c.whole]at h3;cases h3);have e:Am a b nox=0:=by unfold Am;rw[aF c.ne,aK c.whole]
 rwa [e]at h
def cor (pts:List Pt)(t:Tri)(j:Nat):Pt:=pts.getD (pR t j) (0,0)
def AH (pts:List Pt)(p:Pt)(t:Tri):Bool:=decide (0<=dO (cor pts t 0) (cor pts t 1) p) && decide (0<=dO (cor pts t 1) (cor pts t 2) p) && decide (0<=dO (cor pts t 2) (cor pts t 0) p)
def lj (pts:List Pt)(tris:List Tri)(p:Pt):List Nat:=(List.range tris.length).filter λi=>AH pts p (tris.getD i (0,0,0))
theorem oC {a:List Pt}{b:List Tri}(h:MeshOk a b){t:Tri}(c:t∈b)(j:Nat):QP 1 (cor a t j):=h.q _ (CU (fK (h.ins t c) j))
theorem QP.le {k m:Nat}{p:Pt}(h:QP k p)(a:k<=m):QP m p:=⟨h.1.le a,h.2.le a⟩
theorem ua (C:Mem)(d:Value)(a:List Pt)(b:List Tri)(f:MeshIn C d a b)(g:MeshOk a b)(i:Nat)(t:Tri)(e:b[i]?=some t) :
  Gives cx.P 68 [d,i_ i] C (Pu (cor a t 0) (cor a t 1) (cor a t 2)):=by
 obtain⟨h,j,rfl,h1,h2⟩:=f.ex;have c:=g.ins t (aJ e);exact Fz C h j a b i t _ _ _ h1 h2 e (qH c.1) (qH c.2.1) (qH c.2.2)
theorem Hc {p:Pt}(h:QP k p)(a:k<=1000):(qtx p.1).length<=999998/\(qtx p.2).length<=999998:=by
 have h1:=aV (h.1.le (UA k)) om_;have h2:=aV (h.2.le (UA k)) om_;exact⟨by omega,by omega⟩
def PtR (p:Pt):Prop:=aS (qtx p.1)=true/\aS (qtx p.2)=true
theorem iT (C:Mem)(c:Tabs C)(p:Pt)(a:QP 23 p)(b:PtR p):Gives cx.P 66 [ptV p] C (i_ 0):=by
 have h:=iU C c (qtx p.1) (qtx p.2) (Hc a dc_).1 (Hc a dc_).2;rw[b.1,b.2]at h;exact h
theorem mB (C:Mem)(f:Tabs C)(z:Value)(c:List Pt)(a:List Tri)(p:Pt)(A:MeshIn C z c a)(B:Good c a)(E:QP 23 p)(g:PtR p) :
  Pur cx.P 18 [z,ptV p] C λu D=>∃v,u=.tuple #[v,i_ 0]/\Sl D 1 v ((lj c a p).map aW):=by
 have d:=B.ok;have V:=d.lt;have W:=mx_
 have h:=A;obtain⟨X,Y,rfl,h1,h2⟩:=id A.ex;obtain⟨Z,c1,rfl,aa,ab,_⟩:=id h1;obtain⟨A2,c2,rfl,ac,ad,_⟩:=id h2;simp only[au]at h1 h2 h⊢;refine V7 func18 34 U3 λw0=>V3 λR b=>Wi U6 λM=>Wi U6 λN=>C6 2 [2,3] b U<|G.freeze 1 U λ_ _ k=>G.freeze 0 U λ_ _ F=>V3 λR b=>V1 (PtrTo.block (Mem.get k mup) _) U8<|Wb (ic _ f.m_ _ c a h.m_ B) U7<|C6 1 [2,3,6] b U<|U0 2 [2,3,6,12] U<|G.cd (λH=>?_) λH=>?_
 .exact absurd H dc_
 refine V3 λR b=>V1 (PtrTo.block (Mem.get F mup) _) U8<|Wb (iT _ f.m_ p E g) U7<|C6 1 [2,3,16] b U<|G.cd (λI=>?_) λI=>?_
 .exact absurd I dc_
 refine U0 1 [2,3,7] U<|U1 1 U λR b=>V1 (PtrTo.block (Mem.get k mup) _) U8<|C6 2 [2,3,7,19,20] b U<|G.nilArr 3 1<|G.loop (λfr C' J O=>∃(i:Nat)(out:List Nat)(w:Value),(i<=a.length/\out=(List.range i).filter (λi=>AH c p (a.getD i (0,0,0))))/\fr=[(2,[],p_ M),(3,[],p_ N),(7,[],w),(19,[],i_ a.length),(20,[],i_ i)]/\J=[.arr w 3 1 out.length (out.map aW).flatten]/\O=a.length-i) (hn_ [2,3,7,19,20] U) ⟨0,[],_,⟨Sm _,U⟩,U,U,U⟩ (λfr ae af m _ Q=>?_);obtain⟨i,out,w,⟨hi,e⟩,rfl,rfl,rfl⟩:=Q;refine U0 1 [2,3,7,19,20,21] U<|G.cd (λl=>?_) λl=>?_
 .have n:i<a.length:=by simpa using l
  obtain⟨t,ht⟩:∃t,a[i]?=some t:=⟨a[i],ah n⟩;have o:=aJ ht;have K:a.getD i (0,0,0)=t:=by rw[ak,ht];rfl
  have ag:out.length<=i:=by
   rw[e];exact Su (TV _ _) al
  refine U0 2 [2,3,7,8,19,20] U<|Wn [0,1,2,3,4] [(2,1),(4,1)] U kr_ λR hB b=>V1 (PtrTo.block (Mem.get k mup) _) U8<|V2 U6<|WC (λ_=>(ua _ _ c a h.m_ d i t ht)) U9<|V1 (PtrTo.block (Mem.get F mup) _) U8<|Wo (λ_=>(Ik _ f.m_ (cor c t 0) (cor c t 1) (cor c t 2) p 23 dc_ dc_ ((oC d o 0).le dc_) ((oC d o 1).le dc_) ((oC d o 2).le dc_) E)) U9<|V5 [2,3,7,8,19,20,27] b U<|G.cd (λq=>?_) λq=>?_
  .have s:AH c p t=true:=q;have x:(List.range (i+1)).filter (λi=>AH c p (a.getD i (0,0,0)))=out++[i]:=by rw[Tz,TM,<- e,List.filter_cons,K,s];rfl
   refine U1 2 U λR b=>Wq [aW i] U12 λai _ _ S=>D.append (j:=0) U11 S U ax (by simp only[Sk];omega) fl_ λL=>C6 1 [2,3,7,19,20] b U<|V3 λR b=>V8 _ U U6<|C6 1 [2,3,7,19,20] b U<|Wk (L':=[.arr L 3 1 (out++[i]).length ((out++[i]).map aW).flatten]) (by simp[aW])<|We (m':=a.length-(i+1)) om_ mup (hn_ [2,3,7,19,20] U) ⟨i+1,out++[i],L,⟨by omega,x.symm⟩,U,U,U⟩
  have s:AH c p t=false:=q;have x:(List.range (i+1)).filter (λi=>AH c p (a.getD i (0,0,0)))=out:=by rw[Tz,TM,<- e,List.filter_cons,K,s];simp
  refine V3 λR b=>V8 _ U U6<|C6 1 [2,3,7,19,20] b U<|We (m':=a.length-(i+1)) om_ mup (hn_ [2,3,7,19,20] U) ⟨i+1,out,w,⟨by omega,x.symm⟩,U,U,U⟩
 have n:i=a.length:=by
  have:¬ i<a.length:=by simpa using l
  omega
 refine U0 3 [4,5] U<|G.freezeArr 0 (out.map aW) U2 (by intro r g;obtain⟨y,_,rfl⟩:=Sn.1 g;rfl) al λCg hg T=>Wd (G.dropAll (Wu U3 ?_));refine⟨U,_,U, ?_⟩;rw[n]at e;unfold lj;rw[<- e];exact T
theorem rO (C:Mem)(g:Tabs C)(d:Value)(a:List Pt)(b:List Tri)(p:Pt)(e:MeshIn C d a b)(h:Good a b)(i:QP 23 p)(j:PtR p) :
  Gives cx.P 117 [d,ptV p] C (.tuple #[.bool (decide (lj a b p≠[])),i_ 0]):=by
 have k:=e;obtain⟨n,o,rfl,h1,h2⟩:=id e.ex;refine V7 func117 18 U3 λw0=>V3 λR c=>Wi U6 λq=>Wi U6 λr=>C6 2 [2,3] c U<|V3 λR c=>V9 af U9<|V9 ag U9<|Wz (mB _ g.m_ _ a b p k.m_ h i j) U7 (λs _ _ l=>?_);obtain⟨t,rfl,m⟩:=l;obtain⟨u,v,f,_⟩:=id m;rw[au]at f;subst f;refine C6 5 [6,7] c U<|U0 6 [4,5] U<|Wd (G.dropAll (Wu U3 ?_));refine⟨?_,U⟩;have:decide (((lj a b p).length:Int) > 0)=decide (lj a b p≠[]):=by
  rw[S8,<- S7];omega
 rw[<- this]
theorem Bn (C:Mem)(j:Tabs C)(d:Value)(c:List Pt)(b:List Tri)(i:Nat)(e:MeshIn C d c b)(k:Good c b)(l:i<b.length) :
  Gives cx.P 69 [d,i_ i] C (i_ 0):=by
 have f:=e;obtain⟨m,n,rfl,h1,h2⟩:=id e.ex;obtain⟨A2,c2,rfl,o,p,_⟩:=id h2;simp only[au]at h1 h2 f⊢;refine V7 func69 20 U3 λw0=>V3 λR a=>Wi U6 λq=>C6 1 [1,2] a U<|V3 λR a=>V9 ag U9<|Wb (ic _ j.m_ _ c b f.m_ k) U7<|C6 1 [1,2,5] a U<|U0 2 [1,2,5,9] U<|G.cd (λg=>?_) λg=>?_
 .exact absurd g dc_
 refine U1 5 U λR a=>V9 ag U9<|V4 2 U<|Wy U8<|V5 [19] a U<|G.cd (λh=>?_) λh=>?_
 .exfalso;simp only[Uh,Sr]at h;omega
 exact U0 1 [4] U<|V6 U2<|⟨U,U⟩
def wgt (pts:List Pt)(t:Tri)(p:Pt)(j:Nat):Rat:=dO p (cor pts t ((j+1) % 3)) (cor pts t ((j+2) % 3)) / dO (cor pts t 0) (cor pts t 1) (cor pts t 2)
theorem kp {a:List Pt}{b:List Tri}(c:MeshOk a b){t:Tri}(d:t∈b):dO (cor a t 0) (cor a t 1) (cor a t 2)≠0:=by
 have h:=c.pos t d;intro e;have f:dO (a.getD t.1 (0,0)) (a.getD t.2.1 (0,0)) (a.getD t.2.2 (0,0))=0:=e;rw[f]at h;exact absurd h dc_
theorem xp (C:Mem)(g:Tabs C)(x:Value)(c:List Pt)(h:List Tri)(p:Pt)(i:Nat)(t:Tri)(y:MeshIn C x c h)(z:Good c h)(l:QP 23 p)(O:PtR p)(o:h[i]?=some t)(q:∀j,QB 22 (wgt c t p j)) :
  Gives cx.P 19 [x,i_ i,ptV p] C (.tuple #[.agg ⟨[ae (qtx (wgt c t p 0)),ae (qtx (wgt c t p 1)),ae (qtx (wgt c t p 2))]⟩,i_ 0]):=by
 have r:=z.ok;have A:=aJ o;have Q:=(aT.1 o).1;have B:=y;obtain⟨v1,v2,rfl,h1,h2⟩:=id y.ex;have e:=λj=>(oC r A j).le (show 1<=23 by decide);have s:=kp r A;have u:∀a b,QP 23 a->QP 23 b->QB 189 (dO p a b):=λa b S T=>(BD l S T).le dc_;have v:QB 189 (dO (cor c t 0) (cor c t 1) (cor c t 2)):=(BD (e 0) (e 1) (e 2)).le dc_;refine V7 func19 69 U3 λw0=>V3 λR d=>Wi U6 λb3=>Wi U6 λV=>Wg U5 λD=>C6 1 [1,3,5,6] d U<|G.freeze 2 U λ_ _ E=>G.freeze 1 U λ_ _ n=>V3 λR d=>V1 (PtrTo.block (Mem.get E mup) _) U8<|V2 U6<|Wb (Bn _ g.m_ _ c h i B.m_ z Q) U7<|C6 1 [1,3,5,6,8] d U<|U0 2 [1,3,5,6,8,18] U<|G.cd (λF=>?_) λF=>?_
 .exact absurd F dc_
 refine V3 λR d=>V1 (PtrTo.block (Mem.get n mup) _) U8<|Wb (iT _ g.m_ p l O) U7<|C6 1 [1,3,5,6,23] d U<|G.cd (λH=>?_) λH=>?_
 .exact absurd H dc_
 refine V3 λR d=>V1 (PtrTo.block (Mem.get E mup) _) U8<|V2 U6<|Wb (ua _ _ c h B.m_ r i t o) U7<|Wg U5 λW=>Wa (j:=0) U12<|V5 [5,6,9] d U<|G.freeze 0 U λ_ _ f=>V3 λR d=>Wg U5 λI=>V5 [5,6,9,10] d U<|U0 1 [5,6,9,10,28] U<|G.loop (λfr C' X Y=>∃(j:Nat),(j<=3)/\fr=[(5,[],p_ V),(6,[],p_ D),(9,[],p_ W),(10,[],p_ I),(28,[],i_ j)]/\X=[.obj I (.cells ⟨(List.range 3).map λk=>if k<j then ae (qtx (wgt c t p k)) else ae []⟩ 61 (0,0)),.obj D (.cells ⟨[ae [],ae [],ae []]⟩ 61 (0,0))]/\Y=3-j) (hn_ [5,6,9,10,28] U) ⟨0,Sm _,U,U,U⟩ (λfr aa ab m _ Z=>?_);obtain⟨j,hj,rfl,rfl,rfl⟩:=Z;refine U0 1 [5,6,9,10,28,29] U<|G.cd (λw=>?_) λw=>?_
 .have J:j<3:=by
   simp only[Sr]at w;omega
  rcases(by omega:j=0∨j=1∨j=2) with rfl|rfl|rfl
  .refine U0 2 [5,6,9,10,11,28] U<|Wn [0,1,2,3,4,5,6,7,8,9,10,11,12,13,14,15,16,17,18,19,20,21,22,23,24,25] [(12,1),(19,1),(20,1)] U kr_ λR K d=>V2 U6<|V1 (PtrTo.block (Mem.get n mup) _) U8<|V2 U6<|V8 _ U U6<|W9 U6 om_ om_ U2<|Wp (_) U9 k_ U2<|V1 (bkT f 2) U8<|V2 U6<|V8 _ U U6<|W9 U6 om_ om_ U2<|Wp (_) U9 k_ U2<|V1 (bkT f 2) U8<|Wo (λ_=>(lH _ g.m_ p (cor c t ((0+1) % 3)) (cor c t ((0+2) % 3)) 23 dc_ dc_ l (e _) (e _))) U9<|Wp (0) U9 k_ U2<|V1 (bkT f 2) U8<|Wp (2) U9 k_ U2<|V1 (bkT f 2) U8<|Wp (4) U9 k_ U2<|V1 (bkT f 2) U8<|Wo (λ_=>(lH _ g.m_ (cor c t 0) (cor c t 1) (cor c t 2) 23 dc_ dc_ (e 0) (e 1) (e 2))) U9<|Wo (λ_=>(iu _ g.m_ _ _ 189 dc_ dc_ (u _ _ (e _) (e _)) v s)) U9<|V4 3 U<|Wp (_) U9 k_ U2<|Wa (j:=0) U12<|V5 [5,6,9,10,11,28] d U<|U1 1 U λR d=>Wp (_) U9 k_ U2<|V9 ag U9<|Wb (uI _ g.m_ (wgt c t p 0) (q 0)) U7<|C6 5 [5,6,9,10,13,28] d U<|U0 2 [5,6,9,10,13,28,64] U<|G.cd (λL=>?_) λL=>?_
   .exact absurd L dc_
   refine V3 λR d=>V8 _ U U6<|C6 1 [5,6,9,10,28] d U<|We (m':=2) om_ mup (hn_ [5,6,9,10,28] U) ⟨1,by decide,U,U,U⟩
  .refine U0 2 [5,6,9,10,11,28] U<|Wn [0,1,2,3,4,5,6,7,8,9,10,11,12,13,14,15,16,17,18,19,20,21,22,23,24,25] [(12,1),(19,1),(20,1)] U kr_ λR K d=>V2 U6<|V1 (PtrTo.block (Mem.get n mup) _) U8<|V2 U6<|V8 _ U U6<|W9 U6 om_ om_ U2<|Wp (_) U9 k_ U2<|V1 (bkT f 2) U8<|V2 U6<|V8 _ U U6<|W9 U6 om_ om_ U2<|Wp (_) U9 k_ U2<|V1 (bkT f 2) U8<|Wo (λ_=>(lH _ g.m_ p (cor c t ((1+1) % 3)) (cor c t ((1+2) % 3)) 23 dc_ dc_ l (e _) (e _))) U9<|Wp (0) U9 k_ U2<|V1 (bkT f 2) U8<|Wp (2) U9 k_ U2<|V1 (bkT f 2) U8<|Wp (4) U9 k_ U2<|V1 (bkT f 2) U8<|Wo (λ_=>(lH _ g.m_ (cor c t 0) (cor c t 1) (cor c t 2) 23 dc_ dc_ (e 0) (e 1) (e 2))) U9<|Wo (λ_=>(iu _ g.m_ _ _ 189 dc_ dc_ (u _ _ (e _) (e _)) v s)) U9<|V4 3 U<|Wp (_) U9 k_ U2<|Wa (j:=0) U12<|V5 [5,6,9,10,11,28] d U<|U1 1 U λR d=>Wp (_) U9 k_ U2<|V9 ag U9<|Wb (uI _ g.m_ (wgt c t p 1) (q 1)) U7<|C6 5 [5,6,9,10,13,28] d U<|U0 2 [5,6,9,10,13,28,64] U<|G.cd (λM=>?_) λM=>?_
   .exact absurd M dc_
   refine V3 λR d=>V8 _ U U6<|C6 1 [5,6,9,10,28] d U<|We (m':=1) om_ mup (hn_ [5,6,9,10,28] U) ⟨2,by decide,U,U,U⟩
  refine U0 2 [5,6,9,10,11,28] U<|Wn [0,1,2,3,4,5,6,7,8,9,10,11,12,13,14,15,16,17,18,19,20,21,22,23,24,25] [(12,1),(19,1),(20,1)] U kr_ λR K d=>V2 U6<|V1 (PtrTo.block (Mem.get n mup) _) U8<|V2 U6<|V8 _ U U6<|W9 U6 om_ om_ U2<|Wp (_) U9 k_ U2<|V1 (bkT f 2) U8<|V2 U6<|V8 _ U U6<|W9 U6 om_ om_ U2<|Wp (_) U9 k_ U2<|V1 (bkT f 2) U8<|Wo (λ_=>(lH _ g.m_ p (cor c t ((2+1) % 3)) (cor c t ((2+2) % 3)) 23 dc_ dc_ l (e _) (e _))) U9<|Wp (0) U9 k_ U2<|V1 (bkT f 2) U8<|Wp (2) U9 k_ U2<|V1 (bkT f 2) U8<|Wp (4) U9 k_ U2<|V1 (bkT f 2) U8<|Wo (λ_=>(lH _ g.m_ (cor c t 0) (cor c t 1) (cor c t 2) 23 dc_ dc_ (e 0) (e 1) (e 2))) U9<|Wo (λ_=>(iu _ g.m_ _ _ 189 dc_ dc_ (u _ _ (e _) (e _)) v s)) U9<|V4 3 U<|Wp (_) U9 k_ U2<|Wa (j:=0) U12<|V5 [5,6,9,10,11,28] d U<|U1 1 U λR d=>Wp (_) U9 k_ U2<|V9 ag U9<|Wb (uI _ g.m_ (wgt c t p 2) (q 2)) U7<|C6 5 [5,6,9,10,13,28] d U<|U0 2 [5,6,9,10,13,28,64] U<|G.cd (λN=>?_) λN=>?_
  .exact absurd N dc_
  refine V3 λR d=>V8 _ U U6<|C6 1 [5,6,9,10,28] d U<|We (m':=0) om_ mup (hn_ [5,6,9,10,28] U) ⟨3,by decide,U,U,U⟩
 have J:j=3:=by
  simp only[SS]at w;omega
 subst J;refine V3 λR d=>V9 ag U9<|Wa (j:=1) U12<|C6 1 [6,7] d U<|Wd (Xf ag U5 ?_);exact⟨U,U⟩
end Go.Proofs.YtfjcldheldflbaaGreatDoor
