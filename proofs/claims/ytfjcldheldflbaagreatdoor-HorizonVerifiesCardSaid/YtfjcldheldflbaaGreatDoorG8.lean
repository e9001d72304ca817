import Derived.Test.YtfjcldheldflbaaGreatDoorG7
import Derived.Test.YtfjcldheldflbaaGreatDoorProg
set_option maxHeartbeats 4000000
namespace Go.Proofs.YtfjcldheldflbaaGreatDoor
open Go.Proofs.Tryz
open Go Go.Jog
set_option maxRecDepth 100000
variable {C:Mem}{cyc:List Nat}{i k n:Nat}{q:Rat}{s:Str}
theorem kM {m:Nat}(h:n<B9 ^ m)(a:m<=88):n<BP ^ 200:=by
 rw[Qd];rw[pow9]at h;exact TL h (Tb (n:=10) (i:=9*m) (j:=800) dc_ om_)
theorem BA (C:Mem)(s:Str)(b:9<s.length):Gives cx.P 107 [ag s] C (.tuple #[i_ 0,i_ 0,.bool false]):=by
 refine Wy func107 57 U3 λw0=>U0 3 [0,2] U<|U0 3 [0,2,9] U<|G.cd (λa=>?_) λa=>?_
 .refine U0 3 [2,3,4] U<|WE (G.dropAll (Xj U4 ?_));exact⟨U,U⟩
 exfalso;have h:¬ (9:Int)<((s.length:Nat):Int):=SJ a;omega
theorem pI (C:Mem)(q:Rat):Gives cx.P 107 [ag (qtx q)] C (.tuple #[i_ (if (qtx q).length<=9 then q.num else 0),i_ (if (qtx q).length<=9 then ((q.den:Nat):Int) else 0),.bool (decide ((qtx q).length<=9))]):=by
 by_cases h:(qtx q).length<=9
 .rw[aL h,aL h,S4 h];have h2:=FO C (decide (q.num<0)) (bi q.num.natAbs) (mY q.den) (iQ _) (oh _) (DX _) h;unfold ND at h2;rw[(bB _).2,mX]at h2;have e:sgZ (decide (q.num<0)) q.num.natAbs=q.num:=by
   unfold sgZ;by_cases h:q.num<0
   .rw[S4 h,aL rfl];omega
   rw[Te h,aF dc_];omega
  rw[e]at h2;exact h2
 rw[aF h,aF h,Te h];exact BA C _ om_
theorem pe (h:(qtx q).length<=9):q.num.natAbs<1000000000/\q.den<1000000000:=by
 refine lE ?_;unfold DP Nq;unfold qtx at h;rw[SP,SP]at h;have h2:((mY q.den).getD []).length<=(dy (mY q.den)).length:=by
  cases mY q.den with
 |none=>exact SH _
 |some b=>simp[dy]
 rw[S4 om_,S4 om_];rfl
theorem pk (C:Mem)(q:Rat)(a:(qtx q).length<1000000):Gives cx.P 109 [ag (qtx q)] C (.tuple #[ag (txt q.num),ag (txt ((q.den:Nat):Int))]):=by
 have h:=yj C (qtx q) a
 rwa [nh,Bh,<- dh]at h
theorem kb (C:Mem)(f:Tabs C)(a b:Rat)(k:Nat)(l:0<k)(u:k<=40)(d:QB k a)(e:QB k b):Gives cx.P 49 [ag (qtx a),ag (qtx b)] C (ag (qtx (a+b))):=by
 have v:=aV d l;have w:=aV e l;have p:=ff a;have q:=ff b;have m:0<a.den*b.den:=Va p q;refine Wy func49 61 U3 λw0=>U0 1 [0,1] U<|U1 1 U λR c=>WD (pI _ a) U7<|C6 7 [0,1,5,6,7] c U<|U0 1 [0,1,5,6,21] U<|G.cut (λfr x r s=>(True)/\fr=[(0,[],ag (qtx a)),(1,[],ag (qtx b))]/\r=[]) ?_ (λfr _ y s _ t=>?_)
 .refine G.cd (λn=>?_) λn=>?_
  .have g:=aT n;rw[aL g,aL g];have h:=pe g;refine U1 1 U λR c=>WD (pI _ b) U7<|C6 7 [0,1,5,6,8,9,10] c U<|U0 1 [0,1,5,6,8,9,28] U<|G.cd (λo=>?_) λo=>?_
   .have i:=aT o;rw[aL i,aL i];have j:=pe i;have z:=kh h.1 j.2;have A:=kh j.1 h.2;have B:=mA h.2 j.2;exact U1 2 U λR c=>Wz _ U U6<|Wv 2 U<|Wz _ U U6<|Wz _ U U6<|Wv 2 U<|Wz (((a.den*b.den:Nat):Int)) (Tc _ _).symm U6<|WC (tI _ f.m_ _ _ m om_ om_) U7 fl_<|C6 1 [4] c U<|Wx U2<|⟨by rw[fc],U⟩
   refine WJ 0 l_ (hn_ [0,1] U) ⟨trivial,U,U⟩
  refine WJ 0 l_ (hn_ [0,1] U) ⟨trivial,U,U⟩
 obtain⟨_,rfl,rfl⟩:=t;exact U1 1 U λR c=>WC (pk _ a om_) U7 fl_<|C6 5 [1,11,12] c U<|U1 1 U λR c=>WC (pk _ b om_) U7 fl_<|C6 5 [11,12,13,14] c U<|U1 2 U λR c=>WC (gc _ f.m_ _ _ (kM d.1 om_) (kM (jK e) om_)) U7 fl_<|Wv 2 U<|WC (gc _ f.m_ _ _ (kM e.1 om_) (kM (jK d) om_)) U7 fl_<|WC (um _ f.m_ _ _ (kM (cR d.1 (jK e)) om_) (kM (cR e.1 (jK d)) om_)) U7 fl_<|Wv 2 U<|WC (gc _ f.m_ _ _ (kM (jK d) om_) (kM (jK e) om_)) U7 fl_<|WC (lC _ f.m_ _ _ (kM (TD (Vh _ _) (uG (cR d.1 (jK e)) (cR e.1 (jK d)))) om_) (kM (cR (jK d) (jK e)) om_) (by rw[<- Tc];omega)) U7 fl_<|C6 1 [4] c U<|Wx U2<|⟨by rw[fc,<- Tc,pu m],U⟩
theorem KL (C:Mem)(f:Tabs C)(a b:Rat)(k:Nat)(i:0<k)(u:k<=40)(d:QB k a)(e:QB k b):Gives cx.P 153 [ag (qtx a),ag (qtx b)] C (ag (qtx (a*b))):=by
 have v:=aV d i;have w:=aV e i;have p:=ff a;have q:=ff b;have j:0<a.den*b.den:=Va p q;refine Wy func153 53 U3 λw0=>U0 1 [0,1] U<|U1 1 U λR c=>WD (pI _ a) U7<|C6 7 [0,1,5,6,7] c U<|U0 1 [0,1,5,6,21] U<|G.cut (λfr x r s=>(True)/\fr=[(0,[],ag (qtx a)),(1,[],ag (qtx b))]/\r=[]) ?_ (λfr _ y s _ t=>?_)
 .refine G.cd (λl=>?_) λl=>?_
  .have g:=aT l;rw[aL g,aL g];have m:=pe g;refine U1 1 U λR c=>WD (pI _ b) U7<|C6 7 [0,1,5,6,8,9,10] c U<|U0 1 [0,1,5,6,8,9,28] U<|G.cd (λn=>?_) λn=>?_
   .have h:=aT n;rw[aL h,aL h];have o:=pe h;have z:=Dd m.1 o.1;have A:=mA m.2 o.2;exact U1 2 U λR c=>Wz _ U U6<|Wv 2 U<|Wz (((a.den*b.den:Nat):Int)) (Tc _ _).symm U6<|WC (tI _ f.m_ _ _ j om_ om_) U7 fl_<|C6 1 [4] c U<|Wx U2<|⟨by rw[fb],U⟩
   refine WJ 0 l_ (hn_ [0,1] U) ⟨trivial,U,U⟩
  refine WJ 0 l_ (hn_ [0,1] U) ⟨trivial,U,U⟩
 obtain⟨_,rfl,rfl⟩:=t;exact U1 1 U λR c=>WC (pk _ a om_) U7 fl_<|C6 5 [1,11,12] c U<|U1 1 U λR c=>WC (pk _ b om_) U7 fl_<|C6 5 [11,12,13,14] c U<|U1 2 U λR c=>WC (gc _ f.m_ _ _ (kM d.1 om_) (kM e.1 om_)) U7 fl_<|Wv 2 U<|WC (gc _ f.m_ _ _ (kM (jK d) om_) (kM (jK e) om_)) U7 fl_<|WC (lC _ f.m_ _ _ (kM (cR d.1 e.1) om_) (kM (cR (jK d) (jK e)) om_) (by rw[<- Tc];omega)) U7 fl_<|C6 1 [4] c U<|Wx U2<|⟨by rw[fb,<- Tc,pu j],U⟩
theorem CP (C:Mem)(e:Tabs C)(a b:Rat)(k:Nat)(c:0<k)(f:k<=40)(g:QB k a)(d:QB k b):Gives cx.P 84 [ag (qtx a),ag (qtx b)] C (ag (qtx (a-b))):=by
 have i:=aV d c;exact Wy func84 9 U3 λw0=>U0 1 [0,1] U<|U1 2 U λR h=>WC (AF _ b om_) U7 fl_<|WD (kb _ e.m_ a (-b) k c f g (eQ d)) U7<|C6 1 [4] h U<|Wx U2<|⟨by rw[VW],U⟩
theorem uU (q:Rat):q.num<0 ↔ q<0:=by
 rw[Rat.lt_iff];simp
theorem Oc (a b:Rat):eA (a-b).num=oo a b:=by
 have h1:(a-b).num<0 ↔ a<b:=by rw[uU];grind
 have h2:(a-b).num=0 ↔ a=b:=by rw[Vz];grind
 unfold eA oo;by_cases h:a<b
 .rw[aL (h1.2 h),aL h]
 rw[aF (λe=>h (h1.1 e)),aF h];by_cases h3:a=b
 .rw[aL (h2.2 h3),aF (by rw[h3];exact Rat.lt_irrefl)]
 rw[aF (λe=>h3 (h2.1 e)),aL (by grind)]
theorem xS (C:Mem)(e:Tabs C)(a b:Rat)(k:Nat)(f:0<k)(g:k<=40)(c:QB k a)(d:QB k b):Gives cx.P 29 [ag (qtx a),ag (qtx b)] C (i_ (oo a b)):=by
 exact Wy func29 9 U3 λw0=>U0 1 [0,1] U<|U1 2 U λR h=>WD (CP _ e.m_ a b k f g c d) U7<|WC (CJ _ (a-b) (by have:=aV (kW c d) om_;omega)) U7 fl_<|C6 1 [4] h U<|Wx U2<|⟨by rw[Oc],U⟩
theorem xL {z:Int}(h:(bi z.natAbs).length<=200):bU (txt z)=true:=by
 refine nO.2 ?_;rw[dO];refine⟨vf.2 ⟨(bB _).1,h⟩,λa=>?_⟩;have h1:=aT a;show 0<bT (bi z.natAbs);rw[(bB _).2];omega
theorem DY (z:Int):gn (txt z)=z:=by
 unfold gn;rw[dO];show sgZ (decide (z<0)) (bT (bi z.natAbs))=z;rw[(bB _).2];unfold sgZ;by_cases h:z<0
 .rw[S4 h,aL rfl];omega
 rw[Te h,aF dc_];omega
theorem bA (h:QB 22 q):aS (qtx q)=true:=by
 have h1:(bi q.num.natAbs).length<=200:=by have:=co h.1 dc_;omega
 have h2:(bi q.den).length<=200:=by have:=co h.2 dc_;omega
 unfold aS;rw[nh];show(bU (txt q.num) && bU ((mY q.den).getD [49]) && mg (gn (txt q.num)) (mY q.den))=true;rw[Bh,DY,xL h1,<- dh,xL (by rw[Tu];exact h2),VO,VO];by_cases hd:q.den=1
 .rw[kw hd];rfl
 rw[fp hd];unfold mg;show(decide (1<gn (bi q.den)) && !(q.num == 0) && (Nat.gcd q.num.natAbs (gn (bi q.den)).natAbs == 1))=true;have a:gn (bi q.den)=((q.den:Nat):Int):=by rw[<- dh,DY]
 have hp:=ff q;rw[a,S4 om_,Tu,show Nat.gcd q.num.natAbs q.den=1 from q.reduced];have b:q.num≠0:=by
  intro e;have h3:=q.reduced;rw[e]at h3;have h4:Nat.gcd 0 q.den=1:=h3;rw[Nat.gcd_zero_left]at h4;exact hd h4
 simp[b]
theorem zh (h:QB 22 q):ot (aS (qtx q))=0:=by rw[bA h];rfl
abbrev Pt:=Rat × Rat
def gM (p:Pt):List Value:=[ag (qtx p.1),ag (qtx p.2)]
def ptV (p:Pt):Value:=.agg ⟨gM p⟩
def QP (k:Nat)(p:Pt):Prop:=QB k p.1/\QB k p.2
def dQ (a b c:Pt):Rat:=(b.1-a.1)*(c.2-a.2)-(b.2-a.2)*(c.1-a.1)
theorem eP (b:Bool):ot b=0/\b=true∨ot b=2/\b=false:=by cases b <;> simp[ot]
def dE (s:Str):List Value:=[ag s]
theorem tD (C:Mem)(h:Tabs C)(v:Value)(l:List Str)(c:Sl C 1 v (l.map dE))(j:∀s∈l,s.length<=999998):Gives cx.P 132 [v] C (i_ (ot (l.all aS))):=by
 obtain⟨k,c0,rfl,n,w,_⟩:=id c;have x:=mx_
 simp only[ar]at c n⊢;refine Wy func132 18 U3 λw0=>U0 1 [0] U<|U0 3 [6,7,8] U<|G.loop (λfr y o p=>∃(i:Nat),(i<=l.length/\(l.take i).all aS=true)/\fr=[(6,[],.slice k l.length c0),(7,[],i_ l.length),(8,[],i_ i)]/\o=[]/\p=l.length-i) (hn_ [6,7,8] U) ⟨0,⟨SM _,by simp⟩,U,U,U⟩ (λfr z A m q r=>?_);obtain⟨i,⟨B,d⟩,rfl,rfl,rfl⟩:=r;refine U0 1 [6,7,8,9] U<|G.cd (λe=>?_) λe=>?_
 .have f:i<l.length:=by simpa using e
  let⟨s,hs⟩:∃s,l[i]?=some s:=⟨l[i],aj f⟩;refine Wu λR a=>WG c.m_ U10 om_ (by rw[SI,hs];rfl:(l.map dE)[i]?=some (dE s)) fl_ λD t=>Ws t U8<|C6 1 [4,6,7,8] a U<|U1 1 U λR a=>WD (dD _ h.m_ s (j s (aK hs))) U7<|C6 1 [5,6,7,8] a U<|U0 2 [5,6,7,8,15] U<|G.cd (λb=>?_) λb=>?_
  .have g:aS s=false:=by
    rcases eP (aS s) with⟨h1,h2⟩|⟨h1,h2⟩
    .rw[h1]at b;exact absurd b dc_
    exact h2
   refine U0 2 [2] U<|Wx U2<|⟨?_,U⟩;rw[g,show l.all aS=false from Vi.2 ⟨s,aK hs,by rw[g];decide⟩]
  have u:aS s=true:=by
   rcases eP (aS s) with⟨h1,h2⟩|⟨h1,h2⟩
   .exact h2
   rw[h1]at b;exact absurd b dc_
  refine Wu λR a=>Wz _ U U6<|C6 1 [6,7,8] a U<|WF (m':=l.length-(i+1)) om_ q (hn_ [6,7,8] U) ⟨i+1,⟨by omega,by rw[S9,hs,Wk,d];simp[u]⟩,U,U,U⟩
 have f:i=l.length:=by
  have:¬ i<l.length:=by simpa using e
  omega
 refine U0 1 [2] U<|Wx U2<|⟨?_,U⟩;rw[f,SU]at d;rw[d];rfl
theorem Qz {t:Str}(a:s.length<=n)(b:t.length<=n):∀x∈[s,t],x.length<=n:=by simp[a,b]
theorem Kf {t u:Str}(a:s.length<=n)(b:t.length<=n)(c:u.length<=n):∀x∈[s,t,u],x.length<=n:=by simp[a,b,c]
theorem iW (C:Mem)(b:Tabs C)(s t:Str)(c:s.length<=999998)(d:t.length<=999998):Gives cx.P 66 [.agg ⟨[ag s,ag t]⟩] C (i_ (ot (aS s && aS t))):=by
 refine Wy func66 9 U3 λw0=>Wu λR a=>WH U6 λf=>C6 1 [1] a U<|U1 1 U λR a=>WA ah U9<|Wt U6<|WA ah U9<|WP [dE s,dE t] U12 λg _ _ e=>WD (tD _ b.m_ _ [s,t] e.m_ (Qz c d)) U7<|C6 1 [2] a U<|Wx U2<|⟨?_,U⟩;simp
theorem sP (C:Mem)(b:Tabs C)(s t u:Str)(c:s.length<=999998)(d:t.length<=999998)(e:u.length<=999998):Gives cx.P 319 [.agg ⟨[ag s,ag t,ag u]⟩] C (i_ (ot (aS s && aS t && aS u))):=by
 refine Wy func319 11 U3 λw0=>Wu λR a=>WH U6 λg=>C6 1 [1] a U<|U1 1 U λR a=>WA ah U9<|Wt U6<|WA ah U9<|Wt U6<|WA ah U9<|WP [dE s,dE t,dE u] U12 λh _ _ f=>WD (tD _ b.m_ _ [s,t,u] f.m_ (Kf c d e)) U7<|C6 1 [2] a U<|Wx U2<|⟨?_,U⟩;simp[Bool.and_assoc]
theorem lJ (C:Mem)(e:Tabs C)(a b c:Pt)(k:Nat)(g:0<k)(l:k<=1000)(d:QP k a)(h:QP k b)(i:QP k c):Gives cx.P 71 [ptV a,ptV b,ptV c] C (ag (qtx (dQ a b c))):=by
 have h1:=kW h.1 d.1;have h2:=kW i.2 d.2;have h3:=kW h.2 d.2;have h4:=kW i.1 d.1;exact Wy func71 32 U3 λw0=>Wu λR f=>WH U6 λm=>WH U6 λn=>WH U6 λo=>C6 1 [3,4,5] f U<|WM [0,1,2,3,4,5,6,7,8,9,10,11] [(4,1),(9,1),(10,1)] U kr_ λR j f=>Wt U6<|WA af U9<|Wt U6<|WA ae U9<|WN (λ_=>(ec _ e.m_ b.1 a.1 k g om_ h.1 d.1)) U9<|Wt U6<|WA ah U9<|Wt U6<|WA ae U9<|WN (λ_=>(ec _ e.m_ c.2 a.2 k g om_ i.2 d.2)) U9<|WN (λ_=>(cX _ e.m_ (b.1-a.1) (c.2-a.2) (k+k+1) om_ om_ h1 h2)) U9<|C6 1 [3,4,5,7] f U<|WM [0,1,2,3,4,5,6,7,8,9,10,11,12,13] [(5,1),(10,1),(11,1),(12,1)] U kr_ λR j f=>Wv 2 U<|WA af U9<|Wt U6<|WA ae U9<|WN (λ_=>(ec _ e.m_ b.2 a.2 k g om_ h.2 d.2)) U9<|Wt U6<|WA ah U9<|Wt U6<|WA ae U9<|WN (λ_=>(ec _ e.m_ c.1 a.1 k g om_ i.1 d.1)) U9<|WN (λ_=>(cX _ e.m_ (b.2-a.2) (c.1-a.1) (k+k+1) om_ om_ h3 h4)) U9<|WN (λ_=>(ec _ e.m_ ((b.1-a.1)*(c.2-a.2)) ((b.2-a.2)*(c.1-a.1)) (k+k+1+(k+k+1)) om_ om_ (si h1 h2) (si h3 h4))) U9<|C6 1 [6] f U<|Wx U2<|⟨U,U⟩
theorem BJ {a b c:Pt}(d:QP k a)(e:QP k b)(f:QP k c):QB (8*k+5) (dQ a b c):=by
 have h:=kW (si (kW e.1 d.1) (kW f.2 d.2)) (si (kW e.2 d.2) (kW f.1 d.1));exact h.le om_
theorem pX (C:Mem)(h:Tabs C)(a b c:Pt)(k:Nat)(i:0<k)(j:k<=1000)(e:QP k a)(f:QP k b)(g:QP k c):Gives cx.P 129 [ptV a,ptV b,ptV c] C (i_ (eA (dQ a b c).num)):=by
 exact Wy func129 12 U3 λw0=>Wu λR d=>WH U6 λl=>WH U6 λm=>WH U6 λn=>C6 1 [3,4,5] d U<|Wu λR d=>WA ae U9<|WA af U9<|WA ah U9<|WD (lJ _ h.m_ a b c k i j e f g) U7<|WC (fE _ (dQ a b c) (by have:=aV (BJ e f g) om_;omega)) U7 fl_<|C6 1 [6] d U<|Wx U2<|⟨U,U⟩
theorem uN (C:Mem)(c:Tabs C)(q:Rat)(b:QB 22 q):Gives cx.P 72 [ag (qtx q)] C (.tuple #[ag (qtx q),i_ 0]):=by
 refine Wy func72 8 U3 λw0=>U0 2 [0] U<|U1 1 U λR d=>WC (dD _ c.m_ _ (by have:=aV b dc_;omega)) U7 fl_<|C6 1 [0,6] d U<|G.cd (λa=>?_) λa=>?_
 .exfalso;rw[zh b]at a;exact absurd a dc_
 refine U0 3 [2,3] U<|WE (zD U3 ?_);exact⟨U,U⟩
abbrev Tri:=Nat × Nat × Nat
def jJ (t:Tri):List Value:=[.int .i64 (t.1:Nat),.int .i64 (t.2.1:Nat),.int .i64 (t.2.2:Nat)]
def PK (a b c:Pt):Value:=.agg ⟨gM a++gM b++gM c⟩
theorem FJ (C:Mem)(k l:Value)(d:List Pt)(g:List Tri)(i:Nat)(t:Tri)(a b c:Pt)(e:Sl C 2 k (d.map gM))(h:Sl C 3 l (g.map jJ))(m:g[i]?=some t)(n:d[t.1]?=some a)(o:d[t.2.1]?=some b)(p:d[t.2.2]?=some c) :
  Gives cx.P 68 [.agg ⟨[k,l]⟩,i_ i] C (PK a b c):=by
 obtain⟨x,y,rfl,q,z,_⟩:=id e;obtain⟨A2,c2,rfl,r,A,_⟩:=id h;have B:=mx_
 simp only[ar]at e h q r⊢;have D:=(R0.1 m).1;have E:=(R0.1 n).1;have F:=(R0.1 o).1;have G:=(R0.1 p).1;refine Wy func68 30 U3 λw0=>Wu λR f=>WH U6 λH=>WI U5 λI=>Ww [1,2,4] f U<|U1 1 U λR f=>WA af U9<|Wt U6<|WG h.m_ U10 om_ (by rw[SI,m];rfl:(g.map jJ)[i]?=some (jJ t)) fl_ λJ s=>Ws s U8<|WI U5 λK=>WB (j:=0) U12<|Ww [2,4,5] f U<|WM [0,1,2,3,4,5,6,7,8,9,10,11,12,13,14,15,16,17,18,19] [] U kr_ λR L f=>Wt U6<|WA ae U9<|WO (0) U9 k_ U2<|WA ah U9<|WG e.m_ U10 om_ (by rw[SI,n];rfl:(d.map gM)[t.1]?=some (gM a)) fl_ λM u=>Ws u U8<|Wt U6<|WA ae U9<|WO (1) U9 k_ U2<|WA ah U9<|WG e.m_ U10 om_ (by rw[SI,o];rfl:(d.map gM)[t.2.1]?=some (gM b)) fl_ λN v=>Ws v U8<|Wt U6<|WA ae U9<|WO (2) U9 k_ U2<|WA ah U9<|WG e.m_ U10 om_ (by rw[SI,p];rfl:(d.map gM)[t.2.2]?=some (gM c)) fl_ λO w=>Ws w U8<|WL (gM a++gM b++gM c) U8<|WB (j:=1) U12<|Ww [4] f U<|WE (Xi ah U4 ?_);exact⟨U,U⟩
theorem Iw (C:Mem)(d:Tabs C)(a b c p:Pt)(k:Nat)(e:0<k)(f:k<=1000)(j:QP k a)(l:QP k b)(m:QP k c)(g:QP k p) :
  Gives cx.P 67 [PK a b c,ptV p] C (.bool (decide (0<=dQ a b p) && decide (0<=dQ b c p) && decide (0<=dQ c a p))):=by
 refine Wy func67 30 U3 λw0=>Wu λR i=>WH U6 λn=>WH U6 λo=>C6 1 [2,3] i U<|Wu λR i=>WO (0) U9 k_ U2<|WA af U9<|WO (2) U9 k_ U2<|WA af U9<|WA ah U9<|WD (pX _ d.m_ a b p k e f j l g) U7<|Wv 2 U<|WO (2) U9 k_ U2<|WA af U9<|WO (4) U9 k_ U2<|WA af U9<|WA ah U9<|W5 (λ_=>(pX _ d.m_ b c p k e f l m g)) U9<|Wt U6<|WR U8<|Wt U6<|WO (4) U9 k_ U2<|WA af U9<|WO (0) U9 k_ U2<|WA af U9<|WA ah U9<|W5 (λ_=>(pX _ d.m_ c a p k e f m j g)) U9<|Wt U6<|WR U8<|C6 1 [4] i U<|Wx U2<|⟨?_,U⟩;have hs:∀q:Rat,decide (eA q.num ≥ 0)=decide (0<=q):=λq=>by
  rw[Tx,<- Rat.num_nonneg];rcases eE q.num with h|h|h <;> omega
 rw[<- hs,<- hs,<- hs]
open Go Go.Jog Go.RowKit Go.Shelf
attribute [local go_sem] Oper.semAt_some
def Oa (zs:Nat->Int)(k:Nat):Value:=.agg #[.int .i64 (zs k),.int .i64 (zs ((k+1) % 3))]
set_option maxRecDepth 100000 in
theorem Kw (l Bs:Nat)(zs:Nat->Int)(J:Nat->World->Prop)
  (hD:∀k W,J k W->J k W.drew)
  (hJ:∀k W,J k W->∀j,j<3->W.cell? ⟨Bs,j,none⟩=some (i_ (zs j)))
  (hY:∀k W,J k W->k<3->YieldAt Fence.wide 1 Tryz.prog l #[i_ (k:Nat),Oa zs k] W λe W'=>e=.returned (.bool true)/\J (k+1) W')
  (W:World) (h0:J 0 W) :
  CallsIn Fence.wide 2 Tryz.prog 263 #[.func (.yield l) #[] #[],p_ Bs] W λe W'=>(∃v,e=.returned v)/\J 3 W':=by
 refine callsIn_of_wp func263 U trivial ?_ U;simp only[Tryz.ntmps263,Uu,S5,Tp,Nat.reduceAdd,Nat.reduceSub,Wg,Wi,List.push_toArray,List.append_toArray,UM,UA]
 gi_wp2
 gi_loopw [4] (λi wr=>∃k:Nat,k<=3/\i=i_ k/\J k wr) (λi _=>(3-intOf i).toNat)
 case atStart=>exact⟨0,by omega,rfl,h0⟩
 case round =>
  obtain⟨k,hk,rfl,hJs⟩:=hrel;by_cases hlt:k<3
  .have hJd:=hD k wr hJs;have hcd:=hJ k _ hJd;let⟨fn,tmps,assign,body,hy,hR⟩:=hY k _ hJd hlt;rcases(by omega:k=0∨k=1∨k=2) with rfl|rfl|rfl
   .have hc0:=hcd 0 om_;have hc1:=hcd 1 om_;have hy2:Sem.run Tryz.prog (Instr.yield l #[i_ 0,Value.agg #[i_ (zs 0),i_ (zs 1)]]) wr.drew=.ok (.round l fn tmps assign body) wr.drew:=hy;clear hy
    gi_wp2
    gi_region_with (refine hR.mono ?_;rintro e W3 ⟨rfl,hJ3⟩)
    all_goals
     gi_wp2
     go_roundw
     case rel=>exact⟨1,by omega,rfl,hJ3⟩
     case measure=>simp[intOf]
   .have hc0:=hcd 1 om_;have hc1:=hcd 2 om_;have hy2:Sem.run Tryz.prog (Instr.yield l #[i_ 1,Value.agg #[i_ (zs 1),i_ (zs 2)]]) wr.drew=.ok (.round l fn tmps assign body) wr.drew:=hy;clear hy
    gi_wp2
    gi_region_with (refine hR.mono ?_;rintro e W3 ⟨rfl,hJ3⟩)
    all_goals
     gi_wp2
     go_roundw
     case rel=>exact⟨2,by omega,rfl,hJ3⟩
     case measure=>simp[intOf]
   have hc0:=hcd 2 om_;have hc1:=hcd 0 om_;have hy2:Sem.run Tryz.prog (Instr.yield l #[i_ 2,Value.agg #[i_ (zs 2),i_ (zs 0)]]) wr.drew=.ok (.round l fn tmps assign body) wr.drew:=hy;clear hy
   gi_wp2
   gi_region_with (refine hR.mono ?_;rintro e W3 ⟨rfl,hJ3⟩)
   all_goals
    gi_wp2
    go_roundw
    case rel=>exact⟨3,by omega,rfl,hJ3⟩
    case measure=>simp[intOf]
  obtain rfl:k=3:=by omega
  gi_wp2
  go_end0
  exact⟨⟨_,U⟩,hJs⟩
def F8 (t:Tri)(j:Nat):Int:=if j=0 then (t.1:Nat) else if j=1 then (t.2.1:Nat) else (t.2.2:Nat)
def xt (t:Tri):List (Value × Value):=(List.range 3).map λk=>(.int .i64 (k:Nat),Oa (F8 t) k)
theorem nL (t:Tri):(xt t).length=3:=rfl
theorem xr {t:Tri}(h:k<3):(xt t)[k]?=some (i_ (k:Nat),Oa (F8 t) k):=by
 simp[xt,h]
theorem EM (C:Mem)(b c:Nat)(t:Tri)(d:C b=some (.cells ⟨jJ t⟩ c (0,0))) :
  RY Tryz.prog 263 #[p_ b] C (xt t):=by
 intro l J W e f g h0;refine Kw l b (F8 t) J f (λk W a j i=>?_) (λk W a h=>g k _ W a (xr h)) W h0;have h1:=e k W a b _ d;rcases(by omega:j=0∨j=1∨j=2) with rfl|rfl|rfl <;> simp[World.cell?,h1,jJ,F8]
theorem Kx (C:Mem)(t:Tri):Pur cx.P 213 [.agg ⟨jJ t⟩] C λr a=>∃b,r=.func (.func 263) #[] #[p_ b]/\a b=some (.cells ⟨jJ t⟩ 65 (0,0)):=by
 exact Wy func213 4 U3 λw0=>Wu λR c=>WH U6 λe=>C6 1 [1] c U<|U0 2 [2] U<|G.freeze 0 U λf g d=>Wx U2<|⟨U,_,U,d⟩
def oS (t:Tri)(k:Nat):Int × Int:=(F8 t k,F8 t ((k+1) % 3))
abbrev Qi:=List ((Int × Int) × Value)
def F9 (m:Qi)(i:Nat)(t:Tri):Nat->Qi
|0=>m
|k+1=>jd (F9 m i t k) (oS t k) (.int .i64 (i:Nat))
def yl (tris:List Tri):Nat->Qi
|0=>[]
|n+1=>F9 (yl tris n) n (tris.getD n (0,0,0)) 3
noncomputable def kI2:KeyP cx.P 163 (Int × Int):=Sw rfl rfl rfl kr_
abbrev zad:=λa b c=>Ent.obj a (.cells b c (0,0))
theorem yk (C:Mem)(q H:Value)(a:List Tri)(N:a≠[])(x:Sl C 3 H (a.map jJ))(O:∀i t k,a[i]?=some t->k<3->eh (F9 (yl a i) i t k) (oS t k)=none) :
  Pur cx.P 145 [.agg ⟨[q,H]⟩] C λu D=>∃b,u=.tuple #[.map (some b),.bool true]/\D b=some (bh rL (yl a a.length)):=by
 obtain⟨A2,c2,rfl,Q,ab,_⟩:=id x;have ad:=mx_
 simp only[ar]at x Q⊢;refine XQ kr_ func145 U 36 U U λw0=>Wu λR c=>WH U6 λr=>WI U5 λh=>WI U5 λn=>Ww [1,2,3] c U<|Wu λR c=>Yi kI2 U U U U fl_ λf=>WI U5 λo=>WB (j:=0) U12<|Ww [1,2,3,4] c U<|U1 1 U λR c=>WA (.tail _ ac) U9<|C6 2 [2,3,4,13,14,15] c U<|G.perm (L':=[zad o ⟨[.map (some f)]⟩ 234,.obj f (bh rL []),zad n ⟨[.bool false]⟩ 4,zad h ⟨[.map none]⟩ 234,zad r ⟨[q,.slice A2 a.length c2]⟩ 39]) (SQ _)<|Y5 (λdd fr C' d S=>∃(i:Nat)(g:List Nat),(i<=a.length/\g.length=i)/\dd=g.map Mk/\fr=[(2,[],p_ h),(3,[],p_ n),(4,[],p_ o),(13,[],.slice A2 a.length c2),(14,[],i_ a.length),(15,[],i_ i)]/\d=[zad o ⟨[.map (some f)]⟩ 234,.obj f (bh rL (yl a i)),zad n ⟨[.bool false]⟩ 4,zad h ⟨[.map none]⟩ 234,zad r ⟨[q,.slice A2 a.length c2]⟩ 39]++g.map Bp/\S=a.length-i) (hn_ [2,3,4,13,14,15] U) ⟨0,[],⟨SM _,U⟩,U,U,U,U⟩ (λdd fr ag ai m _ p=>?_);obtain⟨i,g,⟨hi,y⟩,rfl,rfl,rfl,rfl⟩:=p;refine U0 1 [2,3,4,13,14,15,16] U<|G.cd (λA=>?_) λA=>?_
 .have B:i<a.length:=by simpa using A
  let⟨t,ht⟩:∃t,a[i]?=some t:=⟨a[i],aj B⟩;refine U1 1 U λR c=>WG x.m_ U10 om_ (by rw[SI,ht];rfl:(a.map jJ)[i]?=some (jJ t)) fl_ λak T=>Ws T U8<|WI U5 λE=>WI U5 λI=>WB (j:=1) U12<|WB (j:=1) U12<|Ww [2,3,4,5,6,13,14,15] c U<|Wu λR c=>WA ah U9<|WY (Kx _ t) U7 λam _ _ V=>Ww [2,3,4,5,13,14,15,21] c U ?_;obtain⟨W,rfl,X⟩:=V;refine Y9 U U kr_ (EM _ W _ t X) (λj d=>∃(z:Unit),(j<=3)/\d=[zad I ⟨jJ t⟩ 65,zad E ⟨[i_ i]⟩ 3,zad o ⟨[.map (some f)]⟩ 234,.obj f (bh rL (F9 (yl a i) i t j)),zad n ⟨[.bool false]⟩ 4,zad h ⟨[.map none]⟩ 234,zad r ⟨[q,.slice A2 a.length c2]⟩ 39]++g.map Bp) ⟨(),SM _,U⟩ U (λ_ _=>rfl) (λj d fr J=>∃(s:Nat),fr=[(2,[],p_ h),(3,[],p_ n),(4,[],p_ o),(5,[],p_ E),(8,[],p_ s)]/\J=.obj s (.cells ⟨[i_ (oS t j).1,i_ (oS t j).2]⟩ 163 (0,0))::d) (λl j u v d Y p w=>?_) (λl j u v d an J Y p w Z=>?_) (λK d p=>?_)
  .obtain⟨z,L,rfl⟩:=p;have F:j<3:=by have:=(R0.1 w).1;rwa [nL]at this
   rw[xr F]at w;cases w
   exact Wu λR c=>WI U5 λs=>WB (j:=0) U12<|Ww [2,3,4,5,8] c U<|Y8 (hn_ [2,3,4,5,8] U) ⟨s,U,U⟩
  .obtain⟨z,L,rfl⟩:=p;obtain⟨s,rfl,rfl⟩:=Z;have F:j<3:=by have:=(R0.1 w).1;rwa [nL]at this
   refine Wu λR c=>WA ac U9<|WA ah U9<|Yj kI2 (.tail _ ac) U U U U U U U U U (congrArg (mF _ true) (O i t j ht F)) U U<|C6 5 [2,3,4,5,8,10] c U<|U0 1 [2,3,4,5,8,30] U<|G.cd (λM=>?_) λM=>?_
   .exact absurd M dc_
   refine Wu λR c=>WA ac U9<|WA ah U9<|WA ae U9<|Yb kI2 (j:=4) U U U U U U U U U U<|Xp [] trivial (c _ _ _ U ?_);exact Xb 1 U<|X7 (R:=λd=>∃(z:Unit),((j+1)<=3)/\d=[zad I ⟨jJ t⟩ 65,zad E ⟨[i_ i]⟩ 3,zad o ⟨[.map (some f)]⟩ 234,.obj f (bh rL (F9 (yl a i) i t (j+1))),zad n ⟨[.bool false]⟩ 4,zad h ⟨[.map none]⟩ 234,zad r ⟨[q,.slice A2 a.length c2]⟩ 39]++g.map Bp) (List.perm_middle (l₁:=[_,_,_])).symm ⟨(),om_,U⟩
  obtain⟨z,L,rfl⟩:=p;refine Wu λR c=>Wz _ U U6<|C6 1 [2,3,4,13,14,15] c U<|Xb 1 U<|Xb 1 U<|G.perm (L':=[zad o ⟨[.map (some f)]⟩ 234,.obj f (bh rL (yl a (i+1))),zad n ⟨[.bool false]⟩ 4,zad h ⟨[.map none]⟩ 234,zad r ⟨[q,.slice A2 a.length c2]⟩ 39]++(K::g).map Bp) (by
   rw[show yl a (i+1)=F9 (yl a i) i t (xt t).length by rw[nL,yl,al,ht];rfl];exact(List.perm_middle (l₁:=[_,_,_,_,_])).symm) ?_
  refine Y4 (m':=a.length-(i+1)) om_ mup (hn_ [2,3,4,13,14,15] U) ⟨i+1,K::g,⟨by omega,by simp[y]⟩,U,U,U,U⟩
 have B:i=a.length:=by
  have:¬ i<a.length:=by simpa using A
  omega
 refine Wu λR c=>WA ah U9<|WB (j:=3) U12<|WB (j:=3) U12<|Ww [2,3] c U<|G.freeze 3 U λCf ao aa=>G.perm (L':=g.map Bp++[_,_,_,_]) (TR (l₁:=[_,_,_,_]))<|WE (Y6 (QZ af ah U U U U U U U) ?_ ?_)
 .exact⟨U,f,U,by rw[<- B];exact aa⟩
 intro e;rw[e]at y;have:=Tw.2 N;simp at y;omega
def MV (kd a b:Int)(h:Bool):Value:=.agg ⟨[.int .u8 kd,.int .i8 a,.int .i8 b,.bool h]⟩
def eg (h:Bool):Int:=if h then 2 else 1
def dN (a b:Int)(h:Bool)(x y by':Int):Pt:=(kV (x+a.tmod 8*by') (eg h*by'),kV (y+b.tmod 8*by') (eg h*by'))
theorem zQ (a:Int):-8<a.tmod 8/\a.tmod 8<8:=by
 have h:(a.tmod 8).natAbs=a.natAbs % 8:=Vy a 8;omega
theorem Dj (C:Mem)(g:Tabs C)(i a b:Int)(h:Bool)(x y n:Int)(u:0<n)(v:n<=4)(w:-128<=x/\x<=127)(A:-128<=y/\y<=127) :
  Gives cx.P 116 [MV i a b h,.agg ⟨[.int .i8 x,.int .i8 y]⟩,i_ n] C (ptV (dN a b h x y n)):=by
 have k:=zQ a;have l:=zQ b;have m:∀z:Int, -8<z->z<8->-32<z*n/\z*n<32:=λz h1 h2=>by
  rcases(by omega:n=1∨n=2∨n=3∨n=4) with e|e|e|e <;> subst e <;> omega
 have B:=m _ k.1 k.2;have D:=m _ l.1 l.2;have hh:eg h=1∨eg h=2:=by cases h <;> simp[eg]
 have hd:0<eg h*n/\eg h*n<=8:=by rcases hh with e|e <;> rw[e] <;> omega
 refine Wy func116 53 U3 λw0=>Wu λR d=>WH U6 λo=>WH U6 λp=>WI U5 λq=>Ww [2,3,4,6] d U<|U0 1 [2,3,4,6,7] U<|U1 1 U λR d=>WA ae U9<|Ww [2,3,4,6,7,13] d U<|G.cut (λfr E r s=>(True)/\fr=[(2,[],i_ n),(3,[],p_ o),(4,[],p_ p),(6,[],p_ q),(7,[],i_ (eg h))]/\r=[zad q ⟨[ag [],ag []]⟩ 34,zad p ⟨[.int .i8 x,.int .i8 y]⟩ 23,zad o ⟨[.int .u8 i,.int .i8 a,.int .i8 b,.bool h]⟩ 25]) ?_ (λfr _ F s _ t=>?_)
 .refine G.cd (λf=>?_) λf=>?_
  .have h1:h=true:=f;subst h1;refine U0 1 [2,3,4,6,7] U<|WJ 0 l_ (hn_ [2,3,4,6,7] U) ⟨trivial,U,U⟩
  have h1:h=false:=by simpa using f
  subst h1;refine WJ 0 l_ (hn_ [2,3,4,6,7] U) ⟨trivial,U,U⟩
 obtain⟨_,rfl,rfl⟩:=t;refine Wu λR d=>WO (0) U9 k_ U2<|WA af U9<|W7 (c:=x) U8 (wrap_i64 om_ om_) fl_<|Wt U6<|WO (1) U9 k_ U2<|WA ae U9<|Xr (a.tmod 8) U6 dc_ U3<|W7 (c:=a.tmod 8) U8 (wrap_i64 om_ om_) fl_<|Wt U6<|Wz _ U U6<|Wz _ U U6<|Wv 2 U<|Wz _ U U6<|WC (He _ g.m_ (x+a.tmod 8*n) (eg h*n) om_ om_ om_) U7 fl_<|C6 5 [2,3,4,6,7,8] d U<|Wu λR d=>WO (1) U9 k_ U2<|WA af U9<|W7 (c:=y) U8 (wrap_i64 om_ om_) fl_<|Wt U6<|WO (2) U9 k_ U2<|WA ae U9<|Xr (b.tmod 8) U6 dc_ U3<|W7 (c:=b.tmod 8) U8 (wrap_i64 om_ om_) fl_<|Wt U6<|Wz _ U U6<|Wz _ U U6<|Wv 2 U<|Wz _ U U6<|WC (He _ g.m_ (y+b.tmod 8*n) (eg h*n) om_ om_ om_) U7 fl_<|C6 5 [6,8,10] d U<|U1 2 U λR d=>WL (gM (dN a b h x y n)) U8<|WB (j:=0) U12<|Ww [6] d U<|WE (Xi ah U4 ?_);exact⟨U,U⟩
def gu (s p:Nat):Value:=.agg ⟨[.int .i64 (s:Nat),.int .i64 (p:Nat)]⟩
theorem js (C:Mem)(s p:Nat)(h:s*p<=1000000000):Gives cx.P 149 [gu s p] C (i_ ((s*p:Nat):Int)):=by
 exact Wy func149 8 U3 λw0=>Wu λR a=>WH U6 λb=>C6 1 [1] a U<|U1 1 U λR a=>WA ah U9<|Wt U6<|WA ah U9<|Wz _ U U6<|C6 1 [2] a U<|Wx U2<|⟨U,U⟩
theorem QR (C:Mem)(s p:Nat)(i k:Int)(h:-1000000000000<=i*p/\i*p<=1000000000000)(b:-1000000000<=k/\k<=1000000000):Gives cx.P 240 [gu s p,i_ i,i_ k] C (i_ (i*p+k)):=by
 exact Wy func240 13 U3 λw0=>Wu λR a=>WH U6 λc=>C6 1 [1,2,3] a U<|U1 2 U λR a=>WA ah U9<|Wz _ U U6<|Wt U6<|Wz _ U U6<|C6 1 [6] a U<|Wx U2<|⟨U,U⟩
theorem Do {m:Qi}{s:fG}:(eh m (s.2,s.1)).isSome=!jM (m.map (·.1)) s:=by
 unfold jM oR;rw[Bool.not_not];cases h:eh m (s.2,s.1) with
|none=>rw[cQ]at h;simp[h]
|some v =>
  have:=US (f:=(·.1)) (gC h);simp only[Option.isSome_some];exact(S4 this).symm
theorem K7 (C:Mem)(v1 v2:Value)(b:Nat)(m:Qi)(n:C b=some (bh rL m))(hn:(m.map (·.1)).Nodup)(O:∀s∈m.map (·.1),0<=s.1)(aC:m.length<=1000000) :
  Pur cx.P 196 [.agg ⟨[v1,v2]⟩,.map (some b)] C λu D=>∃v,u=.tuple #[v,.bool (decide (yn (m.map (·.1))≠[]))]/\Sl D 1 v ((yn (m.map (·.1))).map oc):=by
 have aD:=mx_
 have Q:=λs:fG=>Do (m:=m) (s:=s);let⟨ks,J⟩:∃ks,m.map (·.1)=ks:=⟨_,rfl⟩;rw[J]at hn O⊢;simp only[J]at Q;have ai:ks.length=m.length:=by rw[<- J];simp
 refine Wy func196 93 U3 λw0=>Wu λR c=>WH U6 λb2=>C6 2 [1] c U<|Wu λR c=>D.makeMap keyZ U U U U fl_ λl=>C6 1 [1,6] c U<|U0 1 [1,6,7] U<|U1 1 U λR c=>Yd kI2.enc (Mem.get n mup) U U U U U U U fl_ λE=>Ww [1,6,7,19] c U<|Xb 2 U<|G.loop (λfr C' o S=>∃(seen:List Nat)(f:Int),(seen.Nodup/\(∀j∈seen,j<ks.length)/\((fC ks seen).map (·.1)).Nodup/\mI (fC ks seen) f)/\fr=[(1,[],.map (some b)),(6,[],.map (some l)),(7,[],i_ f),(19,[],p_ E)]/\o=[.obj E (bl b m.length seen),.obj l (bh keyZ.enc (vi (fC ks seen)))]/\S=ks.length-seen.length) (hn_ [1,6,7,19] U) ⟨[], -1,⟨List.nodup_nil,by simp,by simp[fC],.inl ⟨U,U⟩⟩,U,U,U⟩ (λfr aE aG m _ T=>?_);obtain⟨seen,f,⟨ak,al,K,L⟩,rfl,rfl,rfl⟩:=T;refine Wu λR c=>Yg kI2.enc (q:=0) (Mem.get n mup) U U U U U U fl_ λan aH M ao=>C6 1 [1,6,7,19,21] c U<|G.cd (λF=>?_) λF=>?_
 .obtain⟨aI,j,hj,aw,rfl⟩:an=true/\∃j,j<m.length/\j ∉ seen/\M=seen++[j]:=by
   rcases ao with⟨h1,_⟩|h1
   .rw[h1]at F;cases F
   exact h1
  rw[<- ai]at hj;let⟨⟨s,bv⟩,hs⟩:∃p,m[j]?=some p:=⟨m[j]'om_,aj om_⟩;have ap:ks[j]?=some s:=by rw[<- J,SI,hs];rfl
  have H:(seen++[j]).Nodup:=by
   rw[Un];exact⟨ak,by simp,λa V b n e=>by rw[S6.1 n]at e;subst e;exact aw V⟩
  have z:∀i∈seen++[j],i<ks.length:=λi W=>by
   rcases SZ.1 W with h|h
   .exact al i h
   rw[S6.1 h];exact hj
  have aJ:(seen++[j]).length<=ks.length:=by
   have:=List.Nodup.length_le_of_subset H (l₂:=List.range ks.length) (λi W=>S7.2 (z i W));simpa using this
  have aM:(seen++[j]).length=seen.length+1:=by simp
  have d:=EP ap (seen:=seen);have ax:0<=s.1:=O s (aK ap);refine Wu λR c=>Ye kI2.enc (Mem.get n mup) hs ah U U U U U U U<|Wt U6<|WI U5 λb8=>WB (j:=0) U12<|Ww [1,6,7,8,19] c U<|U1 1 U λR c=>WO (1) U9 k_ U2<|WA ah U9<|WO (0) U9 k_ U2<|WA ah U9<|WL [i_ s.2,i_ s.1] U8<|Yk kI2 (λ_=>(Mem.get n mup)) U U U U U U U U U (mE _ (eh m (s.2,s.1))) U U<|C6 5 [1,6,7,8,10,19] c U<|U0 1 [1,6,7,8,19,34] U<|G.cd (λX=>?_) λX=>?_
  .have Y:jM ks s=false:=by
    have h:(eh m (s.2,s.1)).isSome=true:=X;rw[Q]at h;simpa using h
   rw[Y]at d;simp only[TG,Ui,S8]at d;refine Xb 0 U<|WK (L':=[.obj E (bl b m.length (seen++[j])),.obj l (bh keyZ.enc (vi (fC ks (seen++[j]))))]) (by rw[d];rfl)<|WF (m':=ks.length-(seen++[j]).length) om_ mup (hn_ [1,6,7,19] U) ⟨seen++[j],f,⟨H,z,by rw[d];exact K,by rw[d];exact L⟩,U,U,U⟩
  have Y:jM ks s=true:=by
   have h:(eh m (s.2,s.1)).isSome=false:=X;rw[Q]at h;simpa using h
  rw[Y]at d;simp only[UK]at d;refine U1 1 U λR c=>WO (0) U9 k_ U2<|WA ah U9<|XM keyZ ae U U U U U U U U kr_ U (mE _ (eh (vi (fC ks seen)) s.1)) U U<|C6 5 [1,6,7,8,12,19] c U<|U0 1 [1,6,7,8,19,42] U<|G.cd (λZ=>?_) λZ=>?_
  .have x:(eh (vi (fC ks seen)) s.1).isSome=true:=Z;rw[iz]at x;have aa:Ga ks=none:=by
    cases k:eh (fC ks seen) s.1 with
   |none=>rw[k]at x;cases x
   |some q=>exact E6 (B:=fC ks seen) (s:=s) (t:=(s.1,q)) (by rw[<- d];exact Ah hn H z) (by rw[<- d];exact G6 z) (gC k) rfl
   have I:yn ks=[]:=by unfold yn;rw[aa];rfl
   refine U0 2 [4,5] U<|WE (zD U3 ?_);exact⟨U,.slice none 0 0,by rw[I];rfl,by rw[I];exact Sl.nil _ _⟩
  have x:(eh (vi (fC ks seen)) s.1).isSome=false:=Z;have ab:eh (fC ks seen) s.1=none:=by
   rw[iz]at x;cases k:eh (fC ks seen) s.1 with
  |none=>rfl
  |some q=>rw[k]at x;cases x
  have aq:((fC ks (seen++[j])).map (·.1)).Nodup:=by
   rw[d,Tm,Un];refine⟨K,by simp,λa V b n e=>?_⟩;rw[List.map_singleton,S6]at n;subst n;subst e;exact(cQ.1 ab) V
  have N:=rA L s ax;refine U1 1 U λR c=>WO (0) U9 k_ U2<|WA ah U9<|WO (1) U9 k_ U2<|WA ah U9<|D.mapUpdate keyZ (j:=2) U U U U U U U U U U kr_<|Ww [1,6,7,8,19] c U<|U1 3 U λR c=>WO (0) U9 k_ U2<|WA af U9<|Wv 2 U<|WX U8<|Ww [1,6,7,8,19,55] c U<|G.cd (λac=>?_) λac=>?_
  .have ad:f<0∨s.1<f:=by simpa using ac
   rw[aL ad]at N;refine Wu λR c=>WO (0) U9 k_ U2<|WA af U9<|C6 1 [1,6,7,19] c U<|Xb 1 U<|G.perm (L':=[.obj E (bl b m.length (seen++[j])),.obj l (bh keyZ.enc (vi (fC ks (seen++[j]))))]) (by
    rw[d,<- Dr ab];exact List.Perm.swap _ _ _) ?_
   refine WF (m':=ks.length-(seen++[j]).length) om_ mup (hn_ [1,6,7,19] U) ⟨seen++[j],s.1,⟨H,z,aq,by rw[d];exact N⟩,U,U,U⟩
  have ad:¬ (f<0∨s.1<f):=by simpa using ac
  rw[aF ad]at N;refine Xb 1 U<|G.perm (L':=[.obj E (bl b m.length (seen++[j])),.obj l (bh keyZ.enc (vi (fC ks (seen++[j]))))]) (by
   rw[d,<- Dr ab];exact List.Perm.swap _ _ _) ?_
  refine WF (m':=ks.length-(seen++[j]).length) om_ mup (hn_ [1,6,7,19] U) ⟨seen++[j],f,⟨H,z,aq,by rw[d];exact N⟩,U,U,U⟩
 obtain⟨aN,rfl,ar⟩:an=false/\M=seen/\∀j,j<m.length->j∈seen:=by
  rcases ao with h1|⟨h1,_⟩
  .exact h1
  rw[h1]at F;cases F
 rw[<- ai]at ar;have hp:(fC ks M).Perm (ks.filter (jM ks)):=(qG ak al ar).filter _;let⟨B,d⟩:∃B,fC ks M=B:=⟨_,rfl⟩;rw[d]at hp K L;have hO:=K8 hp K O L;have aO:B.length<=ks.length:=by rw[hp.length_eq];exact Ul _ _
 refine U0 1 [6,7,13] U<|U0 2 [6,7,13,14] U<|Xb 0 U<|G.nilArr 3 1<|WK (L':=[.arr (.slice none 0 0) 3 1 0 [],.obj l (bh keyZ.enc (vi B))]) (by rw[d];rfl)<|G.loop (λfr C' o S=>∃(out:List Int)(w:Value)(p:Int),(out.length<=B.length/\jg B f (B.length-out.length) p out=Ga ks)/\fr=[(6,[],.map (some l)),(7,[],i_ f),(13,[],w),(14,[],i_ p)]/\o=[.arr w 3 1 out.length (out.map (Value.int .i64)),.obj l (bh keyZ.enc (vi B))]/\S=B.length-out.length) (hn_ [6,7,13,14] U) ⟨[],_,f,⟨SM _,hO.symm⟩,U,U,U⟩ (λfr aP aQ m _ T=>?_);obtain⟨out,w,p,⟨aR,A⟩,rfl,rfl,rfl⟩:=T;refine Ys ah (λAw cw hw aS aT aU=>?_);subst hw;refine WQ [(3,1)] U λR c=>Wv 3 U<|Yn keyZ.enc af U U U U U U U U U<|C6 1 [6,7,13,14,63] c U<|G.cd (λag=>?_) λag=>?_
 .have aV:out.length<B.length:=by
   simp only[SS,Dt]at ag;omega
  let⟨r,hr⟩:∃r,B.length-out.length=r+1:=⟨B.length-out.length-1,by omega⟩;rw[hr]at A;refine U1 2 U λR c=>XM keyZ af U U U U U U U U kr_ U (mE _ (eh (vi B) p)) U U<|C6 5 [6,7,13,14,16] c U<|U1 10 U λR c=>WR U8<|WX U8<|Ww [6,7,13,14,84] c U<|G.cd (λg=>?_) λg=>?_
  .have aa:Ga ks=none:=by
    rw[<- A];refine Ez ?_;rw[iz]at g;cases k:eh B p with
   |none=>exact .inl rfl
   |some q =>
     rw[k]at g;simp only[Uk,Option.isSome_some,Bool.not_true,Bool.false_or,S1,Uo,SS]at g;exact .inr ⟨g.1,λe=>by rw[e]at g;simp at g⟩
   have I:yn ks=[]:=by unfold yn;rw[aa];rfl
   refine U0 2 [4,5] U<|WE (zD U3 ?_);exact⟨U,.slice none 0 0,by rw[I];rfl,by rw[I];exact Sl.nil _ _⟩
  let⟨q,k⟩:∃q,eh B p=some q:=by
   rw[iz]at g;cases k:eh B p with
  |some q=>exact⟨q,rfl⟩
  |none=>rw[k]at g;simp at g
  have az:¬ (p=f/\out≠[]):=by
   rintro ⟨e1,e2⟩;rw[iz,k]at g;have:=Tw.2 e2;simp[e1]at g;exact e2 g
  rw[Ey k az]at A;have aW:(out++[p]).length=out.length+1:=by simp
  refine U1 2 U λR c=>WP [oc p] U12 λaX _ _ aA=>D.append (j:=0) U11 aA U ay (by simp only[SN];omega) fl_ λau=>C6 1 [6,7,13,14] c U<|U1 2 U λR c=>XM keyZ af U U U U U U U U kr_ U (by rw[iz,k];rfl:mF _ false (eh (vi B) p)=i_ q) U U<|C6 1 [6,7,13,14] c U<|WK (L':=[.arr au 3 1 (out++[p]).length ((out++[p]).map (Value.int .i64)),.obj l (bh keyZ.enc (vi B))]) (by simp[oc])<|WF (m':=B.length-(out++[p]).length) om_ mup (hn_ [6,7,13,14] U) ⟨out++[p],au,q,⟨by omega,by rw[show B.length-(out++[p]).length=r by omega];exact A⟩,U,U,U⟩
 have aY:B.length<=out.length:=by
  simp only[Tk,Dt]at ag;omega
 have av:yn ks=out:=by
  rw[show B.length-out.length=0 by omega]at A;unfold yn;rw[<- A];rfl
 refine U0 6 [4,5] U<|WK (L':=[.arr (.slice Aw out.length cw) 3 1 out.length (out.map oc).flatten,.obj l (bh keyZ.enc (vi B))]) (by rw[show(out.map oc).flatten=out.map (Value.int .i64) from eF _ _])<|G.freezeArr 0 (out.map oc) rfl rfl (by intro r hr;obtain⟨y,_,rfl⟩:=SL.1 hr;rfl) am λCg hg aB=>WE (zD U3 ?_);refine⟨U,_, ?_,by rw[av];exact aB⟩;rw[av];have:decide ((out.length:Int) > 0)=decide (out≠[]):=by
  rw[Tx,<- Tw];omega
 rw[<- this]
def sL (pts:List Pt)(cyc:List Nat)(i:Nat):Pt:=pts.getD (cyc.getD (i % cyc.length) 0) (0,0)
def upB (p q:Pt):Bool:=decide (p.2<q.2) || (decide (p.2=q.2) && decide (p.1<q.1))
def LO (pts:List Pt)(cyc:List Nat)(i:Nat):Bool:=!upB (sL pts cyc i) (sL pts cyc (i+1)) && upB (sL pts cyc (i+1)) (sL pts cyc (i+1+1))
def yx (pts:List Pt)(cyc:List Nat)(i:Nat):Bool:=decide (0<=dQ (sL pts cyc i) (sL pts cyc (i+1)) (sL pts cyc (i+2)))
def Lb (pts:List Pt)(cyc:List Nat):Bool:=(List.range cyc.length).all (yx pts cyc) && decide (((List.range cyc.length).filter (LO pts cyc)).length=1)
structure OnceC (C:Mem)(b2 b3 b5:Nat)(pts:List Pt)(cyc:List Nat):Prop where
 ex:∃v1 v2,C b2=some (.cells ⟨[v1,v2]⟩ 39 (0,0))/\Sl C 2 v1 (pts.map gM)
 ey:∃cv,C b3=some (.cells ⟨[cv]⟩ 57 (0,0))/\Sl C 1 cv (cyc.map aX)
 ez:C b5=some (.cells ⟨[.int .i64 (cyc.length:Nat)]⟩ 3 (0,0))
 ne:0<cyc.length
 ins:∀z∈cyc,z<pts.length
 q:∀p∈pts,QP 1 p
theorem OnceC.mono {C D:Mem}{b c d:Nat}{e:List Pt}{f:List Nat}(h:OnceC C b c d e f)(a:C.le D):OnceC D b c d e f:=by
 let⟨g,i,h1,h2⟩:=h.ex;let⟨j,h3,h4⟩:=h.ey;exact⟨⟨g,i,a _ _ h1,h2.mono a⟩,⟨j,a _ _ h3,h4.mono a⟩,a _ _ h.ez,h.ne,h.ins,h.q⟩
theorem OnceC.m_ {D:Mem}{a b c:Nat}{d:List Pt}(h:OnceC C a b c d cyc)(e:C.le D:=by exact mup):OnceC D a b c d cyc:=OnceC.mono h e
theorem Ny {a:List Pt}(h:0<cyc.length)(c:∀z∈cyc,z<a.length)(i:Nat):∃z,cyc[i % cyc.length]?=some z/\a[z]?=some (sL a cyc i):=by
 have b:=Ts i h;refine⟨cyc[i % cyc.length],aj b, ?_⟩;have d:=c _ (TC b);simp[sL,aj b,aj d]
theorem Nx {a:List Pt}(h:0<cyc.length)(b:∀z∈cyc,z<a.length)(c:∀p∈a,QP 1 p)(i:Nat):QP 1 (sL a cyc i):=by
 let⟨z,_,h2⟩:=Ny h b i;exact c _ (aK h2)
theorem qP (C:Mem)(e f c:Nat)(b:List Pt)(a:List Nat)(h:OnceC C e f c b a)(i:Nat) :
  Gives cx.P 258 [i_ i,p_ e,p_ f,p_ c] C (ptV (sL b a i)):=by
 let⟨p,q,g,h1⟩:=h.ex;let⟨r,k,h3⟩:=h.ey;have l:=h.ez;have s:=h.ne;let⟨z,m,hp⟩:=Ny h.ne h.ins i;obtain⟨t,u,rfl,v,w,_⟩:=id h1;obtain⟨x,y,rfl,A,B,_⟩:=id h3;simp only[ar]at h1 h3 g k;refine Wy func258 16 U3 λw0=>Wu λR d=>WI U5 λc=>Ww [0,1,2,3,5] d U<|WM [0,1,2,3,4,5,6,7,8,9,10] [] U kr_ λR D d=>Wt U6<|Ws (PtrTo.block (Mem.get g mup) _) U8<|Ws (PtrTo.block (Mem.get k mup) _) U8<|Wt U6<|Ws (PtrTo.block (Mem.get l mup) _) U8<|Xg (i) (a.length) U6 om_ U2<|WG h3.m_ U10 om_ (by rw[SI,show((i % a.length:Nat):Int).toNat=i % a.length from U,m];rfl:(a.map aX)[((i % a.length:Nat):Int).toNat]?=some (aX z)) fl_ λE n=>Ws n U8<|WG h1.m_ U10 om_ (by rw[SI,show((z:Nat):Int).toNat=z from U,hp];rfl:(b.map gM)[((z:Nat):Int).toNat]?=some (gM (sL b a i))) fl_ λF o=>Ws o U8<|WB (j:=0) U12<|Ww [5] d U<|WE (Xi ah U4 ?_);exact⟨U,U⟩
def fn1V (b2 b3 b5:Nat):Value:=.func (.func 258) #[] #[.pointer (some ⟨b2,0,none⟩),.pointer (some ⟨b3,0,none⟩),.pointer (some ⟨b5,0,none⟩)]
theorem Bu (a b:Rat):decide (oo a b > 0)=decide (b<a):=by
 unfold oo;by_cases h1:a<b
 .have:¬ b<a:=by grind
  simp[h1,this]
 by_cases h2:b<a <;> simp[h1,h2]
theorem PO (a b:Rat):(oo a b == 0)=decide (b=a):=by
 unfold oo;by_cases h1:a<b
 .have:¬ b=a:=by grind
  simp[h1,this]
 by_cases h2:b<a
 .have:¬ b=a:=by grind
  simp[h1,h2,this]
 have:b=a:=by grind
 subst this;simp[h1]
theorem MR (C:Mem)(k:Tabs C)(c d e l:Nat)(a:List Pt)(b:List Nat)(h:OnceC C c d e a b)(f:C l=some (.cells ⟨[fn1V c d e]⟩ 352 (0,0)))(i:Nat)(n:i<=1000000) :
  Gives cx.P 259 [i_ i,p_ l] C (.bool (upB (sL a b i) (sL a b (i+1)))):=by
 have g:=λi=>Nx h.ne h.ins h.q i;unfold fn1V at f;refine Wy func259 34 U3 λw0=>U0 1 [0,1] U<|WM [0,1,2,3,4,5,6,7,8,9,10] [(3,1),(7,1),(9,1)] U kr_ λR m j=>Ws (PtrTo.block (Mem.get f mup) _) U8<|Wt U6<|Wz _ U U6<|W5 (λ_=>(qP _ c d e a b h.m_ (i+1))) U9<|XF U12<|Ws (PtrTo.block (Mem.get f mup) _) U8<|Wt U6<|W5 (λ_=>(qP _ c d e a b h.m_ i)) U9<|XF U12<|WN (λ_=>(fR _ k.m_ (sL a b (i+1)).2 (sL a b i).2 1 dc_ dc_ (g (i+1)).2 (g i).2)) U9<|C6 1 [0,1,4] j U<|WM [0,1,2,3,4,5,6,7,8,9,10,11,12,13,14,15,16,17,18,19] [] U kr_ λR m j=>Wv 6 U<|WU U6 (λ_=>PtrTo.block (Mem.get f mup) _) U3<|Wt U6<|Wz _ U U6<|W5 (λ_=>(qP _ c d e a b h.m_ (i+1))) U9<|XF U12<|WU U6 (λ_=>PtrTo.block (Mem.get f mup) _) U3<|Wt U6<|W5 (λ_=>(qP _ c d e a b h.m_ i)) U9<|XF U12<|WN (λ_=>(fR _ k.m_ (sL a b (i+1)).1 (sL a b i).1 1 dc_ dc_ (g (i+1)).1 (g i).1)) U9<|Wt U6<|WR U8<|WX U8<|C6 1 [3] j U<|Wx U2<|⟨?_,U⟩;rw[Bu,PO,Bu];rfl
theorem GX (q:Rat):decide (eA q.num<0)=!decide (0<=q):=by
 rw[<- decide_not,Tx,<- Rat.num_nonneg];rcases eE q.num with h|h|h <;> omega
theorem O2 (C:Mem)(r:Tabs C)(s B D:Value)(b:List Pt)(a:List Nat)(I:Sl C 2 s (b.map gM))(t:Sl C 1 D (a.map aX))(J:0<a.length)(K:∀z∈a,z<b.length)(L:∀p∈b,QP 1 p)(X:a.length<=100000) :
  Gives cx.P 197 [.agg ⟨[s,B]⟩,D] C (.bool (Lb b a)):=by
 obtain⟨Y,Z,rfl,aa,ab,_⟩:=id t;simp only[ar]at t⊢;refine Wy func197 46 U3 λw0=>Wu λR c=>WH U6 λe=>WH U6 λf=>C6 1 [2,3] c U<|Wu λR c=>WA ah U9<|Wt U6<|WI U5 λg=>WB (j:=0) U12<|Ww [2,3,5] c U<|U1 1 U λR c=>WI U5 λo=>WB (j:=0) U12<|Ww [5,6] c U<|G.freeze 0 U λ_ _ h=>G.freeze 0 U λ_ _ E=>G.freeze 0 U λ_ _ M=>G.freeze 0 U (λN _ O=>?_);have d:OnceC N e f g b a:=⟨⟨s,B,O,I.mono mup⟩,⟨_,Mem.get M mup,t.mono mup⟩,Mem.get E mup,J,K,L⟩;have u:=λi=>Nx d.ne d.ins d.q i;refine U0 2 [5,6,7] U<|U0 1 [5,6,7,8] U<|Wu λR c=>Ws (PtrTo.block (Mem.get E mup) _) U8<|C6 1 [6,7,8,14,15] c U<|G.loop (λfr C' Q S=>∃(i k:Nat),(i<=a.length/\(List.range i).all (yx b a)=true/\((List.range i).filter (LO b a)).length=k)/\fr=[(6,[],p_ o),(7,[],.func (.func 259) #[] #[p_ o]),(8,[],i_ k),(14,[],i_ a.length),(15,[],i_ i)]/\Q=[]/\S=a.length-i) (hn_ [6,7,8,14,15] U) ⟨0,0,⟨SM _,U,U⟩,U,U,U⟩ (λfr ac ad m F T=>?_);obtain⟨i,k,⟨hi,v,l⟩,rfl,rfl,rfl⟩:=T;refine U0 1 [6,7,8,14,15,16] U<|G.cd (λw=>?_) λw=>?_
 .have x:i<a.length:=by simpa using w
  have ae:k<=i:=by
   rw[<- l];exact SV (Ul _ _) am
  refine U0 2 [6,7,8,9,14,15] U<|WM [0,1,2,3,4,5,6,7,8,9,10,11,12] [(2,1),(6,1),(10,1),(11,1)] U kr_ λR hB c=>Ws (PtrTo.block (Mem.get h mup) _) U8<|Wt U6<|W5 (λ_=>(qP _ e f g b a d.m_ i)) U9<|Ws (PtrTo.block (Mem.get h mup) _) U8<|Wt U6<|Wz _ U U6<|W5 (λ_=>(qP _ e f g b a d.m_ (i+1))) U9<|Ws (PtrTo.block (Mem.get h mup) _) U8<|Wt U6<|Wz _ U U6<|W5 (λ_=>(qP _ e f g b a d.m_ (i+2))) U9<|WN (λ_=>(pX _ r.m_ (sL b a i) (sL b a (i+1)) (sL b a (i+2)) 1 dc_ dc_ (u i) (u (i+1)) (u (i+2)))) U9<|C6 1 [6,7,8,9,14,15,30] c U<|G.cd (λn=>?_) λn=>?_
  .have V:yx b a i=false:=by
    rw[GX]at n;simpa [yx] using n
   refine U0 1 [4] U<|Wx U2<|⟨?_,U⟩;have:(List.range a.length).all (yx b a)=false:=Vi.2 ⟨i,S7.2 x,by rw[V];decide⟩;unfold Lb;rw[this];rfl
  have W:yx b a i=true:=by
   rw[GX]at n;simpa [yx] using n
  have H:(List.range (i+1)).all (yx b a)=true:=by rw[T1,Wk,v];simp[W]
  refine U1 2 U λR c=>WC (MR _ r.m_ e f g o b a d.m_ (Mem.get h mup) i om_) U7 fl_<|Wv 4 U<|Wz _ U U6<|WN (λ_=>(MR _ r.m_ e f g o b a d.m_ (Mem.get h mup) (i+1) om_)) U9<|WR U8<|Ww [6,7,8,14,15,40] c U<|G.cd (λy=>?_) λy=>?_
  .have A:LO b a i=true:=y;refine U1 1 U λR c=>Wz _ U U6<|C6 1 [6,7,8,14,15] c U<|Wu λR c=>Wz _ U U6<|C6 1 [6,7,8,14,15] c U<|WF (m':=a.length-(i+1)) om_ F (hn_ [6,7,8,14,15] U) ⟨i+1,k+1,⟨by omega,H,by rw[T1,Uc,SP,l];simp[A]⟩,U,U,U⟩
  have A:LO b a i=false:=y;refine Wu λR c=>Wz _ U U6<|C6 1 [6,7,8,14,15] c U<|WF (m':=a.length-(i+1)) om_ F (hn_ [6,7,8,14,15] U) ⟨i+1,k,⟨by omega,H,by rw[T1,Uc,SP,l];simp[A]⟩,U,U,U⟩
 have x:i=a.length:=by
  have:¬ i<a.length:=by simpa using w
  omega
 refine U0 3 [4] U<|Wx U2<|⟨?_,U⟩;rw[x]at v l;unfold Lb;rw[v,l,VO];congr 1;rw[Wj,SS];simp;omega
def qD (t:Tri):List fG:=[oS t 0,oS t 1,oS t 2]
def bS (tris:List Tri):List fG:=tris.flatMap qD
theorem CK (t:Tri)(a:k<3):(qD t)[k]?=some (oS t k):=by
 rcases(by omega:k=0∨k=1∨k=2) with rfl|rfl|rfl <;> rfl
theorem qY (m:Qi)(i:Nat)(t:Tri):∀k,k<=3->(m.map (·.1)++(qD t).take k).Nodup->(F9 m i t k).map (·.1)=m.map (·.1)++(qD t).take k
|0,_,_=>by simp[F9]
|k+1,e,a=>by
  have h3:=CK t (show k<3 by omega);rw[S9,h3,T7,<- Tn]at a⊢;have b:=(Un.1 a);have c:=qY m i t k om_ b.1;have d:eh (F9 m i t k) (oS t k)=none:=by
   rw[cQ,c];intro h;exact b.2.2 _ h _ am U
  rw[F9,km d,Tm,c];rfl
theorem qB {a:List Tri}{t:Tri}(h:a[n]?=some t):bS (a.take (n+1))=bS (a.take n)++qD t:=by
 unfold bS;rw[S9,h,List.flatMap_append];simp
theorem sX {a:List Tri}(h:(bS a).Nodup)(n:Nat):(bS (a.take n)).Nodup:=by
 have:bS a=bS (a.take n)++bS (a.drop n):=by
  unfold bS;rw[<- List.flatMap_append,TE]
 rw[this]at h;exact(Un.1 h).1
theorem fV {a:List Tri}(h:(bS a).Nodup):∀n,n<=a.length->(yl a n).map (·.1)=bS (a.take n)
|0,_=>by simp[yl,bS]
|n+1,c=>by
  have ht:a[n]?=some a[n]:=aj om_;have h1:=sX h (n+1);rw[qB ht]at h1⊢;have b:=fV h n om_;rw[yl,al,ht];show(F9 (yl a n) n a[n] 3).map (·.1)=_;rw[qY _ _ _ 3 (SH _) (by rw[b];exact h1),b];rfl
theorem tC {a:List Tri}(h:(bS a).Nodup)(i:Nat)(t:Tri)(k:Nat)(b:a[i]?=some t)(d:k<3):eh (F9 (yl a i) i t k) (oS t k)=none:=by
 have e:=(R0.1 b).1;have h1:=sX h (i+1);rw[qB b]at h1;have c:=fV h i om_;have h3:=CK t d;have h2:(bS (a.take i)++(qD t).take (k+1)).Nodup:=by
  refine List.Nodup.sublist (List.Sublist.append (List.Sublist.refl _) (List.take_sublist _ _)) h1
 rw[S9,h3,T7,<- Tn]at h2;have h4:=Un.1 h2;rw[cQ,qY _ _ _ k om_ (by rw[c];exact h4.1),c];intro h5;exact h4.2.2 _ h5 _ am U
theorem wP {B:List fG}{d:Int}:∀(k:Nat)(p:Int)(out r:List Int),jg B d k p out=some r->(∀z∈out,z∈B.map (·.1))->∀z∈r,z∈B.map (·.1)
|0,p,out,r,h,b=>by simp only[jg,Tv]at h;subst h;exact b
|k+1,p,out,r,h,b=>by
  simp only[jg]at h;cases c:eh B p with
 |none=>rw[c]at h;cases h
 |some q =>
   rw[c]at h;simp only at h;split at h
   .cases h
   refine wP k q _ r h (λz a=>?_);rcases SZ.1 a with a|a
   .exact b z a
   rw[S6.1 a];exact US (f:=(·.1)) (gC c)
theorem wQ {B:List fG}{b:Int}:∀(k:Nat)(p:Int)(out r:List Int),jg B b k p out=some r->r.length=out.length+k
|0,p,out,r,h=>by simp only[jg,Tv]at h;subst h;rfl
|k+1,p,out,r,h=>by
  simp only[jg]at h;cases a:eh B p with
 |none=>rw[a]at h;cases h
 |some q =>
   rw[a]at h;simp only at h;split at h
   .cases h
   have:=wQ k q _ r h;simp at this;omega
theorem Dn {c:List fG}:∀z∈yn c,z∈c.map (·.1):=by
 intro z a;unfold yn at a;cases b:Ga c with
|none=>rw[b]at a;simp at a
|some r =>
  rw[b]at a;simp only[T6]at a;unfold Ga at b;split at b
  .have:=wP _ _ _ _ b am z a;obtain⟨s,hs,rfl⟩:=SL.1 this;exact US (f:=(·.1)) (Uf.1 hs).1
  cases b
theorem K9 (a:List fG):(yn a).length<=a.length:=by
 unfold yn;cases b:Ga a with
|none=>simp
|some r =>
  unfold Ga at b;split at b
  .have:=wQ _ _ _ _ b;have h2:=Ul (jM a) a;simp at this⊢;omega
  cases b
def ox (n:Nat)(t:Tri):Prop:=t.1<n/\t.2.1<n/\t.2.2<n
theorem Ky {t:Tri}(h:ox n t):∀s∈qD t,0<=s.1/\s.1.toNat<n:=by
 let⟨h1,h2,h3⟩:=h;intro s hs;simp only[qD,SY,TQ,Vf]at hs;rcases hs with rfl|rfl|rfl <;> simp[oS,F8] <;> omega
theorem qC {a:List Tri}(h:∀t∈a,ox n t):∀s∈bS a,0<=s.1/\s.1.toNat<n:=by
 intro s hs;let⟨t,ht,hs⟩:=List.mem_flatMap.1 hs;exact Ky (h t ht) s hs
theorem nM (a:List Tri):(bS a).length=3*a.length:=by
 induction a with
|nil=>rfl
|cons t l b =>
  have:bS (t::l)=qD t++bS l:=rfl;rw[this,SP,b];simp[qD];omega
def gg (tris:List Tri):List Nat:=(yn (bS tris)).map Int.toNat
theorem FR {a:List Tri}(h:∀t∈a,ox n t):∀z∈gg a,z<n:=by
 intro z b;obtain⟨y,hy,rfl⟩:=SL.1 b;obtain⟨s,hs,rfl⟩:=SL.1 (Dn y hy);exact(qC h s hs).2
theorem BB {a:List Tri}(h:∀t∈a,ox n t):(yn (bS a)).map oc=(gg a).map aX:=by
 unfold gg;rw[TH];refine List.map_congr_left (λy hy=>?_);obtain⟨s,hs,rfl⟩:=SL.1 (Dn y hy);have:=(qC h s hs).1;show oc s.1=aX s.1.toNat;unfold oc aX;rw[Int.toNat_of_nonneg this]
def JZ (ks:List Int):List (Int × Value):=ks.map λz=>(z,.bool true)
def RK (ks:List Int)(z:Int):List Int:=if z∈ks then ks else ks++[z]
theorem KE (a:List Int):(JZ a).length=a.length:=by simp[JZ]
theorem yt:∀{ks:List Int}{z:Int},jd (JZ ks) z (.bool true)=JZ (RK ks z)
|[],z=>by simp[JZ,jd,RK]
|k::ks,z=>by
  have a:=yt (ks:=ks) (z:=z);unfold JZ at a⊢;simp only[Tq,jd];by_cases e:k=z
  .subst e;simp[RK]
  have b:¬ z=k:=λh=>e h.symm;rw[aF e,a];unfold RK;by_cases h:z∈ks
  .simp[h]
  simp[h,b]
def NX (ks:List Int)(t:Tri):Nat->List Int
|0=>ks
|k+1=>RK (NX ks t k) (F8 t k)
def wV (tris:List Tri):Nat->List Int
|0=>[]
|n+1=>NX (wV tris n) (tris.getD n (0,0,0)) 3
theorem IZ (t:Tri)(a:k<3):(jJ t)[k]?=some (i_ (F8 t k)):=by
 rcases(by omega:k=0∨k=1∨k=2) with rfl|rfl|rfl <;> rfl
theorem FQ {a:List Tri}(h:decide (yn (bS a)≠[])=true):0<(gg a).length:=by
 unfold gg;rw[ar];exact Tw.2 (aT h)
theorem Jx (a:List Tri):decide (yn (bS a)≠[])=decide (gg a≠[]):=by
 rw[Tx];unfold gg;simp
def oB (pts:List Pt)(tris:List Tri):Bool:=decide (gg tris≠[]) && (decide ((wV tris tris.length).length=pts.length) && Lb pts (gg tris))
theorem uB (C:Mem)(I:Tabs C)(x y:Value)(c:List Pt)(a:List Tri)(J:a≠[])(k:Sl C 2 x (c.map gM))(g:Sl C 3 y (a.map jJ))(d:(bS a).Nodup)(l:∀t∈a,ox c.length t)(K:∀p∈c,QP 1 p)(z:a.length<=10000) :
  Gives cx.P 130 [.agg ⟨[x,y]⟩] C (.bool (oB c a)):=by
 obtain⟨V,W,rfl,L,X,_⟩:=id k;obtain⟨A2,c2,rfl,M,Y,_⟩:=id g;have Z:=mx_
 simp only[ar]at k g L M⊢;refine Wy func130 55 U3 λw0=>Wu λR b=>WH U6 λA=>C6 1 [1] b U<|G.freeze 0 U λ_ B e=>Wu λR b=>Ws (PtrTo.block (Mem.get e mup) _) U8<|WY (yk _ _ _ a J g.m_ (tC d)) U7 (λaa _ _ N=>?_);obtain⟨n,rfl,O⟩:=N;refine C6 5 [1,3,4] b U<|U0 2 [1,3,18] U<|G.cd (λE=>?_) λE=>?_
 .exact absurd E dc_
 refine Wu λR b=>D.makeMap keyZ U U U U fl_ λf=>C6 1 [1,3,5] b U<|U1 1 U λR b=>Ws (PtrTo.block (Mem.get e mup) _) U8<|C6 2 [1,3,5,21,22,23] b U<|G.loop (λfr Q h o=>∃(i:Nat),(i<=a.length)/\fr=[(1,[],p_ A),(3,[],.map (some n)),(5,[],.map (some f)),(21,[],.slice A2 a.length c2),(22,[],i_ a.length),(23,[],i_ i)]/\h=[.obj f (bh keyZ.enc (JZ (wV a i)))]/\o=a.length-i) (hn_ [1,3,5,21,22,23] U) ⟨0,SM _,U,U,U⟩ (λfr ab ac m _ q=>?_);obtain⟨i,hi,rfl,rfl,rfl⟩:=q;refine U0 1 [1,3,5,21,22,23,24] U<|G.cd (λr=>?_) λr=>?_
 .have u:i<a.length:=by simpa using r
  let⟨t,ht⟩:∃t,a[i]?=some t:=⟨a[i],aj u⟩;refine Wu λR b=>WG g.m_ U10 om_ (by rw[SI,ht];rfl:(a.map jJ)[i]?=some (jJ t)) fl_ λad S=>Ws S U8<|WI U5 λb7=>WB (j:=0) U12<|Ww [1,3,5,7,21,22,23] b U<|Wu λR b=>WA ah U9<|C6 1 [1,3,5,21,22,23,27,28] b U<|Xb 0 U<|G.loop (λfr Q h o=>∃(j:Nat),(j<=3)/\fr=[(1,[],p_ A),(3,[],.map (some n)),(5,[],.map (some f)),(21,[],.slice A2 a.length c2),(22,[],i_ a.length),(23,[],i_ i),(27,[],.agg ⟨jJ t⟩),(28,[],i_ j)]/\h=[.obj f (bh keyZ.enc (JZ (NX (wV a i) t j)))]/\o=3-j) (hn_ [1,3,5,21,22,23,27,28] U) ⟨0,SM _,U,U,U⟩ (λfr ae af m B q=>?_);obtain⟨j,hj,rfl,rfl,rfl⟩:=q;refine U0 1 [1,3,5,21,22,23,27,28,29] U<|G.cd (λv=>?_) λv=>?_
  .have w:j<3:=by
    simp only[SS]at v;omega
   refine Wu λR b=>Xx U11 (λ_=>⟨by omega,by omega,IZ t w⟩) U2<|C6 1 [1,3,5,9,21,22,23,27,28] b U<|U1 2 U λR b=>D.mapUpdate keyZ (j:=0) U U U U U U U U U U kr_<|Ww [1,3,5,21,22,23,27,28] b U<|Wu λR b=>Wz _ U U6<|C6 1 [1,3,5,21,22,23,27,28] b U ?_;rw[yt];refine WF (m':=3-(j+1)) om_ B (hn_ [1,3,5,21,22,23,27,28] U) ⟨j+1,om_,U,U,U⟩
  have w:j=3:=by
   simp only[Tk]at v;omega
  subst w;refine Wu λR b=>Wz _ U U6<|C6 1 [1,3,5,21,22,23] b U<|WK (L':=[.obj f (bh keyZ.enc (JZ (wV a (i+1))))]) (by rw[wV,al,ht];rfl)<|WF (m':=a.length-(i+1)) om_ mup (hn_ [1,3,5,21,22,23] U) ⟨i+1,om_,U,U,U⟩
 have u:i=a.length:=by
  have:¬ i<a.length:=by simpa using r
  omega
 subst u;refine Wu λR b=>Ws (PtrTo.block (Mem.get e mup) _) U8<|Wt U6<|WT (K7 _ _ _ n (yl a a.length) (Mem.get O mup) (by rw[fV d _ (SH _),SU];exact d) (by rw[fV d _ (SH _),SU];exact λs hh=>(qC l s hh).1) (by have:=congrArg List.length (fV d _ (SH _));rw[SU,nM,ar]at this;omega)) U7 fl_ (λag _ _ F=>?_);rw[fV d _ (SH _),SU]at F;obtain⟨bv,rfl,H⟩:=F;rw[BB l]at H;refine C6 5 [1,5,10,11] b U<|WQ [(3,1)] U λR b=>Wv 3 U<|Yn keyZ.enc ah U U U U U U U U U<|Wt U6<|WU U6 (λ_=>PtrTo.block (Mem.get e mup) _) U3<|Wv 2 U<|WR U8<|Wt U6<|WU U6 (λ_=>PtrTo.block (Mem.get e mup) _) U3<|Wt U6<|WN (λT=>(O2 _ I.m_ _ _ bv c (gg a) k.m_ H.m_ (by exact FQ (VN.1 (show(decide (yn (bS a)≠[]) && _)=true/\True from T).1).1) (FR l) K (by have:=K9 (bS a);rw[nM]at this;unfold gg;rw[ar];omega))) U9<|WR U8<|C6 1 [2] b U<|Wx U2<|⟨?_,U⟩;have z:(((JZ (wV a a.length)).length:Int) == (c.length:Int))=decide ((wV a a.length).length=c.length):=by
  rw[KE,Wj,Uo,SS];omega
 unfold oB;rw[<- Jx,<- z,<- Bool.and_assoc]
noncomputable def kP2:KeyP cx.P 34 (Str × Str):=Sv rfl rfl rfl dc_ dc_ rfl rfl kr_
def ptK (p:Pt):Str × Str:=(qtx p.1,qtx p.2)
theorem ON {p q:Pt}(h:ptK p=ptK q):p=q:=by
 have h1:=gx (congrArg (·.1) h);have h2:=gx (congrArg (·.2) h);exact Prod.ext h1 h2
def Ll (l:List Pt):List ((Str × Str) × Value):=l.map λp=>(ptK p,.bool true)
theorem DB {l:List Pt}{p:Pt}(h:p ∉ l):eh (Ll l) (ptK p)=none:=by
 rw[cQ];unfold Ll;rw[TH];intro hm;let⟨q,a,b⟩:=SL.1 hm;exact h (ON b ▸ a)
theorem Pd {l:List Pt}{p:Pt}(h:p ∉ l):jd (Ll l) (ptK p) (.bool true)=Ll (l++[p]):=by
 rw[km (DB h)];simp[Ll]
def pB (n:Nat)(X:Nat->Nat->Bool):Bool:=(List.range n).any λi=>(List.range i).any λk=>X i k
def AH (pts:List Pt)(tris:List Tri)(X:Nat->Nat->Bool):Int:=if tris=[] then 13 else if oB pts tris then 0 else if pB tris.length X then 26 else 25
structure MeshOk (pts:List Pt)(tris:List Tri):Prop where
 q:∀p∈pts,QP 1 p
 nd:pts.Nodup
 ins:∀t∈tris,ox pts.length t
 pos:∀t∈tris,0<dQ (pts.getD t.1 (0,0)) (pts.getD t.2.1 (0,0)) (pts.getD t.2.2 (0,0))
 sides:(bS tris).Nodup
 lt:tris.length<=800
 lp:pts.length<=400
theorem qO {a:List Pt}(h:i<a.length):a[i]?=some (a.getD i (0,0)):=by
 rw[al,aj h];rfl
theorem Db {a:List Pt}(h:i<a.length):a.getD i (0,0)∈a:=aK (qO h)
def pY (t:Tri)(j:Nat):Nat:=if j=0 then t.1 else if j=1 then t.2.1 else t.2.2
theorem QC (t:Tri)(j:Nat):F8 t j=(pY t j:Nat):=by
 unfold F8 pY;split
 .rfl
 split <;> rfl
theorem fM {t:Tri}(h:ox n t)(j:Nat):pY t j<n:=by
 let⟨h1,h2,h3⟩:=h;unfold pY;split
 .exact h1
 split <;> assumption
theorem QJ (q:Rat):decide (eA q.num<=0)=!decide (0<q):=by
 have h1:=uU q;have h2:q.num=0 ↔ q=0:=Vz;rw[<- decide_not,Tx];have h3:¬ 0<q ↔ (q<0∨q=0):=by grind
 rw[h3,<- h1,<- h2];rcases eE q.num with h|h|h <;> omega
theorem H5 (C:Mem)(F:Tabs C)(H I:Value)(c:List Pt)(b:List Tri)(X:Nat->Nat->Bool)(r:Sl C 2 H (c.map gM))(x:Sl C 3 I (b.map jJ))(d:MeshOk c b)
  (V:b≠[]->oB c b=false->∀D:Mem,C.le D->∀i k:Nat,i<b.length->k<i->Gives cx.P 131 [.agg ⟨[H,I]⟩,i_ i,i_ k] D (.bool (X i k))) :
  Gives cx.P 65 [.agg ⟨[H,I]⟩] C (i_ (AH c b X)):=by
 obtain⟨A1,c1,rfl,ae,ay,_⟩:=id r;obtain⟨A2,c2,rfl,ag,az,_⟩:=id x;have aA:=mx_
 have aB:=d.lt;have aC:=d.lp;simp only[ar]at r x ae ag V⊢;refine Wy func65 105 U3 λw0=>Wu λR a=>WH U6 λu=>C6 1 [1] a U<|G.freeze 0 U λ_ _ f=>U1 1 U λR a=>Ws (PtrTo.block (Mem.get f mup) _) U8<|C6 3 [1,12] a U<|G.cd (λy=>?_) λy=>?_
 .have h0:b=[]:=by
   have h:((b.length:Nat):Int)=0:=by simpa using y
   exact Ty om_
  exact U0 1 [2] U<|Wx U2<|⟨by unfold AH;rw[aL h0],U⟩
 have h0:b≠[]:=by
  intro e;rw[e]at y;exact absurd y dc_
 refine U1 1 U λR a=>Ws (PtrTo.block (Mem.get f mup) _) U8<|Wv 4 U<|WU U6 (λ_=>PtrTo.block (Mem.get f mup) _) U3<|Wv 2 U<|WX U8<|C6 1 [1,17] a U<|G.cd (λW=>?_) λW=>?_
 .exfalso;simp only[UG,SS]at W;omega
 refine Wu λR a=>Yi kP2 U U U U fl_ λJ=>C6 1 [1,3] a U<|U1 1 U λR a=>Ws (PtrTo.block (Mem.get f mup) _) U8<|C6 2 [1,3,30,31,32] a U<|G.loop (λfr z g l=>∃(i:Nat),(i<=c.length)/\fr=[(1,[],p_ u),(3,[],.map (some J)),(30,[],.slice A1 c.length c1),(31,[],i_ c.length),(32,[],i_ i)]/\g=[.obj J (bh FD (Ll (c.take i)))]/\l=c.length-i) (hn_ [1,3,30,31,32] U) ⟨0,SM _,U,U,U⟩ (λfr aD aE m _ n=>?_);obtain⟨i,hi,rfl,rfl,rfl⟩:=n;refine U0 1 [1,3,30,31,32,33] U<|G.cd (λY=>?_) λY=>?_
 .have o:i<c.length:=by simpa using Y
  let⟨p,hp⟩:∃p,c[i]?=some p:=⟨c[i],aj o⟩;have A:=d.q p (aK hp);have Z:p ∉ c.take i:=by
   intro hm;let⟨j,v⟩:=Uh hm;rw[TA]at v;split at v
   .rename_i aG;have h3:=(R0.1 v);have h4:=(R0.1 hp);have:=(List.getElem_inj d.nd).1 (h3.2.trans h4.2.symm);omega
   cases v
  have ai:Ll (c.take (i+1))=Ll (c.take i++[p]):=by rw[S9,hp];rfl
  refine Wu λR a=>WG r.m_ U10 om_ (by rw[SI,hp];rfl:(c.map gM)[i]?=some (gM p)) fl_ λaH ak=>Ws ak U8<|WI U5 λb5=>WB (j:=0) U12<|Ww [1,3,5,30,31,32] a U<|Wu λR a=>WA ah U9<|WC (iW _ F.m_ (qtx p.1) (qtx p.2) (by have:=aV A.1 dc_;omega) (by have:=aV A.2 dc_;omega)) U7 fl_<|C6 1 [1,3,5,30,31,32,38] a U<|G.cd (λK=>?_) λK=>?_
  .exfalso;rw[bA (A.1.le dc_),bA (A.2.le dc_)]at K;exact absurd K dc_
  refine U1 1 U λR a=>WA ah U9<|Yj kP2 af U U U U U U U U U (congrArg (mF (.bool false) false) (DB Z)) U U<|Ww [1,3,5,30,31,32,41] a U<|G.cd (λaa=>?_) λaa=>?_
  .exact absurd aa dc_
  refine U1 1 U λR a=>WA ah U9<|Yb kP2 (j:=1) (key:=ptK p) U U U U U U U U U U<|Ww [1,3,30,31,32] a U<|Wu λR a=>Wz _ U U6<|C6 1 [1,3,30,31,32] a U<|Xb 1 U<|WK (L':=[.obj J (bh FD (Ll (c.take (i+1))))]) (by rw[ai,<- Pd Z];rfl)<|WF (m':=c.length-(i+1)) om_ mup (hn_ [1,3,30,31,32] U) ⟨i+1,om_,U,U,U⟩
 refine U1 1 U λR a=>Ws (PtrTo.block (Mem.get f mup) _) U8<|C6 2 [1,46,47,48] a U<|G.dropAll<|G.loop (λfr z g l=>∃(i:Nat),(i<=b.length)/\fr=[(1,[],p_ u),(46,[],.slice A2 b.length c2),(47,[],i_ b.length),(48,[],i_ i)]/\g=[]/\l=b.length-i) (hn_ [1,46,47,48] U) ⟨0,SM _,U,U,U⟩ (λfr aI aJ m _ n=>?_);obtain⟨i,hi,rfl,rfl,rfl⟩:=n;refine U0 1 [1,46,47,48,49] U<|G.cd (λL=>?_) λL=>?_
 .have o:i<b.length:=by simpa using L
  let⟨t,ht⟩:∃t,b[i]?=some t:=⟨b[i],aj o⟩;have ab:=aK ht;have s:=d.ins t ab;have al:=d.pos t ab;refine Wu λR a=>WG x.m_ U10 om_ (by rw[SI,ht];rfl:(b.map jJ)[i]?=some (jJ t)) fl_ λaM am=>Ws am U8<|WI U5 λb7=>WB (j:=0) U12<|Ww [1,7,46,47,48] a U<|Wu λR a=>WA ah U9<|C6 1 [1,7,46,47,48,52,53] a U<|G.loop (λfr z g l=>∃(j:Nat),(j<=3)/\fr=[(1,[],p_ u),(7,[],p_ b7),(46,[],.slice A2 b.length c2),(47,[],i_ b.length),(48,[],i_ i),(52,[],.agg ⟨jJ t⟩),(53,[],i_ j)]/\g=[.obj b7 (.cells ⟨jJ t⟩ 65 (0,0))]/\l=3-j) (hn_ [1,7,46,47,48,52,53] U) ⟨0,SM _,U,U,U⟩ (λfr aN aO m an n=>?_);obtain⟨j,v,rfl,rfl,rfl⟩:=n;refine U0 1 [1,7,46,47,48,52,53,54] U<|G.cd (λM=>?_) λM=>?_
  .have ao:j<3:=by
    simp only[SS]at M;omega
   have aP:=fM s j;refine Wu λR a=>Xx U11 (λ_=>⟨by omega,by omega,(show(jJ t)[((j:Nat):Int).toNat]?=some (i_ ((pY t j:Nat):Int)) from by rw[<- QC];exact IZ t ao)⟩) U2<|C6 1 [1,7,9,46,47,48,52,53] a U<|U1 5 U λR a=>WU U6 (λ_=>PtrTo.block (Mem.get f mup) _) U3<|Wv 2 U<|WX U8<|Ww [1,7,46,47,48,52,53,64] a U<|G.cd (λac=>?_) λac=>?_
   .exfalso;simp only[UG,SS]at ac;omega
   refine Wu λR a=>Wz _ U U6<|C6 1 [1,7,46,47,48,52,53] a U<|WF (m':=3-(j+1)) om_ an (hn_ [1,7,46,47,48,52,53] U) ⟨j+1,om_,U,U,U⟩
  clear M;refine WM [0,1,2,3,4,5,6,7,8,9,10,11,12,13,14,15,16,17,18,19] [(18,1)] U kr_ λR hB a=>Wt U6<|Ws (PtrTo.block (Mem.get f mup) _) U8<|WO (0) U9 k_ U2<|WA ah U9<|WG r.m_ U10 om_ (by rw[SI,show(((t.1:Nat):Int)).toNat=t.1 from U,qO s.1];rfl:(c.map gM)[(((t.1:Nat):Int)).toNat]?=some (gM (c.getD t.1 (0,0)))) fl_ λaQ ap=>Ws ap U8<|Wt U6<|Ws (PtrTo.block (Mem.get f mup) _) U8<|WO (1) U9 k_ U2<|WA ah U9<|WG r.m_ U10 om_ (by rw[SI,show(((t.2.1:Nat):Int)).toNat=t.2.1 from U,qO s.2.1];rfl:(c.map gM)[(((t.2.1:Nat):Int)).toNat]?=some (gM (c.getD t.2.1 (0,0)))) fl_ λaR aq=>Ws aq U8<|Wt U6<|Ws (PtrTo.block (Mem.get f mup) _) U8<|WO (2) U9 k_ U2<|WA ah U9<|WG r.m_ U10 om_ (by rw[SI,show(((t.2.2:Nat):Int)).toNat=t.2.2 from U,qO s.2.2];rfl:(c.map gM)[(((t.2.2:Nat):Int)).toNat]?=some (gM (c.getD t.2.2 (0,0)))) fl_ λaS au=>Ws au U8<|WN (λ_=>(pX _ F.m_ (c.getD t.1 (0,0)) (c.getD t.2.1 (0,0)) (c.getD t.2.2 (0,0)) 1 dc_ dc_ (d.q _ (Db s.1)) (d.q _ (Db s.2.1)) (d.q _ (Db s.2.2)))) U9<|C6 1 [1,46,47,48,85] a U<|G.cd (λN=>?_) λN=>?_
  .exfalso;rw[QJ,S4 al]at N;exact absurd N dc_
  refine Wu λR a=>Wz _ U U6<|C6 1 [1,46,47,48] a U<|G.dropAll<|WF (m':=b.length-(i+1)) om_ mup (hn_ [1,46,47,48] U) ⟨i+1,om_,U,U,U⟩
 clear L;refine Wu λR a=>Ws (PtrTo.block (Mem.get f mup) _) U8<|WC (uB _ F.m_ _ _ c b h0 r.m_ x.m_ d.sides d.ins d.q om_) U7 fl_<|Ww [1,88] a U<|G.cd (λO=>?_) λO=>?_
 .have w:oB c b=true:=O;exact U0 1 [2] U<|Wx U2<|⟨by unfold AH;rw[aF h0,aL w],U⟩
 have w:oB c b=false:=O;refine U1 1 U λR a=>Ws (PtrTo.block (Mem.get f mup) _) U8<|C6 2 [1,91,92] a U<|G.loop (λfr z g l=>∃(i:Nat),(i<=b.length/\pB i X=false)/\fr=[(1,[],p_ u),(91,[],i_ b.length),(92,[],i_ i)]/\g=[]/\l=b.length-i) (hn_ [1,91,92] U) ⟨0,⟨SM _,U⟩,U,U,U⟩ (λfr aT aU m _ n=>?_);obtain⟨i,⟨aW,B⟩,rfl,rfl,rfl⟩:=n;refine U0 1 [1,91,92,93] U<|G.cd (λQ=>?_) λQ=>?_
 .have o:i<b.length:=by simpa using Q
  refine U0 2 [1,10,91,92] U<|U0 2 [1,10,91,92,95,96] U<|G.loop (λfr z g l=>∃(k:Nat),(k<=i/\(List.range k).any (λk=>X i k)=false)/\fr=[(1,[],p_ u),(10,[],i_ i),(91,[],i_ b.length),(92,[],i_ i),(95,[],i_ i),(96,[],i_ k)]/\g=[]/\l=i-k) (hn_ [1,10,91,92,95,96] U) ⟨0,⟨SM _,U⟩,U,U,U⟩ (λfr aX aY m av n=>?_);obtain⟨k,⟨aZ,ad⟩,rfl,rfl,rfl⟩:=n;refine U0 1 [1,10,91,92,95,96,97] U<|G.cd (λS=>?_) λS=>?_
  .have E:k<i:=by simpa using S
   refine U0 2 [1,10,11,91,92,95,96] U<|Wu λR a=>Ws (PtrTo.block (Mem.get f mup) _) U8<|Wv 2 U<|WD (V h0 w _ mup i k o E) U7<|Ww [1,10,91,92,95,96,102] a U<|G.cd (λT=>?_) λT=>?_
   .have aw:X i k=true:=T;have hc:pB b.length X=true:=Vl.2 ⟨i,S7.2 o,Vl.2 ⟨k,S7.2 E,aw⟩⟩;exact U0 1 [2] U<|Wx U2<|⟨by unfold AH;rw[aF h0,w,aF dc_,aL hc],U⟩
   have ax:X i k=false:=T;refine Wu λR a=>Wz _ U U6<|C6 1 [1,10,91,92,95,96] a U<|WF (m':=i-(k+1)) om_ av (hn_ [1,10,91,92,95,96] U) ⟨k+1,⟨by omega,by rw[T1,List.any_append,ad];simp[ax]⟩,U,U,U⟩
  have E:k=i:=by
   have:¬ k<i:=by simpa using S
   omega
  subst E;refine Wu λR a=>Wz _ U U6<|C6 1 [1,91,92] a U<|WF (m':=b.length-(k+1)) om_ mup (hn_ [1,91,92] U) ⟨k+1,⟨by omega,by unfold pB at B⊢;rw[T1,List.any_append,B];simp[ad]⟩,U,U,U⟩
 have o:i=b.length:=by
  have:¬ i<b.length:=by simpa using Q
  omega
 refine U0 1 [2] U<|Wx U2<|⟨?_,U⟩;rw[o]at B;unfold AH;rw[aF h0,w,aF dc_,B];rfl
structure Good (pts:List Pt)(tris:List Tri):Prop where
 ok:MeshOk pts tris
 ne:tris≠[]
 whole:oB pts tris=true
structure MeshIn (C:Mem)(mv:Value)(pts:List Pt)(tris:List Tri):Prop where
 ex:∃v1 v2,mv=.agg ⟨[v1,v2]⟩/\Sl C 2 v1 (pts.map gM)/\Sl C 3 v2 (tris.map jJ)
theorem MeshIn.mono {C D:Mem}{a:Value}{b:List Pt}{c:List Tri}(h:MeshIn C a b c)(d:C.le D):MeshIn D a b c:=by
 let⟨e,f,h1,h2,h3⟩:=h.ex;exact⟨e,f,h1,h2.mono d,h3.mono d⟩
theorem MeshIn.m_ {D:Mem}{a:Value}{b:List Pt}{c:List Tri}(h:MeshIn C a b c)(d:C.le D:=by exact mup):MeshIn D a b c:=MeshIn.mono h d
def nox:Nat->Nat->Bool:=λ_ _=>false
theorem ie (C:Mem)(f:Tabs C)(d:Value)(a:List Pt)(b:List Tri)(g:MeshIn C d a b)(c:Good a b):Gives cx.P 65 [d] C (i_ 0):=by
 obtain⟨i,j,rfl,h1,h2⟩:=g.ex;have h:=H5 C f i j a b nox h1 h2 c.ok (λ_ h3=>by rw[c.whole]at h3;cases h3);have e:AH a b nox=0:=by unfold AH;rw[aF c.ne,aL c.whole]
 rwa [e]at h
def cor (pts:List Pt)(t:Tri)(j:Nat):Pt:=pts.getD (pY t j) (0,0)
def AR (pts:List Pt)(p:Pt)(t:Tri):Bool:=decide (0<=dQ (cor pts t 0) (cor pts t 1) p) && decide (0<=dQ (cor pts t 1) (cor pts t 2) p) && decide (0<=dQ (cor pts t 2) (cor pts t 0) p)
def lu (pts:List Pt)(tris:List Tri)(p:Pt):List Nat:=(List.range tris.length).filter λi=>AR pts p (tris.getD i (0,0,0))
theorem oL {a:List Pt}{b:List Tri}(h:MeshOk a b){t:Tri}(c:t∈b)(j:Nat):QP 1 (cor a t j):=h.q _ (Db (fM (h.ins t c) j))
theorem QP.le {k m:Nat}{p:Pt}(h:QP k p)(a:k<=m):QP m p:=⟨h.1.le a,h.2.le a⟩
theorem ug (C:Mem)(d:Value)(a:List Pt)(b:List Tri)(f:MeshIn C d a b)(g:MeshOk a b)(i:Nat)(t:Tri)(e:b[i]?=some t) :
  Gives cx.P 68 [d,i_ i] C (PK (cor a t 0) (cor a t 1) (cor a t 2)):=by
 obtain⟨h,j,rfl,h1,h2⟩:=f.ex;have c:=g.ins t (aK e);exact FJ C h j a b i t _ _ _ h1 h2 e (qO c.1) (qO c.2.1) (qO c.2.2)
theorem Hl {p:Pt}(h:QP k p)(a:k<=1000):(qtx p.1).length<=999998/\(qtx p.2).length<=999998:=by
 have h1:=aV (h.1.le (UZ k)) om_;have h2:=aV (h.2.le (UZ k)) om_;exact⟨by omega,by omega⟩
def PtR (p:Pt):Prop:=aS (qtx p.1)=true/\aS (qtx p.2)=true
theorem iV (C:Mem)(c:Tabs C)(p:Pt)(a:QP 23 p)(b:PtR p):Gives cx.P 66 [ptV p] C (i_ 0):=by
 have h:=iW C c (qtx p.1) (qtx p.2) (Hl a dc_).1 (Hl a dc_).2;rw[b.1,b.2]at h;exact h
theorem mG (C:Mem)(f:Tabs C)(z:Value)(c:List Pt)(a:List Tri)(p:Pt)(A:MeshIn C z c a)(B:Good c a)(E:QP 23 p)(g:PtR p) :
  Pur cx.P 18 [z,ptV p] C λu D=>∃v,u=.tuple #[v,i_ 0]/\Sl D 1 v ((lu c a p).map aX):=by
 have d:=B.ok;have V:=d.lt;have W:=mx_
 have h:=A;obtain⟨X,Y,rfl,h1,h2⟩:=id A.ex;obtain⟨Z,c1,rfl,aa,ab,_⟩:=id h1;obtain⟨A2,c2,rfl,ac,ad,_⟩:=id h2;simp only[ar]at h1 h2 h⊢;refine Wy func18 34 U3 λw0=>Wu λR b=>WH U6 λM=>WH U6 λN=>C6 2 [2,3] b U<|G.freeze 1 U λ_ _ k=>G.freeze 0 U λ_ _ F=>Wu λR b=>Ws (PtrTo.block (Mem.get k mup) _) U8<|WD (ie _ f.m_ _ c a h.m_ B) U7<|C6 1 [2,3,6] b U<|U0 2 [2,3,6,12] U<|G.cd (λH=>?_) λH=>?_
 .exact absurd H dc_
 refine Wu λR b=>Ws (PtrTo.block (Mem.get F mup) _) U8<|WD (iV _ f.m_ p E g) U7<|C6 1 [2,3,16] b U<|G.cd (λI=>?_) λI=>?_
 .exact absurd I dc_
 refine U0 1 [2,3,7] U<|U1 1 U λR b=>Ws (PtrTo.block (Mem.get k mup) _) U8<|C6 2 [2,3,7,19,20] b U<|G.nilArr 3 1<|G.loop (λfr C' J O=>∃(i:Nat)(out:List Nat)(w:Value),(i<=a.length/\out=(List.range i).filter (λi=>AR c p (a.getD i (0,0,0))))/\fr=[(2,[],p_ M),(3,[],p_ N),(7,[],w),(19,[],i_ a.length),(20,[],i_ i)]/\J=[.arr w 3 1 out.length (out.map aX).flatten]/\O=a.length-i) (hn_ [2,3,7,19,20] U) ⟨0,[],_,⟨SM _,U⟩,U,U,U⟩ (λfr ae af m _ Q=>?_);obtain⟨i,out,w,⟨hi,e⟩,rfl,rfl,rfl⟩:=Q;refine U0 1 [2,3,7,19,20,21] U<|G.cd (λl=>?_) λl=>?_
 .have n:i<a.length:=by simpa using l
  let⟨t,ht⟩:∃t,a[i]?=some t:=⟨a[i],aj n⟩;have o:=aK ht;have K:a.getD i (0,0,0)=t:=by rw[al,ht];rfl
  have ag:out.length<=i:=by
   rw[e];exact SV (Ul _ _) am
  refine U0 2 [2,3,7,8,19,20] U<|WM [0,1,2,3,4] [(2,1),(4,1)] U kr_ λR hB b=>Ws (PtrTo.block (Mem.get k mup) _) U8<|Wt U6<|W5 (λ_=>(ug _ _ c a h.m_ d i t ht)) U9<|Ws (PtrTo.block (Mem.get F mup) _) U8<|WN (λ_=>(Iw _ f.m_ (cor c t 0) (cor c t 1) (cor c t 2) p 23 dc_ dc_ ((oL d o 0).le dc_) ((oL d o 1).le dc_) ((oL d o 2).le dc_) E)) U9<|Ww [2,3,7,8,19,20,27] b U<|G.cd (λq=>?_) λq=>?_
  .have s:AR c p t=true:=q;have x:(List.range (i+1)).filter (λi=>AR c p (a.getD i (0,0,0)))=out++[i]:=by rw[T1,Uc,<- e,List.filter_cons,K,s];rfl
   refine U1 2 U λR b=>WP [aX i] U12 λah _ _ S=>D.append (j:=0) U11 S U ay (by simp only[SN];omega) fl_ λL=>C6 1 [2,3,7,19,20] b U<|Wu λR b=>Wz _ U U6<|C6 1 [2,3,7,19,20] b U<|WK (L':=[.arr L 3 1 (out++[i]).length ((out++[i]).map aX).flatten]) (by simp[aX])<|WF (m':=a.length-(i+1)) om_ mup (hn_ [2,3,7,19,20] U) ⟨i+1,out++[i],L,⟨by omega,x.symm⟩,U,U,U⟩
  have s:AR c p t=false:=q;have x:(List.range (i+1)).filter (λi=>AR c p (a.getD i (0,0,0)))=out:=by rw[T1,Uc,<- e,List.filter_cons,K,s];simp
  refine Wu λR b=>Wz _ U U6<|C6 1 [2,3,7,19,20] b U<|WF (m':=a.length-(i+1)) om_ mup (hn_ [2,3,7,19,20] U) ⟨i+1,out,w,⟨by omega,x.symm⟩,U,U,U⟩
 have n:i=a.length:=by
  have:¬ i<a.length:=by simpa using l
  omega
 refine U0 3 [4,5] U<|G.freezeArr 0 (out.map aX) rfl rfl (by intro r g;obtain⟨y,_,rfl⟩:=SL.1 g;rfl) am λCg hg T=>WE (zD U3 ?_);refine⟨U,_,U, ?_⟩;rw[n]at e;unfold lu;rw[<- e];exact T
theorem rU (C:Mem)(g:Tabs C)(d:Value)(a:List Pt)(b:List Tri)(p:Pt)(e:MeshIn C d a b)(h:Good a b)(i:QP 23 p)(j:PtR p) :
  Gives cx.P 117 [d,ptV p] C (.tuple #[.bool (decide (lu a b p≠[])),i_ 0]):=by
 have k:=e;obtain⟨n,o,rfl,h1,h2⟩:=id e.ex;refine Wy func117 18 U3 λw0=>Wu λR c=>WH U6 λq=>WH U6 λr=>C6 2 [2,3] c U<|Wu λR c=>WA af U9<|WA ah U9<|WY (mG _ g.m_ _ a b p k.m_ h i j) U7 (λs _ _ l=>?_);obtain⟨t,rfl,m⟩:=l;let⟨u,v,f,_⟩:=id m;rw[ar]at f;subst f;refine C6 5 [6,7] c U<|U0 6 [4,5] U<|WE (zD U3 ?_);refine⟨?_,U⟩;have:decide (((lu a b p).length:Int) > 0)=decide (lu a b p≠[]):=by
  rw[Tx,<- Tw];omega
 rw[<- this]
theorem Bv (C:Mem)(j:Tabs C)(d:Value)(c:List Pt)(b:List Tri)(i:Nat)(e:MeshIn C d c b)(k:Good c b)(l:i<b.length) :
  Gives cx.P 69 [d,i_ i] C (i_ 0):=by
 have f:=e;obtain⟨m,n,rfl,h1,h2⟩:=id e.ex;obtain⟨A2,c2,rfl,o,p,_⟩:=id h2;simp only[ar]at h1 h2 f⊢;refine Wy func69 20 U3 λw0=>Wu λR a=>WH U6 λq=>C6 1 [1,2] a U<|Wu λR a=>WA ah U9<|WD (ie _ j.m_ _ c b f.m_ k) U7<|C6 1 [1,2,5] a U<|U0 2 [1,2,5,9] U<|G.cd (λg=>?_) λg=>?_
 .exact absurd g dc_
 refine U1 5 U λR a=>WA ah U9<|Wv 2 U<|WX U8<|Ww [19] a U<|G.cd (λh=>?_) λh=>?_
 .exfalso;simp only[UG,SS]at h;omega
 exact U0 1 [4] U<|Wx U2<|⟨U,U⟩
def wgt (pts:List Pt)(t:Tri)(p:Pt)(j:Nat):Rat:=dQ p (cor pts t ((j+1) % 3)) (cor pts t ((j+2) % 3)) / dQ (cor pts t 0) (cor pts t 1) (cor pts t 2)
theorem kr {a:List Pt}{b:List Tri}(c:MeshOk a b){t:Tri}(d:t∈b):dQ (cor a t 0) (cor a t 1) (cor a t 2)≠0:=by
 have h:=c.pos t d;intro e;have f:dQ (a.getD t.1 (0,0)) (a.getD t.2.1 (0,0)) (a.getD t.2.2 (0,0))=0:=e;rw[f]at h;exact absurd h dc_
theorem xu (C:Mem)(g:Tabs C)(x:Value)(c:List Pt)(h:List Tri)(p:Pt)(i:Nat)(t:Tri)(y:MeshIn C x c h)(z:Good c h)(l:QP 23 p)(O:PtR p)(o:h[i]?=some t)(q:∀j,QB 22 (wgt c t p j)) :
  Gives cx.P 19 [x,i_ i,ptV p] C (.tuple #[.agg ⟨[ag (qtx (wgt c t p 0)),ag (qtx (wgt c t p 1)),ag (qtx (wgt c t p 2))]⟩,i_ 0]):=by
 have r:=z.ok;have A:=aK o;have Q:=(R0.1 o).1;have B:=y;obtain⟨v1,v2,rfl,h1,h2⟩:=id y.ex;have e:=λj=>(oL r A j).le (show 1<=23 by decide);have s:=kr r A;have u:∀a b,QP 23 a->QP 23 b->QB 189 (dQ p a b):=λa b S T=>(BJ l S T).le dc_;have v:QB 189 (dQ (cor c t 0) (cor c t 1) (cor c t 2)):=(BJ (e 0) (e 1) (e 2)).le dc_;refine Wy func19 69 U3 λw0=>Wu λR d=>WH U6 λb3=>WH U6 λV=>WI U5 λD=>C6 1 [1,3,5,6] d U<|G.freeze 2 U λ_ _ E=>G.freeze 1 U λ_ _ n=>Wu λR d=>Ws (PtrTo.block (Mem.get E mup) _) U8<|Wt U6<|WD (Bv _ g.m_ _ c h i B.m_ z Q) U7<|C6 1 [1,3,5,6,8] d U<|U0 2 [1,3,5,6,8,18] U<|G.cd (λF=>?_) λF=>?_
 .exact absurd F dc_
 refine Wu λR d=>Ws (PtrTo.block (Mem.get n mup) _) U8<|WD (iV _ g.m_ p l O) U7<|C6 1 [1,3,5,6,23] d U<|G.cd (λH=>?_) λH=>?_
 .exact absurd H dc_
 refine Wu λR d=>Ws (PtrTo.block (Mem.get E mup) _) U8<|Wt U6<|WD (ug _ _ c h B.m_ r i t o) U7<|WI U5 λW=>WB (j:=0) U12<|Ww [5,6,9] d U<|G.freeze 0 U λ_ _ f=>Wu λR d=>WI U5 λI=>Ww [5,6,9,10] d U<|U0 1 [5,6,9,10,28] U<|G.loop (λfr C' X Y=>∃(j:Nat),(j<=3)/\fr=[(5,[],p_ V),(6,[],p_ D),(9,[],p_ W),(10,[],p_ I),(28,[],i_ j)]/\X=[.obj I (.cells ⟨(List.range 3).map λk=>if k<j then ag (qtx (wgt c t p k)) else ag []⟩ 61 (0,0)),.obj D (.cells ⟨[ag [],ag [],ag []]⟩ 61 (0,0))]/\Y=3-j) (hn_ [5,6,9,10,28] U) ⟨0,SM _,U,U,U⟩ (λfr aa ab m _ Z=>?_);obtain⟨j,hj,rfl,rfl,rfl⟩:=Z;refine U0 1 [5,6,9,10,28,29] U<|G.cd (λw=>?_) λw=>?_
 .have J:j<3:=by
   simp only[SS]at w;omega
  rcases(by omega:j=0∨j=1∨j=2) with rfl|rfl|rfl
  .refine U0 2 [5,6,9,10,11,28] U<|WM [0,1,2,3,4,5,6,7,8,9,10,11,12,13,14,15,16,17,18,19,20,21,22,23,24,25] [(12,1),(19,1),(20,1)] U kr_ λR K d=>Wt U6<|Ws (PtrTo.block (Mem.get n mup) _) U8<|Wt U6<|Wz _ U U6<|Xz U6 om_ om_ U2<|WO (_) U9 k_ U2<|Ws (bkT f 2) U8<|Wt U6<|Wz _ U U6<|Xz U6 om_ om_ U2<|WO (_) U9 k_ U2<|Ws (bkT f 2) U8<|WN (λ_=>(lJ _ g.m_ p (cor c t ((0+1) % 3)) (cor c t ((0+2) % 3)) 23 dc_ dc_ l (e _) (e _))) U9<|WO (0) U9 k_ U2<|Ws (bkT f 2) U8<|WO (2) U9 k_ U2<|Ws (bkT f 2) U8<|WO (4) U9 k_ U2<|Ws (bkT f 2) U8<|WN (λ_=>(lJ _ g.m_ (cor c t 0) (cor c t 1) (cor c t 2) 23 dc_ dc_ (e 0) (e 1) (e 2))) U9<|WN (λ_=>(iv _ g.m_ _ _ 189 dc_ dc_ (u _ _ (e _) (e _)) v s)) U9<|Wv 3 U<|WO (_) U9 k_ U2<|WB (j:=0) U12<|Ww [5,6,9,10,11,28] d U<|U1 1 U λR d=>WO (_) U9 k_ U2<|WA ah U9<|WD (uN _ g.m_ (wgt c t p 0) (q 0)) U7<|C6 5 [5,6,9,10,13,28] d U<|U0 2 [5,6,9,10,13,28,64] U<|G.cd (λL=>?_) λL=>?_
   .exact absurd L dc_
   refine Wu λR d=>Wz _ U U6<|C6 1 [5,6,9,10,28] d U<|WF (m':=2) om_ mup (hn_ [5,6,9,10,28] U) ⟨1,by decide,U,U,U⟩
  .refine U0 2 [5,6,9,10,11,28] U<|WM [0,1,2,3,4,5,6,7,8,9,10,11,12,13,14,15,16,17,18,19,20,21,22,23,24,25] [(12,1),(19,1),(20,1)] U kr_ λR K d=>Wt U6<|Ws (PtrTo.block (Mem.get n mup) _) U8<|Wt U6<|Wz _ U U6<|Xz U6 om_ om_ U2<|WO (_) U9 k_ U2<|Ws (bkT f 2) U8<|Wt U6<|Wz _ U U6<|Xz U6 om_ om_ U2<|WO (_) U9 k_ U2<|Ws (bkT f 2) U8<|WN (λ_=>(lJ _ g.m_ p (cor c t ((1+1) % 3)) (cor c t ((1+2) % 3)) 23 dc_ dc_ l (e _) (e _))) U9<|WO (0) U9 k_ U2<|Ws (bkT f 2) U8<|WO (2) U9 k_ U2<|Ws (bkT f 2) U8<|WO (4) U9 k_ U2<|Ws (bkT f 2) U8<|WN (λ_=>(lJ _ g.m_ (cor c t 0) (cor c t 1) (cor c t 2) 23 dc_ dc_ (e 0) (e 1) (e 2))) U9<|WN (λ_=>(iv _ g.m_ _ _ 189 dc_ dc_ (u _ _ (e _) (e _)) v s)) U9<|Wv 3 U<|WO (_) U9 k_ U2<|WB (j:=0) U12<|Ww [5,6,9,10,11,28] d U<|U1 1 U λR d=>WO (_) U9 k_ U2<|WA ah U9<|WD (uN _ g.m_ (wgt c t p 1) (q 1)) U7<|C6 5 [5,6,9,10,13,28] d U<|U0 2 [5,6,9,10,13,28,64] U<|G.cd (λM=>?_) λM=>?_
   .exact absurd M dc_
   refine Wu λR d=>Wz _ U U6<|C6 1 [5,6,9,10,28] d U<|WF (m':=1) om_ mup (hn_ [5,6,9,10,28] U) ⟨2,by decide,U,U,U⟩
  refine U0 2 [5,6,9,10,11,28] U<|WM [0,1,2,3,4,5,6,7,8,9,10,11,12,13,14,15,16,17,18,19,20,21,22,23,24,25] [(12,1),(19,1),(20,1)] U kr_ λR K d=>Wt U6<|Ws (PtrTo.block (Mem.get n mup) _) U8<|Wt U6<|Wz _ U U6<|Xz U6 om_ om_ U2<|WO (_) U9 k_ U2<|Ws (bkT f 2) U8<|Wt U6<|Wz _ U U6<|Xz U6 om_ om_ U2<|WO (_) U9 k_ U2<|Ws (bkT f 2) U8<|WN (λ_=>(lJ _ g.m_ p (cor c t ((2+1) % 3)) (cor c t ((2+2) % 3)) 23 dc_ dc_ l (e _) (e _))) U9<|WO (0) U9 k_ U2<|Ws (bkT f 2) U8<|WO (2) U9 k_ U2<|Ws (bkT f 2) U8<|WO (4) U9 k_ U2<|Ws (bkT f 2) U8<|WN (λ_=>(lJ _ g.m_ (cor c t 0) (cor c t 1) (cor c t 2) 23 dc_ dc_ (e 0) (e 1) (e 2))) U9<|WN (λ_=>(iv _ g.m_ _ _ 189 dc_ dc_ (u _ _ (e _) (e _)) v s)) U9<|Wv 3 U<|WO (_) U9 k_ U2<|WB (j:=0) U12<|Ww [5,6,9,10,11,28] d U<|U1 1 U λR d=>WO (_) U9 k_ U2<|WA ah U9<|WD (uN _ g.m_ (wgt c t p 2) (q 2)) U7<|C6 5 [5,6,9,10,13,28] d U<|U0 2 [5,6,9,10,13,28,64] U<|G.cd (λN=>?_) λN=>?_
  .exact absurd N dc_
  refine Wu λR d=>Wz _ U U6<|C6 1 [5,6,9,10,28] d U<|WF (m':=0) om_ mup (hn_ [5,6,9,10,28] U) ⟨3,by decide,U,U,U⟩
 have J:j=3:=by
  simp only[Tk]at w;omega
 subst J;refine Wu λR d=>WA ah U9<|WB (j:=1) U12<|C6 1 [6,7] d U<|WE (XG ah U5 ?_);exact⟨U,U⟩
end Go.Proofs.YtfjcldheldflbaaGreatDoor
