/- Laws that the proofs of this seat share, part 6. -/
import Derived.Test.YtgfiffppookakaaGreatDoorG5
import Derived.Test.YtgfiffppookakaaGreatDoorShelf
set_option maxHeartbeats 4000000
namespace Go.Proofs.YtgfiffppookakaaGreatDoor
open Go Go.Jog
set_option maxRecDepth 100000

theorem rW {l:List Nat}(h:Dig9 l){k:Nat}(hk:k<=l.length):bc l / B9 ^ k=bc (l.drop k):=by
 have e:bc l=bc (l.take k)+B9 ^ k*bc (l.drop k):=by
  conv=>lhs;rw [<- LQ k l]
  rw [eR,eB,Lt hk]
 have h1:=gV (h.take k);rw [eB,Lt hk] at h1;rw [e,NC _ _ (Mz dc_),Mr h1,LO]
theorem qR {lx lb:List Nat}(hx:tU lx)(hb:tU lb)(hb0:0<lb.length)(hle:lb.length<=lx.length):bc lx / bc lb<=bc (lx.drop (lb.length-1)) / g9 lb (lb.length-1)/\0<g9 lb (lb.length-1):=by
 have htop:bc (lb.drop (lb.length-1))=g9 lb (lb.length-1):=by
  rw [eL om_,show lb.length-1+1=lb.length by omega,LI];show _+B9*0=_;omega
 have h1:=rW hb.1 (k:=lb.length-1) om_;have h2:=rW hx.1 (k:=lb.length-1) om_;have hg0:0<g9 lb (lb.length-1):=by
  rcases LV (g9 lb (lb.length-1)) with h | h
  ·have h3:=sZ (l:=lb) (i:=lb.length-1) om_;rw [h] at h3;exact absurd (by rw [MF];exact h3) hb.2
  ·exact h
 refine ⟨?_,hg0⟩;rw [<- h2,<- htop,<- h1,Ot];have hP:0<B9 ^ (lb.length-1):=Mz dc_;rw [htop] at h1;refine Nat.div_le_div_left (Nat.mul_div_le _ _) ?_;rw [h1];exact MA hP hg0
theorem wE {l:List Nat}{k:Nat}(h:l.length=k+1):bc (l.drop k)=g9 l k:=by
 rw [eL om_,show k+1=l.length by omega,LI];show _+B9*0=_;omega
theorem EU {l:List Nat}{k:Nat}(h:l.length=k+2):bc (l.drop k)=g9 l (k+1)*B9+g9 l k:=by
 rw [eL om_,wE (k:=k+1) om_,K8];omega
theorem u5 {a b:List Nat}(ha:tU a)(hb:tU b)(h:bc b<=bc a):b.length<=a.length:=by
 rcases Ld a.length b.length with h1 | h1
 ·have:=qL ha.1 hb h1;omega
 ·exact h1
theorem tF {a b:List Nat}(ha:tU a)(hb:tU b)(h:bc a<B9*bc b):a.length<=b.length+1:=by
 have h2:=gV hb.1;refine pA ha (K4 h ?_);rw [Lb,K8];exact Lm _ (OI h2)
theorem im {m k f:Nat}(hm:m<B9 ^ k)(hf:f<B9):m*f<B9 ^ (k+1):=by
 rw [Lb];exact Ms hm hf
theorem JR {x a k:Nat}(h:x<B9*a)(ha:a<B9 ^ k):x<B9 ^ (k+1):=by
 rw [Lb,K8 _ B9];exact ML h (Nat.mul_lt_mul_of_pos_left ha dc_)
theorem FG (l:List Nat):(l.map bU).all (fun r=>r.all uo)=true:=by
 rw [List.all_map,ep];intro x _;rfl
theorem yT (C:Mem)(va vb:Value)(m n:Nat)(ha:NineC C va m)(hb:NineC C vb n)(hm:m<B9 ^ 100000)(hn1:B9<=n) :
  Pur cx.P 272 [va,vb] C fun u D=>∃ q r,u=.tuple #[q,r]/\NineC D q (m / n)/\NineC D r (m % n):=by
 have hn0:0<n:=K4 dc_ hn1;have ha0:=ha;have hb0:=hb;obtain ⟨B,hcb,hbv,hsb⟩:=hb;obtain ⟨A0,a0,c0,rfl⟩:=ha.form;obtain ⟨B0,d0,rfl,hbd1,hbd2,_⟩:=id hsb;simp only [aH] at hsb hb0 hbd1 ⊢;have hmx:maxLen<=9223372036854775807:=by simp [maxLen]
 have hB:=B9v;have hBl:2<=B.length:=by
  rcases Ld B.length 2 with h | h
  ·have h2:=gV hcb.1;have h3:B9 ^ B.length<=B9 ^ 1:=gr dc_ om_;rw [Nat.pow_one] at h3;omega
  ·exact h
 refine Fn.introM kr_ Tryz.func272 Z 146 Z Z (fun w0=>?_);refine G.rg fun R hR=>?_;refine D.aD (fun b3=>?_);refine D.ai (fun b4=>?_);refine D.q4 1 0 3 4 5 hR ?_;clear hR R;refine G.rp 1 fun R hR=>?_
 skip
 refine D.af (.tail _ (.head _)) ?_;refine D.ag (mO _ ha0.m_ hb0.m_) ?_;refine D.q5 1 0 3 4 5 17 hR ?_;clear hR R;refine G.cd (fun h17=>?_) fun h17=>?_
 ·have hlt:m<n:=by
   have:iw m n<0:=by simpa using h17
   exact g8.1 this
  refine G.rp 1 fun R hR=>?_;refine D.ae (j:=0) ?_;refine D.q2 1 4 5 hR ?_;clear hR R;refine G.aB (G.xI (vY (.head _) Z Z Z Z Z) ?_ Ff);refine ⟨Z,_,_,Z, ?_, ?_⟩
  ·rw [Mr hlt];exact NineC.zero _
  ·rw [Mw hlt];exact ha0.mono mup
 ·have hlt:n<=m:=by
   have h:¬ iw m n<0:=by simpa using h17
   rw [g8] at h;omega
  refine G.rg fun R hR=>?_;refine D.af (.tail _ (.head _)) ?_;refine D.q5 2 0 3 4 5 21 hR ?_;clear hR R;refine G.cd (fun h21=>?_) fun h21=>?_
  ·exact absurd h21 (by simp;omega)
  ·have htop0:=jp hcb.1 (B.length-1);have hrb:(B.map bU)[((B.length:Int)-1).toNat]?=some (bU (g9 B (B.length-1))):=by
    rw [show ((B.length:Int)-1).toNat=B.length-1 by omega];exact ig om_
   obtain ⟨f,hf⟩:∃ f,B9 / (g9 B (B.length-1)+1)=f:=⟨_,rfl⟩;refine G.rg fun R hR=>?_;refine D.af (.tail _ (.head _)) ?_;refine D.af (.tail _ (.head _)) ?_;refine D.ac ?_;refine D.ar _ ?_;refine D.ak hsb.m_ U10 om_ hrb fl_ (fun p55 hp55=>?_);refine D.aa hp55 ?_;refine D.int (((g9 B (B.length-1)+1:Nat):Int)) U4 (by rw [IntKind.wrap_u64];omega) U2 ?_;refine D.iZ (B9) (g9 B (B.length-1)+1) U6 om_ (.inr ⟨Z,by omega⟩) U2 ?_;refine D.q5 1 0 3 4 5 9 hR ?_;clear hR R;rw [hf];have hf0:0<f:=by rw [<- hf];exact Nat.div_pos om_ om_
   have hfB:f<B9:=by
    rw [<- hf];have h1:=(qR hcb hcb om_ (aP _)).2;exact Nat.div_lt_self dc_ om_
   have hnB:n<B9 ^ 100000:=DS hlt hm;refine G.aG [0,1,3,4,2,5,6,7] [] Z kr_ (fun R hB hR=>?_);refine D.ps 2 ?_;refine D.af (.tail _ (.head _)) ?_;refine D.ac ?_;refine D.au (t6 (k:=100000) _ ha0.m_ hm hfB om_) U7 fl_ (fun v61 _ _ hq61=>?_);refine D.au (t6 (k:=100000) _ hb0.m_ hnB hfB om_) U7 fl_ (fun v64 _ hle64 hq64=>?_);refine D.ac ?_;obtain ⟨A64,m64,c64,rfl⟩:=hq64.form;refine D.ae (j:=1) ?_;refine D.e5 0 3 4 5 9 hR ?_;clear hR hB R;have hx61:=hq61.mono hle64;have hx64:=hq64;refine G.freeze 0 Z (fun C3 hle3 hb3=>?_);obtain ⟨P,hcP,hPv,hPl,hsP⟩:=(hx61.mono hle3).get (im hm hfB);obtain ⟨W,hcD,hDv,hDl,hsD⟩:=(hx64.mono hle3).get (im hnB hfB);obtain ⟨PA,pc,rfl,_⟩:=id hsP;obtain ⟨DA',dc',heD,_⟩:=id hsD;cases heD
   simp only [aH] at hsP hsD hb3 hx61 hx64 ⊢;have hnD:NineC C3 (.slice A64 W.length c64) (n*f):=⟨W,hcD,hDv,hsD⟩;have hNf:0<n*f:=MA hn0 hf0;have hNfB:n*f<B9 ^ 100001:=da (k:=100001) (n:=100000+1) (im (k:=100000) hnB hfB) (aP _);have hD2:2<=W.length:=by
    have h1:B9<=bc W:=by rw [hDv];exact LE hn1 (MO _ hf0)
    rcases Ld W.length 2 with h | h
    ·have h2:=gV hcD.1;have h3:B9 ^ W.length<=B9 ^ 1:=gr dc_ om_;rw [Nat.pow_one] at h3;omega
    ·exact h
   have hP1:1<=P.length:=by
    rcases LV P.length with h | h
    ·have:P=[]:=LL h;subst this;have h1:m*f=0:=by rw [<- hPv];rfl
     have h2:0<m*f:=MA om_ hf0;omega
    ·exact h
   have htop:=(qR hcD hcD om_ (aP _)).2;have htl:=jp hcD.1 (W.length-1);refine G.rp 2 fun R hR=>?_;refine D.bK U9 (aP _) (by show 8*P.length<=281474976710656;omega) (by simp only [maxLen];omega) fl_ (fun b67=>?_);refine D.ae (j:=1) ?_;refine D.e5 0 3 4 5 9 hR ?_;clear hR R;refine G.rg fun R hR=>?_;refine D.aa (PtrTo.block (Mem.get hb3 mup) _) ?_;refine D.aa (PtrTo.block (Mem.get hb3 mup) _) ?_;refine D.ac ?_;refine D.ar _ ?_;refine D.ak hsD.m_ U10 om_ (by rw [show ((W.length:Int)-1).toNat=W.length-1 by omega];exact ig om_:(W.map bU)[((W.length:Int)-1).toNat]?=some (bU (g9 W (W.length-1)))) fl_ (fun p72 hp72=>?_);refine D.aa hp72 ?_;refine D.q6 1 0 3 4 5 9 10 hR ?_;clear hR R;refine G.rp 2 fun R hR=>?_;refine D.ar _ ?_;refine D.q7 1 0 3 4 5 9 10 11 hR ?_;clear hR R;refine G.be (L':=[.obj b4 (.cells ⟨[qU b67 P.length P.length]⟩ 367 (0,0)),.arr (qU b67 P.length P.length) 284 1 P.length ((List.replicate P.length 0).map bU).flatten]) (by rw [<- zC];rfl) ?_;refine G.loop (fun fr C' L' μ=>∃ (i:Nat)(qs:List Nat)(v5:Value),(i<=P.length/\qs.length=P.length/\Dig9 qs/\bc (qs.drop i)=bc (P.drop i) / (n*f)/\NineC C' v5 (bc (P.drop i) % (n*f))/\∀ j,j<i->g9 qs j=0)/\fr=[(0,[],.slice PA P.length pc),(3,[],.pointer (some ⟨b3,0,none⟩)),(4,[],.pointer (some ⟨b4,0,none⟩)),(5,[],v5),(9,[],.int .u64 f),(10,[],.int .u64 (g9 W (W.length-1))),(11,[],.int .i64 ((i:Int)-1))]/\L'=[.obj b4 (.cells ⟨[qU b67 P.length P.length]⟩ 367 (0,0)),.arr (qU b67 P.length P.length) 284 1 P.length (qs.map bU).flatten]/\μ=i+1) (h_7 0 3 4 5 9 10 11) ⟨P.length,List.replicate P.length 0,_,⟨aP _,LW,(fun x hx=>by rw [LH hx];decide),by rw [LI,No (by simp)];simp [bc],by rw [LI,show bc []=0 from Z,Nat.zero_mod];exact NineC.zero _,fun j _=>wN _ j⟩,Z,Z,Z⟩ (fun fr C0' L0' m _ hI=>?_);obtain ⟨i,qs,v5,⟨hi,hql,hqd,hqv,hr5,hqz⟩,rfl,rfl,rfl⟩:=hI;refine G.z8 2 0 3 4 5 9 10 11 78 ?_;refine G.cd (fun h78=>?_) fun h78=>?_
   ·have hi0:0<i:=by
     have:(0:Int)<=(i:Int)-1:=by simpa using h78
     omega
    obtain ⟨j,rfl⟩:∃ j,i=j+1:=⟨i-1,by omega⟩;obtain ⟨T,hT⟩:∃ T,bc (P.drop (j+1))=T:=⟨_,rfl⟩;rw [hT] at hqv hr5;have hTm:=K9 T hNf;obtain ⟨Rl,hcR,hRv,hRl,hsR⟩:=hr5.get (m:=100001) (ML hTm (da (k:=100001) (n:=100000+1) (im (k:=100000) hnB hfB) (aP _)));obtain ⟨RA,rc,heR,_⟩:=id hsR;rw [aH] at heR;subst heR;obtain ⟨X,hX⟩:∃ X,g9 P j+B9*(T % (n*f))=X:=⟨_,rfl⟩;have hpj:=jp hcP.1 j;have hXv:bc (g9 P j::Rl)=X:=by rw [bc,hRv,hX]
    have hdp:=pj (t:=T) (x:=g9 P j) hNf;have hdl:=jV (t:=T) hNf hpj;rw [hX] at hdp hdl;have hPj:bc (P.drop j)=g9 P j+B9*T:=by rw [eL om_,hT]
    refine G.aY [(7,3)] Z (fun R hR=>?_);refine D.ps 2 ?_;refine D.ak hsP.m_ U10 om_ (by rw [show ((((j+1:Nat):Int)-1)).toNat=j by omega];exact ig om_:(P.map bU)[((((j+1:Nat):Int)-1)).toNat]?=some (bU (g9 P j))) fl_ (fun p83 hp83=>?_);refine D.aa hp83 ?_;refine D.ec [bU (g9 P j)] U12 fl_ (fun b85=>?_);refine D.ac ?_;refine D.append (j:=0) U11 hsR.m_ (FG Rl) (by simp only [aH,bz,maxLen];omega) (by simp only [aH,bz];omega) fl_ (fun v87=>?_);refine D.call (fH _ _ (g9 P j::Rl) (n:=1+(Rl.map bU).length) (by rw [aH];simp;omega)) Z (.inr dc_) U6 (il _) fl_ (fun v88 C88 L88 _ hq88=>?_);refine D.q7 1 0 3 4 5 9 10 11 hR ?_;clear hR R;obtain ⟨rfl,hu⟩:=hq88;have hXn:NineC C88 v88 X:=⟨zA (g9 P j::Rl),gk (fun x hx=>(cI.1 hx).elim (fun h=>by rw [h];exact hpj) (hcR.1 x)),by rw [gj,hXv],hu⟩;have hXlt:X<B9*(n*f):=by
     have h1:B9*(T % (n*f)+1)<=B9*(n*f):=Ln _ hTm;rw [FX] at h1;omega
    have hXB:X<B9 ^ 100002:=da (k:=100002) (n:=100001+1) (JR (k:=100001) hXlt hNfB) (aP _);obtain ⟨Xl,hcX,hXlv,hXll,hsX⟩:=hXn.get hXB;obtain ⟨XA,xc,heX,_⟩:=id hsX;rw [aH] at heX;subst heX;refine G.rp 1 fun R hR=>?_;refine D.aa (PtrTo.block (Mem.get hb3 mup) _) ?_;refine D.ag (mO _ hXn.m_ hnD.m_) ?_;refine D.q8 1 0 3 4 5 9 10 11 92 hR ?_;clear hR R;refine G.cd (fun h92=>?_) fun h92=>?_
    ·have hXs:X<n*f:=by
      have:iw X (n*f)<0:=by simpa using h92
      exact g8.1 this
     refine G.rp 1 fun R hR=>?_;refine D.ar _ ?_;refine D.q7 1 0 3 4 5 9 10 11 hR ?_;clear hR R;rw [show ((j+1:Nat):Int)-1-1=(j:Int)-1 by omega];refine G.ax (m':=j+1) om_ mup (h_7 0 3 4 5 9 10 11) ⟨j,qs,_,⟨by omega,hql,hqd,by rw [eL (l:=qs) om_,hqz j om_,hqv,hPj,hdp.1,Mr hXs];omega,by rw [hPj,hdp.2,Mw hXs];exact hXn.mono mup,fun j' h=>hqz j' om_⟩,Z,Z,Z⟩
    ·have hXg:n*f<=X:=by
      have h:¬ iw X (n*f)<0:=by simpa using h92
      rw [g8] at h;omega
     have hlen1:=u5 hcX hcD (by rw [hXlv,hDv];exact hXg);have hlen2:=tF hcX hcD (by rw [hXlv,hDv];exact hXlt);have hgs:=(qR hcX hcD om_ hlen1).1;obtain ⟨lead,hlead⟩:∃ lead,bc (Xl.drop (W.length-1))=lead:=⟨_,rfl⟩;rw [hXlv,hDv,hlead] at hgs;have hg1:=jp hcX.1 (Xl.length-1);have hg2:=jp hcX.1 (Xl.length-2);refine G.rp 3 fun R hR=>?_;refine D.ar _ ?_;refine D.ak hsX.m_ U10 om_ (by rw [show ((Xl.length:Int)-1).toNat=Xl.length-1 by omega];exact ig om_:(Xl.map bU)[((Xl.length:Int)-1).toNat]?=some (bU (g9 Xl (Xl.length-1)))) fl_ (fun p97 hp97=>?_);refine D.aa hp97 ?_;refine D.q8 1 0 3 4 5 9 10 11 12 hR ?_;clear hR R;refine G.rp 2 fun R hR=>?_;refine D.aa (PtrTo.block (Mem.get hb3 mup) _) ?_;refine D.q9 2 0 3 4 5 9 10 11 12 103 hR ?_;clear hR R;refine G.cut (fun fr C' L' μ=>(lead<1000000000000000000)/\fr=[(0,[],.slice PA P.length pc),(3,[],.pointer (some ⟨b3,0,none⟩)),(4,[],.pointer (some ⟨b4,0,none⟩)),(5,[],.slice XA Xl.length xc),(9,[],.int .u64 f),(10,[],.int .u64 (g9 W (W.length-1))),(11,[],.int .i64 (((j+1:Nat):Int)-1)),(12,[],.int .u64 (lead:Nat))]/\L'=[.obj b4 (.cells ⟨[qU b67 P.length P.length]⟩ 367 (0,0)),.arr (qU b67 P.length P.length) 284 1 P.length (qs.map bU).flatten]) ?_ (fun fr _ L103 μ _ hI=>?_)
     ·refine G.cd (fun h103=>?_) fun h103=>?_
      ·have hl2:Xl.length=W.length-1+2:=by
        have:(W.length:Int)<(Xl.length:Int):=by simpa using h103
        omega
       have hlv:=EU hl2;rw [hlead,show W.length-1+1=Xl.length-1 by omega,show W.length-1=Xl.length-2 by omega] at hlv;have hgm:g9 Xl (Xl.length-1)*B9<=999999999*B9:=Lm _ om_;rw [show 999999999*B9=999999999000000000 from rfl] at hgm;refine G.rp 1 fun R hR=>?_;refine D.int (((g9 Xl (Xl.length-1)*B9:Nat):Int)) U4 (by rw [show (1000000000:Int)=((B9:Nat):Int) from Z,<- La,IntKind.wrap_u64];omega) U2 ?_;refine D.ps 3 ?_;refine D.ar _ ?_;refine D.ak hsX.m_ U10 om_ (by rw [show ((Xl.length:Int)-2).toNat=Xl.length-2 by omega];exact ig om_:(Xl.map bU)[((Xl.length:Int)-2).toNat]?=some (bU (g9 Xl (Xl.length-2)))) fl_ (fun p110 hp110=>?_);refine D.aa hp110 ?_;refine D.int (((lead:Nat):Int)) U4 (by rw [hlv,IntKind.wrap_u64];omega) U2 ?_;refine D.q8 1 0 3 4 5 9 10 11 12 hR ?_;clear hR R;refine G.aK 0 mup (h_8 0 3 4 5 9 10 11 12) ⟨by omega,Z,Z⟩
      ·have hl1:Xl.length=W.length-1+1:=by
        have:¬ (W.length:Int)<(Xl.length:Int):=by simpa using h103
        omega
       have hlv:=wE hl1;rw [hlead,show W.length-1=Xl.length-1 by omega] at hlv;rw [<- hlv];refine G.aK 0 mup (h_8 0 3 4 5 9 10 11 12) ⟨by omega,Z,Z⟩
     ·obtain ⟨hll,rfl,rfl⟩:=hI;obtain ⟨gq,hgq⟩:∃ gq,lead / g9 W (W.length-1)=gq:=⟨_,rfl⟩;rw [hgq] at hgs;have hgl:gq<=lead:=by rw [<- hgq];exact Lu _ _
      refine G.rp 2 fun R hR=>?_;refine D.iZ (lead) (g9 W (W.length-1)) U6 htop (.inr ⟨Z,by omega⟩) U2 ?_;rw [hgq];refine D.min (((min gq 999999999:Nat):Int)) Z Z Z Z Z Z om_ Z Z ?_;refine D.q8 1 0 3 4 5 9 10 11 12 hR ?_;clear hR R;refine G.rg fun R hR=>?_;refine D.aa (PtrTo.block (Mem.get hb3 mup) _) ?_;refine D.ac ?_;refine D.au (t6 (k:=100001) _ hnD.m_ hNfB om_ om_) U7 fl_ (fun v119 _ _ hq119=>?_);refine D.q9 1 0 3 4 5 9 10 11 12 13 hR ?_;clear hR R;refine G.loop (fun fr C' L' μ=>∃ (dd:Nat)(v13:Value),(X / (n*f)<=dd/\dd<B9/\NineC C' v13 (n*f*dd))/\fr=[(0,[],.slice PA P.length pc),(3,[],.pointer (some ⟨b3,0,none⟩)),(4,[],.pointer (some ⟨b4,0,none⟩)),(5,[],.slice XA Xl.length xc),(9,[],.int .u64 f),(10,[],.int .u64 (g9 W (W.length-1))),(11,[],.int .i64 (((j+1:Nat):Int)-1)),(12,[],.int .u64 (dd:Nat)),(13,[],v13)]/\L'=[.obj b4 (.cells ⟨[qU b67 P.length P.length]⟩ 367 (0,0)),.arr (qU b67 P.length P.length) 284 1 P.length (qs.map bU).flatten]/\μ=dd+1) (h_9 0 3 4 5 9 10 11 12 13) ⟨min gq 999999999,v119,⟨by have h:=Nat.le_min.2 ⟨hgs,(by omega:X / (n*f)<=999999999)⟩;exact h,by omega,hq119.mono mup⟩,Z,Z,Z⟩ (fun fr C1' L1' m _ hI=>?_);obtain ⟨dd,v13,⟨hdd1,hdd2,hp13⟩,rfl,rfl,rfl⟩:=hI;refine G.rp 2 fun R hR=>?_;refine D.ag (mO _ hp13.m_ hXn.m_) ?_;refine D.lc 1 0 3 4 5 9 10 11 12 13 123 hR ?_;clear hR R;refine G.cd (fun h123=>?_) fun h123=>?_
      ·have hgt:X<n*f*dd:=by
        have:0<iw (n*f*dd) X:=by simpa using h123
        exact Bk.1 this
       have hdd0:1<=dd:=by
        rcases LV dd with h | h
        ·rw [h] at hgt;omega
        ·exact h
       refine G.rp 1 fun R hR=>?_;refine D.aa (PtrTo.block (Mem.get hb3 mup) _) ?_;refine D.au (qI (k:=100002) _ hp13.m_ hnD.m_ (da (k:=100002) (n:=100001+1) (im (k:=100001) hNfB hdd2) (aP _)) (MO _ hdd0) om_) U7 fl_ (fun v126 _ _ hq126=>?_);refine D.q9 1 0 3 4 5 9 10 11 12 13 hR ?_;clear hR R;refine G.rp 1 fun R hR=>?_;refine D.int (((dd-1:Nat):Int)) U4 (by rw [IntKind.wrap_u64];omega) U2 ?_;refine D.q9 1 0 3 4 5 9 10 11 12 13 hR ?_;clear hR R;rw [show n*f*dd-n*f=n*f*(dd-1) from by rw [Nat.mul_sub,Nl]] at hq126;refine G.ax (m':=dd-1+1) om_ mup (h_9 0 3 4 5 9 10 11 12 13) ⟨dd-1,v126,⟨by have h:=(Mn hNf).2 (by rw [K8];exact hgt);omega,by omega,hq126.mono mup⟩,Z,Z,Z⟩
      ·have hgt:n*f*dd<=X:=by
        have h:¬ 0<iw (n*f*dd) X:=by simpa using h123
        rw [Bk] at h;omega
       have hdde:dd=X / (n*f):=Nat.le_antisymm ((Nat.le_div_iff_mul_le hNf).2 (by rw [K8];exact hgt)) hdd1;have hrest:X-n*f*dd=X % (n*f):=by rw [hdde];have:=Nw X (n*f);omega
       refine G.aG [0,1,2,3,4,5,6,7,8] [] Z kr_ (fun R hB hR=>?_);refine D.af (.head _) ?_;refine D.ps 4 ?_;refine D.au (qI (k:=100002) _ hXn.m_ hp13.m_ hXB hgt om_) U7 fl_ (fun v134 _ _ hq134=>?_);refine D.bu (j*1) U10 (fun _=>⟨by omega,by omega,(by rw [show (((j+1:Nat):Int)-1).toNat=j by omega])⟩) U2 ?_;refine D.bE (j:=1) U11 (by show j*1+1<=_;rw [cX dT,hql];omega) ?_;refine D.ac ?_;refine D.e7 0 3 4 5 9 10 11 hR ?_;clear hR hB R;refine G.rp 1 fun R hR=>?_;refine D.ar _ ?_;refine D.q7 1 0 3 4 5 9 10 11 hR ?_;clear hR R;rw [show ((j+1:Nat):Int)-1-1=(j:Int)-1 by omega];refine G.perm (L':=[.obj b4 (.cells ⟨[qU b67 P.length P.length]⟩ 367 (0,0)),.arr (qU b67 P.length P.length) 284 1 P.length (aM (qs.map bU).flatten (bU dd) (j*1))]) (List.Perm.swap _ _ _) ?_;refine G.be (L':=[.obj b4 (.cells ⟨[qU b67 P.length P.length]⟩ 367 (0,0)),.arr (qU b67 P.length P.length) 284 1 P.length ((qs.set j dd).map bU).flatten]) (by rw [<- bV dT _ (by omega:j<qs.length)]) ?_;rw [hrest] at hq134;refine G.ax (m':=j+1) om_ mup (h_7 0 3 4 5 9 10 11) ⟨j,qs.set j dd,v134,⟨by omega,by simp [hql],hqd.set hdd2,by rw [jv om_,hqv,hPj,hdp.1,hdde];omega,by rw [hPj,hdp.2];exact hq134.mono mup,fun j' h=>by rw [nj om_];exact hqz j' om_⟩,Z,Z,Z⟩
   ·have hi0:i=0:=by
     have:¬ (0:Int)<=(i:Int)-1:=by simpa using h78
     omega
    subst hi0;rw [LR,LR,hPv,Nat.mul_div_mul_right _ _ hf0] at hqv;rw [LR,hPv,Nat.mul_mod_mul_right] at hr5;refine G.rp 2 fun R hR=>?_;refine D.ah [bU f] (fun p139 _ _ hs139=>?_);refine D.au (pi _ _ _ (m % n*f) f hr5.m_ (by
     have h1:=im (k:=100000) (ML (K9 m hn0) hnB) hfB;exact da (k:=200000) (n:=100000+1) h1 dc_) hs139.m_ hf0 hfB) U7 fl_ (fun v140 _ _ hq140=>?_)
    obtain ⟨q2,r2,rfl,hq2,hr2⟩:=hq140;rw [Nat.mul_div_cancel _ hf0] at hq2;refine D.q2 4 4 5 hR ?_;clear hR R;refine G.perm (L':=[.arr (qU b67 P.length P.length) 284 1 P.length (qs.map bU).flatten,.obj b4 (.cells ⟨[qU b67 P.length P.length]⟩ 367 (0,0))]) (List.Perm.swap _ _ _) ?_;refine G.aY [(1,3)] Z (fun R hR=>?_);refine D.af (.tail _ (.head _)) ?_;refine D.call (fH _ _ qs hql) Z (.inr dc_) U6 (il _) fl_ (fun v144 _ L144 _ hq144=>?_);refine D.ac ?_;obtain ⟨rfl,hu⟩:=hq144;obtain ⟨Au,cu,rfl,_⟩:=id hu;refine D.ae (j:=0) ?_;refine D.q2 1 4 5 hR ?_;clear hR R;refine G.aB (G.xI (vY (.head _) Z Z Z Z Z) ?_ Ff);exact ⟨Z,_,_,Z,⟨zA qs,gk hqd,by rw [gj,hqv],hu⟩,hq2.mono mup⟩
theorem ta (C:Mem)(va vb:Value)(m n:Nat)(ha:NineC C va m)(hb:NineC C vb n)(hm:m<B9 ^ 100000)(hn0:0<n) :
  Pur cx.P 272 [va,vb] C fun u D=>∃ q r,u=.tuple #[q,r]/\NineC D q (m / n)/\NineC D r (m % n):=by
 rcases Ld n B9 with hn1 | hn1
 ·obtain ⟨l,h1,h2,h3,h4⟩:=hb.get (m:=1) (by rw [Nat.pow_one];exact hn1);have hne:l≠[]:=fun e=>by rw [e] at h2;rw [<- h2] at hn0;exact absurd hn0 dc_
  obtain ⟨d,rfl⟩:∃ d,l=[d]:=by
   cases l with
   | nil=>exact absurd rfl hne
   | cons d l=>cases l with
    | nil=>exact ⟨d,rfl⟩
    | cons e l=>simp at h3
  have hd:d=n:=by rw [<- h2];show d=d+B9*0;omega
  subst hd;exact pi C va vb m d ha (da (k:=200000) (n:=100000) hm dc_) h4 hn0 hn1
 ·exact yT C va vb m n ha hb hm hn1

theorem E2 (C:Mem)(s:Str)(c:UInt8):Gives cx.P 243 [aA s,aA [c]] C (.bool (aZ c s).2):=by
 refine Fn.it kr_ Tryz.func243 8 fun w0=>?_;refine G.z2 1 0 1 ?_;refine G.rp 2 fun R hR=>?_;refine D.ag (uF _ s c) ?_;refine D.q1 1 4 hR ?_;refine G.rf ?_;exact ⟨Z,Z⟩
theorem zT (C:Mem)(s:Str)(c:UInt8):Gives cx.P 301 [aA s,aA [c]] C (aA (aZ c s).1):=by
 refine Fn.it kr_ Tryz.func301 13 fun w0=>?_;refine G.z2 1 0 1 ?_;refine G.rp 2 fun R hR=>?_;refine D.ag (uF _ s c) ?_;refine D.e3 0 1 7 hR ?_;refine G.cd (fun h7=>?_) fun h7=>?_
 ·have h:s.head?=some c:=Lw fun h=>by unfold aZ at h7;rw [a7 h] at h7;cases h7
  have hlen:1<=s.length:=by cases s with
   | nil=>cases h
   | cons b s=>simp
  refine G.rp 3 fun R hR=>?_;refine D.bF 1 s.length U9 (fun _=>⟨.inr ⟨_,Z⟩,.inl ⟨Z,Z⟩,.inl ⟨Z,Z⟩,by omega,aP _,aP _⟩) U2 ?_;refine D.q1 1 4 hR ?_;refine G.rf ?_;unfold aZ;rw [bW h];refine ⟨?_,Z⟩;rw [cK,List.drop_one];rfl
 ·have h:¬ s.head?=some c:=fun h=>by unfold aZ at h7;rw [bW h] at h7;cases h7
  refine G.z1 2 4 ?_;refine G.rf ?_;unfold aZ;rw [a7 h];exact ⟨Z,Z⟩
theorem vK (C:Mem)(s:Str)(c:UInt8):Gives cx.P 265 [aA s,aA [c]] C (aA (aZ c s).1):=by
 refine Fn.it kr_ Tryz.func265 8 fun w0=>?_;refine G.z2 1 0 1 ?_;refine G.rp 2 fun R hR=>?_;refine D.ag (zT _ s c) ?_;refine D.q1 1 4 hR ?_;refine G.rf ?_;exact ⟨Z,Z⟩
def fg (z:Int):Int:=if z<0 then -1 else if z=0 then 0 else 1
theorem jR (C:Mem)(z:Int):Gives cx.P 164 [aA (txt z)] C (.int .i64 (fg z)):=by
 refine Fn.it kr_ Tryz.func164 9 fun w0=>?_;refine G.z1 1 0 ?_
 skip
 refine G.z2 3 0 3 ?_;refine G.cd (fun h3=>?_) fun h3=>?_
 ·have hz:z=0:=by
   have h:=jy z;rw [h] at h3;exact bi h3
  refine G.z1 1 2 ?_;refine G.rf ?_;exact ⟨by rw [hz];rfl,Z⟩
 ·have hz:z≠0:=by
   have h:=jy z;rw [h] at h3;exact dj h3
  refine G.rp 1 fun R hR=>?_;refine D.ag (E2 _ (txt z) 45) ?_;refine D.q1 1 6 hR ?_;refine G.cd (fun h6=>?_) fun h6=>?_
  ·have hn:z<0:=by
    rw [cN] at h6;exact bi h6
   refine G.z1 1 2 ?_;refine G.rf ?_;exact ⟨by rw [fg,bW hn],Z⟩
  ·have hn:¬ z<0:=by
    rw [cN] at h6;exact dj h6
   refine G.z1 1 2 ?_;refine G.rf ?_;exact ⟨by rw [fg,a7 hn,a7 hz],Z⟩
theorem o4 (C:Mem)(hT:Tabs C)(z:Int)(h0:-9223372036854775808<=z)(h1:z<=9223372036854775807):Gives cx.P 111 [.int .i64 z] C (aA (txt z)):=by
 refine Fn.it kr_ Tryz.func111 5 fun w0=>?_;refine G.z1 1 0 ?_;refine G.rp 1 fun R hR=>?_;refine D.ag (eX _ hT.m_ z h0 h1) ?_;refine D.q1 1 2 hR ?_;refine G.rf ?_;exact ⟨Z,Z⟩
theorem gW (z:Int):(txt z).length<=(aT z.natAbs).length+1:=by unfold txt;split <;> simp
theorem qN (C:Mem)(z:Int)(hl:(aT z.natAbs).length<=1000000):Gives cx.P 244 [aA (txt z)] C (aA (txt (-z))):=by
 have htl:=gW z;refine Fn.it kr_ Tryz.func244 14 fun w0=>?_;refine G.z1 1 0 ?_;refine G.rp 1 fun R hR=>?_;refine D.ag (jR _ z) ?_;refine D.e2 0 4 hR ?_;refine G.z3 2 0 4 5 ?_;refine G.cd (fun h5=>?_) fun h5=>?_
 ·have hz:0<z:=by
   have h:fg z=1:=by simpa using h5
   unfold fg at h;split at h
   ·cases h
   ·split at h
    ·cases h
    ·omega
  refine G.rp 1 fun R hR=>?_;refine D.bM U6 (fun _=>(by simp only [fh,J8];omega)) U2 ?_;refine D.q1 1 2 hR ?_;refine G.rf ?_;refine ⟨?_,Z⟩;unfold txt;rw [a7 om_,bW om_,MN];rfl
 ·have hz:¬ 0<z:=fun h=>by
   have h2:fg z=1:=by unfold fg;rw [a7 om_,a7 om_]
   rw [h2] at h5;cases h5
  refine G.z2 2 0 9 ?_;refine G.cd (fun h9=>?_) fun h9=>?_
  ·have hz2:z<0:=by
    have h:fg z=-1:=by simpa using h9
    unfold fg at h;split at h
    ·assumption
    ·split at h <;> cases h
   refine G.rp 1 fun R hR=>?_;refine D.bF 1 (txt z).length U9 (fun _=>⟨.inr ⟨_,Z⟩,.inl ⟨Z,Z⟩,.inl ⟨Z,Z⟩,(by unfold txt;rw [bW hz2];simp),aP _,aP _⟩) U2 ?_;refine D.q1 1 2 hR ?_;refine G.rf ?_;refine ⟨?_,Z⟩;rw [cK];unfold txt;rw [bW hz2,a7 om_,MN];rfl
  ·have hz2:¬ z<0:=fun h=>by
    have h2:fg z=-1:=by unfold fg;rw [bW h]
    rw [h2] at h9;cases h9
   refine G.z1 2 2 ?_;refine G.rf ?_;refine ⟨?_,Z⟩;rw [show z=0 by omega];rfl
theorem CX:∀ {s t:Str},(∀ c∈s,dE c=true)->(∀ c∈t,dE c=true)->s.length=t.length->Lib.compareBytes s t=iw (aX s) (aX t)
 | [],[],_,_,_=>rfl
 | [],_::_,_,_,h=>by simp at h
 | _::_,[],_,_,h=>by simp at h
 | c::s,d::t,hs,ht,hl=>by
  have hl2:s.length=t.length:=by simpa using hl
  have hs2:∀ x∈s,dE x=true:=fun x hx=>hs x (by simp [hx]);have ht2:∀ x∈t,dE x=true:=fun x hx=>ht x (by simp [hx]);have ih:=CX hs2 ht2 hl2;have h1:=cV hs2;have h2:=cV ht2;have hc:=hs c (by simp);have hd:=ht d (by simp);simp only [dE,cH] at hc hd;rw [de,de,hl2];rw [hl2] at h1;simp only [Lib.compareBytes];obtain ⟨p,hp⟩:∃ p,10 ^ t.length=p:=⟨_,rfl⟩;rw [hp] at h1 h2 ⊢;by_cases hlt:c<d
  ·rw [bW hlt];have hlt2:c.toNat<d.toNat:=hlt;have h3:(c.toNat-48+1)*p<=(d.toNat-48)*p:=Lm _ om_;rw [L9] at h3;unfold iw;rw [bW om_]
  ·rw [a7 hlt];by_cases hgt:d<c
   ·rw [bW hgt];have hgt2:d.toNat<c.toNat:=hgt;have h3:(d.toNat-48+1)*p<=(c.toNat-48)*p:=Lm _ om_;rw [L9] at h3;unfold iw;rw [a7 om_,bW om_]
   ·rw [a7 hgt,ih];have hcd:c.toNat=d.toNat:=by
     have h3:¬ c.toNat<d.toNat:=hlt;have h4:¬ d.toNat<c.toNat:=hgt;omega
    rw [hcd];unfold iw;split <;> rename_i h5
    ·rw [bW om_]
    ·split <;> rename_i h6
     ·rw [a7 om_,bW om_]
     ·rw [a7 om_,a7 om_]
theorem nE {a b:Nat}(h:(aT a).length<(aT b).length):a<b:=by
 obtain ⟨h1,h2⟩:=aV a;obtain ⟨h3,h4⟩:=aV b;have ha:=K6.2 h1.2.1;have h5:=cV h1.1;have h6:=l6 h3 om_;have h7:10 ^ (aT a).length<=10 ^ ((aT b).length-1):=gr dc_ om_;omega
theorem H5 {a b:Nat}(h:(aT a).length=(aT b).length):Lib.compareBytes (aT a) (aT b)=iw a b:=by
 obtain ⟨h1,h2⟩:=aV a;obtain ⟨h3,h4⟩:=aV b;rw [CX h1.1 h3.1 h,h2,h4]
def rL (z w:Int):Int:=if z<w then -1 else if w<z then 1 else 0
theorem eM (z:Int):(z<0/\fg z=-1)∨(z=0/\fg z=0)∨(0<z/\fg z=1):=by
 unfold fg;split
 ·exact .inl ⟨by assumption,Z⟩
 ·split
  ·exact .inr (.inl ⟨by assumption,Z⟩)
  ·exact .inr (.inr ⟨by omega,Z⟩)
theorem uV {z w:Int}(h:fg z=fg w):rL z w=fg z*iw z.natAbs w.natAbs:=by
 have hw:=eM w;rw [<- h] at hw;unfold rL iw;rcases eM z with ⟨h1,h2⟩ | ⟨h1,h2⟩ | ⟨h1,h2⟩ <;> rw [h2] at hw ⊢
 ·have h3:w<0:=by omega
  split <;> split <;> (try split) <;> omega
 ·have h3:w=0:=by omega
  subst h1 h3;simp
 ·have h3:0<w:=by omega
  split <;> split <;> (try split) <;> omega
theorem Eo (z:Int):IntKind.i64.wrap (-(fg z))=-(fg z):=by
 rcases eM z with ⟨h1,h2⟩ | ⟨h1,h2⟩ | ⟨h1,h2⟩ <;> rw [h2] <;> rfl
theorem Ai (C:Mem)(a b:Str):Gives cx.P 266 [aA a,aA b] C (.int .i64 (Lib.compareBytes a b)):=uf Tryz.scmp a b C kr_
theorem ng (C:Mem)(z w:Int)(_hz:(aT z.natAbs).length<=1000000)(_hw:(aT w.natAbs).length<=1000000):Gives cx.P 212 [aA (txt z),aA (txt w)] C (.int .i64 (rL z w)):=by
 have ez:(aZ 45 (txt z)).1=aT z.natAbs:=by rw [cN]
 have ew:(aZ 45 (txt w)).1=aT w.natAbs:=by rw [cN]
 refine Fn.it kr_ Tryz.func212 41 fun w0=>?_;refine G.z2 1 0 1 ?_;refine G.rp 1 fun R hR=>?_;refine D.ag (jR _ z) ?_;refine D.ac ?_;refine D.ag (jR _ w) ?_;refine D.q4 2 0 1 5 6 hR ?_;refine G.z5 3 0 1 5 6 15 ?_;refine G.cd (fun h15=>?_) fun h15=>?_
 ·have hne:fg z≠fg w:=by simpa using h15
  refine G.z1 3 18 ?_;refine G.cd (fun h18=>?_) fun h18=>?_
  ·have hlt:fg z<fg w:=by simpa using h18
   refine G.z1 1 4 ?_;refine G.rf ?_;refine ⟨?_,Z⟩;rw [rL,bW (by unfold fg at hlt;split at hlt <;> split at hlt <;> (try split at hlt) <;> omega)]
  ·have hlt:¬ fg z<fg w:=by simpa using h18
   refine G.z1 1 4 ?_;refine G.rf ?_;refine ⟨?_,Z⟩;have h:w<z:=by
    have h2:fg w<fg z:=by omega
    unfold fg at h2;split at h2 <;> split at h2 <;> (try split at h2) <;> omega
   rw [rL,a7 om_,bW h]
 ·have hse:fg z=fg w:=by simpa using h15
  refine G.rp 1 fun R hR=>?_;refine D.ag (vK _ (txt z) 45) ?_;refine D.ac ?_;refine D.ag (vK _ (txt w) 45) ?_;rw [ez,ew];refine D.q3 2 5 7 8 hR ?_;refine G.z4 5 5 7 8 27 ?_;refine G.cd (fun h27=>?_) fun h27=>?_
  ·have hne:(aT z.natAbs).length≠(aT w.natAbs).length:=fun e=>by
    have h:(((aT z.natAbs).length:Nat):Int)≠(((aT w.natAbs).length:Nat):Int):=by simpa using h27
    exact h (by rw [e])
   refine G.z2 5 5 32 ?_;refine G.cd (fun h32=>?_) fun h32=>?_
   ·have hlt:z.natAbs<w.natAbs:=nE (by
     have h:(((aT z.natAbs).length:Nat):Int)<(((aT w.natAbs).length:Nat):Int):=by simpa using h32
     omega)
    refine G.z1 3 4 ?_;refine G.rf ?_;refine ⟨?_,Z⟩;rw [Int.zero_sub,Eo,uV hse,show iw z.natAbs w.natAbs=-1 from bW hlt];congr 1;omega
   ·have hlt:w.natAbs<z.natAbs:=nE (by
     have h:¬ (((aT z.natAbs).length:Nat):Int)<(((aT w.natAbs).length:Nat):Int):=by simpa using h32
     omega)
    refine G.z1 2 4 ?_;refine G.rf ?_;refine ⟨?_,Z⟩;rw [uV hse,show iw z.natAbs w.natAbs=1 from by unfold iw;rw [a7 om_,bW hlt]];congr 1;omega
  ·have heq:(aT z.natAbs).length=(aT w.natAbs).length:=by
    have h:(((aT z.natAbs).length:Nat):Int)=(((aT w.natAbs).length:Nat):Int):=by simpa using h27
    omega
   refine G.rp 3 fun R hR=>?_;refine D.ag (Ai _ (aT z.natAbs) (aT w.natAbs)) ?_;rw [H5 heq];refine D.cf ((rL z w)) U4 (by rw [uV hse]) (by unfold rL;split <;> (try split) <;> omega) (by unfold rL;split <;> (try split) <;> omega) U2 ?_
   refine D.q1 1 4 hR ?_;refine G.rf ?_;exact ⟨Z,Z⟩

def w7 (b:Bool):Int:=if b then 0 else 2
theorem sT (C:Mem)(s:Str):Gives cx.P 220 [aA s] C (.int .i64 (w7 (bI s))):=by
 obtain ⟨t,neg,hdp⟩:∃ t b,aZ 45 s=(t,b):=⟨_,_,rfl⟩;have hcb:bI s=(t.all dE && !(t == []) && !(t.head? == some 48 && (neg || decide (1<t.length))) && decide (t.length<=200)):=by unfold bI tD;rw [hdp]
 refine Fn.it kr_ Tryz.func220 47 fun w0=>?_;refine G.z1 1 0 ?_;refine G.rp 1 fun R hR=>?_;refine D.aj (by have h:=uS C s 45;rw [hdp] at h;exact h) U7 fl_ ?_;refine D.q2 5 3 4 hR ?_;refine G.rp 6 fun R hR=>?_;refine D.aI ?_;refine D.ps 2 ?_;refine D.aW (b:=t.headD 0) U8 (fun hg=>⟨by omega,(by
  cases t with
  | nil=>exact Bool.noConfusion (show true=false from hg.1)
  | cons b t=>rfl)⟩) U2 ?_
 refine D.ps 7 ?_;refine D.aI ?_;refine D.aw ?_;refine D.aI ?_;refine D.e2 3 30 hR ?_;refine G.cd (fun h30=>?_) fun h30=>?_
 ·have hno:bI s=false:=by
   rw [hcb];cases t with
   | nil=>simp
   | cons b t =>
    simp at h30;rcases h30 with h | ⟨h,h2⟩
    ·simp;intro _ _;omega
    ·have hb:b=48:=N5.1 (by show b.toNat=48;omega);subst hb;have h6:(neg || decide (1<((48:UInt8)::t).length))=true:=by
      rcases h2 with h2 | h2
      ·rw [j9 (by simp;omega)];simp
      ·rw [h2];rfl
     rw [h6];simp
  refine G.z1 1 2 ?_;refine G.rf ?_;exact ⟨by rw [hno];rfl,Z⟩
 ·have hlen:t.length<=200:=by
   simp at h30;omega
  refine G.z3 3 3 32 33 ?_;refine G.loop (fun fr C' L' μ=>∃ (i:Nat),(i<=t.length/\∀ c∈t.take i,dE c=true)/\fr=[(3,[],aA t),(32,[],.int .i64 t.length),(33,[],.int .i64 i)]/\L'=[]/\μ=t.length-i) (h_3 3 32 33) ⟨0,⟨ch _,by simp⟩,Z,Z,Z⟩ (fun fr C0' L0' m _ hI=>?_);obtain ⟨i,⟨hi,hdig⟩,rfl,rfl,rfl⟩:=hI;refine G.z4 1 3 32 33 34 ?_;refine G.cd (fun h34=>?_) fun h34=>?_
  ·have hil:i<t.length:=by simpa using h34
   obtain ⟨c,hc⟩:∃ c,t[i]?=some c:=⟨t[i],aq hil⟩;refine G.z4 2 3 5 32 33 ?_;refine G.rp 2 fun R hR=>?_;refine D.aW U8 (fun _=>⟨by omega,hc⟩) U2 ?_;refine D.ps 4 ?_;refine D.aW U8 (fun _=>⟨by omega,hc⟩) U2 ?_;refine D.ac ?_;refine D.aI ?_;refine D.e4 3 32 33 45 hR ?_;refine G.cd (fun h45=>?_) fun h45=>?_
   ·have hno:bI s=false:=by
     have h1:t.all dE=false:=by
      rw [M9];refine ⟨c,ba hc, ?_⟩;simp at h45;unfold dE;simp;omega
     rw [hcb,h1];rfl
    refine G.z1 1 2 ?_;refine G.rf ?_;exact ⟨by rw [hno];rfl,Z⟩
   ·have hcd:dE c=true:=by
     simp at h45;unfold dE;simp;omega
    refine G.rg fun R hR=>?_;refine D.ar _ ?_;refine D.q3 1 3 32 33 hR ?_;refine G.ax (m':=t.length-(i+1)) om_ mup (h_3 3 32 33) ⟨i+1,⟨by omega,fun x hx=>by
     rw [xO,hc] at hx;rcases Lh.1 hx with h | h
     ·exact hdig x h
     ·simp at h;subst h;exact hcd⟩,rfl,rfl,rfl⟩
  ·have hil:t.length<=i:=by
    have:¬ i<t.length:=by simpa using h34
    omega
   rw [gG hil] at hdig;have hall:t.all dE=true:=ep.2 hdig;have hyes:bI s=true:=by
    rw [hcb,hall,j9 hlen];cases t with
    | nil=>simp at h30
    | cons b t =>
     simp at h30;simp;by_cases hb:b=48
     ·subst hb;have h5:=h30.2;simp at h5;exact .inr ⟨h5.2,LL om_⟩
     ·exact .inl hb
   refine G.z1 1 2 ?_;refine G.rf ?_;exact ⟨by rw [hyes];rfl,Z⟩

theorem bG {n k:Nat}(h:n<B9 ^ k)(hk:0<k):(aT n).length<=9*k:=dt (by rw [Gd];exact h) om_
theorem vd {z:Int}{m:Nat}(h:(txt z).length<=m):z.natAbs<10 ^ m:=by
 have h1:(aT z.natAbs).length<=m:=by
  unfold txt at h;split at h
  ·simp at h;omega
  ·exact h
 obtain ⟨h2,h3⟩:=aV z.natAbs;have h4:=cV h2.1;rw [h3] at h4;exact K4 h4 (gr dc_ h1)
theorem e18:(10:Nat) ^ 18=1000000000000000000:=by decide
theorem e9:(10:Nat) ^ 9=1000000000:=by decide
theorem pZ {a b k:Nat}(ha:a<B9 ^ k)(hb:b<B9 ^ k):a+b<B9 ^ (k+1):=by
 rw [Lb];have:B9 ^ k*2<=B9 ^ k*B9:=Ln _ dc_;omega
theorem Hz (C:Mem)(hT:Tabs C)(z w:Int)(k:Nat)(hk0:0<k)(hk:k<=40000)(hz:z.natAbs<B9 ^ k)(hw:w.natAbs<B9 ^ k):Gives cx.P 264 [aA (txt z),aA (txt w)] C (aA (txt (z+w))):=by
 have hzl:=bG hz hk0;have hwl:=bG hw hk0;refine Fn.it kr_ Tryz.func264 62 fun w0=>?_;refine G.z2 1 0 1 ?_;refine G.rp 1 fun R hR=>?_;refine D.ag (iv _ z 18 (aP _)) ?_;refine D.q4 5 0 1 5 6 hR ?_;refine G.z4 1 0 1 5 16 ?_;refine G.cut (fun fr C' L' μ=>(True)/\fr=[(0,[],aA (txt z)),(1,[],aA (txt w))]/\L'=[]) ?_ (fun fr _ L16 μ _ hI=>?_)
 ·refine G.cd (fun h16=>?_) fun h16=>?_
  ·have hz18:=bi h16;rw [bW hz18];have hza:=vd hz18;rw [e18] at hza;refine G.rp 1 fun R hR=>?_;refine D.ag (iv _ w 18 (aP _)) ?_;refine D.q5 5 0 1 5 7 8 hR ?_;refine G.z5 1 0 1 5 7 22 ?_;refine G.cd (fun h22=>?_) fun h22=>?_
   ·have hw18:=bi h22;rw [bW hw18];have hwa:=vd hw18;rw [e18] at hwa;refine G.rp 2 fun R hR=>?_;refine D.ar _ ?_;refine D.aj (o4 _ hT.m_ (z+w) om_ om_) U7 fl_ ?_;refine D.q1 1 4 hR ?_;refine G.rf ?_;exact ⟨Z,Z⟩
   ·refine G.aK 0 (Mem.le.refl _) (h_2 0 1) ⟨trivial,Z,Z⟩
  ·refine G.aK 0 (Mem.le.refl _) (h_2 0 1) ⟨trivial,Z,Z⟩
 ·obtain ⟨_,rfl,rfl⟩:=hI;refine G.rp 1 fun R hR=>?_;refine D.au (hZ _ z om_) U7 fl_ (fun v28 _ _ hq28=>?_);refine D.ac ?_;refine D.au (hZ _ w om_) U7 fl_ (fun v30 _ _ hq30=>?_);refine D.ai (fun b9=>?_);refine D.ai (fun b10=>?_);obtain ⟨pz,rfl,hpz⟩:=hq28;obtain ⟨pw,rfl,hpw⟩:=hq30;obtain ⟨Az,mz,cz,rfl⟩:=hpz.form;obtain ⟨Aw,mw,cw,rfl⟩:=hpw.form;refine D.ae (j:=1) ?_;refine D.ae (j:=1) ?_;refine D.e2 9 10 hR ?_;refine G.rp 1 fun R hR=>?_;refine D.af (.tail _ (.head _)) ?_;refine D.ac ?_;refine D.af (.head _) ?_;refine D.q3 1 9 10 35 hR ?_;refine G.cd (fun h35=>?_) fun h35=>?_
  ·have hsg:decide (z<0)=decide (w<0):=by simpa using h35
   refine G.aG [0,1,2,3,4,5,6,7,8,9] [(8,1)] Z kr_ (fun R hB hR=>?_);refine D.ac ?_;refine D.af (.tail _ (.head _)) ?_;refine D.ac ?_;refine D.af (.tail _ (.head _)) ?_;refine D.ac ?_;refine D.af (.head _) ?_;refine D.au (Ge (k:=k) _ hpz.m_ hpw.m_ hz hw om_) U7 fl_ (fun v42 _ _ hq42=>?_);obtain ⟨Ap,mp,cp,rfl⟩:=hq42.form;refine D.ap [.bool (decide (z<0)),_] ?_;refine D.ay (fun _=>(iH _ hT.m_ _ _ _ hq42 (da (k:=100000) (n:=k+1) (pZ hz hw) om_))) U9 ?_;refine D.q1 1 4 hR ?_;refine G.rf ?_;exact ⟨by rw [AB hsg],Z⟩
  ·have hsg:decide (z<0)≠decide (w<0):=by simpa using h35
   refine G.rp 1 fun R hR=>?_;refine D.af (.tail _ (.head _)) ?_;refine D.ac ?_;refine D.af (.head _) ?_;refine D.ag (mO _ hpz.m_ hpw.m_) ?_;refine D.q3 1 9 10 50 hR ?_;refine G.cut (fun fr C' L' μ=>∃ (z2 w2:Int)(v2 u2:Value),(NineC C' v2 z2.natAbs/\NineC C' u2 w2.natAbs/\w2.natAbs<=z2.natAbs/\z2+w2=z+w/\decide (z2<0)≠decide (w2<0)/\z2.natAbs<B9 ^ k)/\fr=[(9,[],.pointer (some ⟨b9,0,none⟩)),(10,[],.pointer (some ⟨b10,0,none⟩))]/\L'=[.obj b10 (.cells ⟨[.bool (decide (w2<0)),u2]⟩ 369 (0,0)),.obj b9 (.cells ⟨[.bool (decide (z2<0)),v2]⟩ 369 (0,0))]) ?_ (fun fr _ L50 μ _ hI=>?_)
   ·refine G.cd (fun h50=>?_) fun h50=>?_
    ·have hlt:z.natAbs<w.natAbs:=by
      have:iw z.natAbs w.natAbs<0:=by simpa using h50
      exact g8.1 this
     refine G.rg fun R hR=>?_;refine D.af (.head _) ?_;refine D.af (.tail _ (.head _)) ?_;refine D.ae (j:=1) ?_;refine D.ae (j:=1) ?_;refine D.e2 9 10 hR ?_;refine G.aK 0 mup (h_2 9 10) ⟨w,z,_,_,⟨hpw.mono mup,hpz.mono mup,by omega,Int.add_comm w z,Ne.symm hsg,hw⟩,Z,Z⟩
    ·have hlt:w.natAbs<=z.natAbs:=by
      have h:¬ iw z.natAbs w.natAbs<0:=by simpa using h50
      rw [g8] at h;omega
     refine G.aK 0 mup (h_2 9 10) ⟨z,w,_,_,⟨hpz.mono mup,hpw.mono mup,hlt,Z,hsg,hz⟩,Z,Z⟩
   ·obtain ⟨z2 ,w2 ,v2 ,u2,⟨hv2,hu2,hle2,hsum2,hsg2,hz2⟩,rfl,rfl⟩:=hI;obtain ⟨Az2,mz2,cz2,rfl⟩:=hv2.form;obtain ⟨Aw2,mw2,cw2,rfl⟩:=hu2.form;refine G.aG [0,1,2,3,4,5,6,7,8,9] [(8,1)] Z kr_ (fun R hB hR=>?_);refine D.ac ?_;refine D.af (.tail _ (.head _)) ?_;refine D.ac ?_;refine D.af (.tail _ (.head _)) ?_;refine D.ac ?_;refine D.af (.head _) ?_;refine D.au (qI (k:=k) _ hv2.m_ hu2.m_ hz2 hle2 om_) U7 fl_ (fun v59 _ _ hq59=>?_);obtain ⟨Ap,mp,cp,rfl⟩:=hq59.form;refine D.ap [.bool (decide (z2<0)),_] ?_;refine D.ay (fun _=>(iH _ hT.m_ _ _ _ hq59 (da (k:=100000) (n:=k) om_ om_))) U9 ?_;refine D.q1 1 4 hR ?_;refine G.rf ?_;exact ⟨by rw [AC hsg2 om_,hsum2],Z⟩
theorem AD (z w:Int):sgZ (decide (z<0) != decide (w<0)) (z.natAbs*w.natAbs)=z*w:=by
 unfold sgZ;have h1:z=if z<0 then -(z.natAbs:Int) else (z.natAbs:Int):=by split <;> omega
 have h2:w=if w<0 then -(w.natAbs:Int) else (w.natAbs:Int):=by split <;> omega
 by_cases hz:z<0 <;> by_cases hw:w<0
 ·rw [j9 hz,j9 hw,a7 dc_];rw [bW hz] at h1;rw [bW hw] at h2;rw [La]
  conv=>rhs;rw [h1,h2]
  rw [Int.neg_mul_neg]
 ·rw [j9 hz,K3 hw,bW dc_];rw [bW hz] at h1;rw [a7 hw] at h2;rw [La]
  conv=>rhs;rw [h1,h2]
  rw [Int.neg_mul]
 ·rw [K3 hz,j9 hw,bW dc_];rw [a7 hz] at h1;rw [bW hw] at h2;rw [La]
  conv=>rhs;rw [h1,h2]
  rw [Int.mul_neg]
 ·rw [K3 hz,K3 hw,a7 dc_];rw [a7 hz] at h1;rw [a7 hw] at h2;rw [La]
  conv=>rhs;rw [h1,h2]
theorem lR {a b k:Nat}(ha:a<B9 ^ k)(hb:b<B9 ^ k):a*b<B9 ^ (k+k):=by
 rw [MX];exact Ms ha hb
theorem wg {z w:Int}(hz:z.natAbs<1000000000)(hw:w.natAbs<1000000000):-1000000000000000000<z*w/\z*w<1000000000000000000:=by
 have h:z.natAbs*w.natAbs<=999999999*999999999:=NF om_ om_;rw [<- Mo] at h;omega
theorem jl (C:Mem)(hT:Tabs C)(z w:Int)(k:Nat)(hk0:0<k)(hk:k<=40000)(hz:z.natAbs<B9 ^ k)(hw:w.natAbs<B9 ^ k):Gives cx.P 213 [aA (txt z),aA (txt w)] C (aA (txt (z*w))):=by
 have hzl:=bG hz hk0;have hwl:=bG hw hk0;refine Fn.it kr_ Tryz.func213 43 fun w0=>?_;refine G.z2 1 0 1 ?_;refine G.rp 1 fun R hR=>?_;refine D.aj (iv _ z 9 om_) U7 fl_ ?_;refine D.q4 5 0 1 5 6 hR ?_;refine G.z4 1 0 1 5 16 ?_;refine G.cut (fun fr C' L' μ=>(True)/\fr=[(0,[],aA (txt z)),(1,[],aA (txt w))]/\L'=[]) ?_ (fun fr _ L16 μ _ hI=>?_)
 ·refine G.cd (fun h16=>?_) fun h16=>?_
  ·have hz18:=bi h16;rw [bW hz18];have hza:=vd hz18;rw [e9] at hza;refine G.rp 1 fun R hR=>?_;refine D.aj (iv _ w 9 om_) U7 fl_ ?_;refine D.q5 5 0 1 5 7 8 hR ?_;refine G.z5 1 0 1 5 7 22 ?_;refine G.cd (fun h22=>?_) fun h22=>?_
   ·have hw18:=bi h22;rw [bW hw18];have hwa:=vd hw18;rw [e9] at hwa;have hpr:=wg hza hwa;refine G.rp 2 fun R hR=>?_;refine D.cf ((z*w)) U4 om_ om_ om_ U2 ?_;refine D.aj (o4 _ hT.m_ (z*w) om_ om_) U7 fl_ ?_;refine D.q1 1 4 hR ?_;refine G.rf ?_;exact ⟨Z,Z⟩
   ·refine G.aK 0 (Mem.le.refl _) (h_2 0 1) ⟨trivial,Z,Z⟩
  ·refine G.aK 0 (Mem.le.refl _) (h_2 0 1) ⟨trivial,Z,Z⟩
 ·obtain ⟨_,rfl,rfl⟩:=hI;refine G.rp 1 fun R hR=>?_;refine D.au (hZ _ z om_) U7 fl_ (fun v28 _ _ hq28=>?_);refine D.ac ?_;refine D.au (hZ _ w om_) U7 fl_ (fun v30 _ _ hq30=>?_);refine D.ai (fun b9=>?_);refine D.ai (fun b10=>?_);obtain ⟨pz,rfl,hpz⟩:=hq28;obtain ⟨pw,rfl,hpw⟩:=hq30;obtain ⟨Az,mz,cz,rfl⟩:=hpz.form;obtain ⟨Aw,mw,cw,rfl⟩:=hpw.form;refine D.ae (j:=1) ?_;refine D.ae (j:=1) ?_;refine D.e2 9 10 hR ?_;refine G.aG [0,1,2,3,4,5,6,7,8,9,10,11,12] [(11,1)] Z kr_ (fun R hB hR=>?_);refine D.ac ?_;refine D.af (.tail _ (.head _)) ?_;refine D.ac ?_;refine D.af (.head _) ?_;refine D.ps 2 ?_;refine D.af (.tail _ (.head _)) ?_;refine D.ac ?_;refine D.af (.head _) ?_;refine D.au (zX (k:=k) _ hpz.m_ hpw.m_ hz hw om_) U7 fl_ (fun v40 _ _ hq40=>?_);obtain ⟨Ap,mp,cp,rfl⟩:=hq40.form;refine D.ap [.bool (decide (z<0) != decide (w<0)),_] ?_;refine D.ay (fun _=>(iH _ hT.m_ _ _ _ hq40 (da (k:=100000) (n:=k+k) (lR hz hw) om_))) U9 ?_;refine D.q1 1 4 hR ?_;refine G.rf ?_;exact ⟨by rw [AD],Z⟩

def CK (z w:Int):Nat:=if z<0/\z.natAbs % w.natAbs≠0 then z.natAbs / w.natAbs+1 else z.natAbs / w.natAbs
def wQ (z w:Int):Nat:=if z<0/\z.natAbs % w.natAbs≠0 then w.natAbs-z.natAbs % w.natAbs else z.natAbs % w.natAbs
theorem CI {z w:Int}(hw:0<w):sgZ (decide (z<0) != decide (w<0)) (CK z w)=z / w/\(wQ z w:Int)=z % w:=by
 obtain ⟨n,rfl⟩:∃ n:Nat,w=n:=⟨w.natAbs,by omega⟩;have hn:0<n:=by omega
 rw [K3 (by omega:¬ ((n:Nat):Int)<0),Bool.bne_false];have h1:=Nw z.natAbs n;have h2:=K9 z.natAbs hn;obtain ⟨q,hq⟩:∃ q,z.natAbs / n=q:=⟨_,rfl⟩;obtain ⟨r,hr⟩:∃ r,z.natAbs % n=r:=⟨_,rfl⟩;have key:sgZ (decide (z<0)) (CK z n)=z / n/\(wQ z n:Int)=z % n:=by
  have h3:=(Int.ediv_emod_unique (a:=z) (r:=(wQ z n:Int)) (q:=sgZ (decide (z<0)) (CK z n)) (by omega:(0:Int)<(n:Int))).2;have h4:(wQ z n:Int)+(n:Int)*sgZ (decide (z<0)) (CK z n)=z/\0<=(wQ z n:Int)/\(wQ z n:Int)<(n:Int):=by
   unfold CK wQ sgZ;simp only [J9];rw [hq,hr];rw [hr,hq] at h1;rw [hr] at h2;have h5:((r+n*q:Nat):Int)=(z.natAbs:Int):=by rw [h1]
   rw [NM,La] at h5;by_cases hz:z<0
   ·rw [j9 hz,bW rfl];by_cases hr0:r=0
    ·subst hr0;rw [a7 (by simp),a7 (by simp)];rw [Int.mul_neg];omega
    ·rw [bW ⟨hz,hr0⟩,bW ⟨hz,hr0⟩];rw [Int.mul_neg,NM,Oo];omega
   ·rw [K3 hz,a7 (fun h:z<0/\r≠0=>hz h.1),a7 (fun h:z<0/\r≠0=>hz h.1),a7 dc_];omega
  have h6:=h3 h4;exact ⟨h6.1.symm,h6.2.symm⟩
 exact key
theorem o7 (C:Mem)(hT:Tabs C)(z w:Int)(k:Nat)(hk0:0<k)(hk:k<=40000)(hz:z.natAbs<B9 ^ k)(hw:w.natAbs<B9 ^ k)(hw0:0<w):Gives cx.P 245 [aA (txt z),aA (txt w)] C (.tuple #[aA (txt (z / w)),aA (txt (z % w)),.int .i64 0]):=by
 have hzl:=bG hz hk0;have hwl:=bG hw hk0;have hwn:0<w.natAbs:=by omega
 refine Fn.it kr_ Tryz.func245 50 fun w0=>?_;refine G.z2 3 0 1 ?_;refine G.z3 2 0 1 12 ?_;refine G.cd (fun h12=>?_) fun h12=>?_
 ·have h:=jy w;rw [h] at h12;have:w=0:=bi h12;omega
 ·refine G.rp 1 fun R hR=>?_;refine D.au (hZ _ z om_) U7 fl_ (fun v14 _ _ hq14=>?_);refine D.ac ?_;refine D.au (hZ _ w om_) U7 fl_ (fun v16 _ _ hq16=>?_);refine D.ai (fun b7=>?_);refine D.ai (fun b8=>?_);obtain ⟨pz,rfl,hpz⟩:=hq14;obtain ⟨pw,rfl,hpw⟩:=hq16;obtain ⟨Az,mz,cz,rfl⟩:=hpz.form;obtain ⟨Aw,mw,cw,rfl⟩:=hpw.form;refine D.ae (j:=1) ?_;refine D.ae (j:=1) ?_;refine D.e2 7 8 hR ?_;clear hR R;refine G.rp 1 fun R hR=>?_;refine D.af (.tail _ (.head _)) ?_;refine D.ac ?_;refine D.af (.head _) ?_;refine D.au (ta _ _ _ _ _ hpz.m_ hpw.m_ (da (k:=100000) (n:=k) hz om_) hwn) U7 fl_ (fun v22 _ _ hq22=>?_);obtain ⟨vq,vr,rfl,hvq,hvr⟩:=hq22;refine D.q4 5 7 8 9 10 hR ?_;clear hR R;obtain ⟨lr,hcr,hrv,hsr⟩:=id hvr;obtain ⟨Ar,cr,heR,_⟩:=id hsr;rw [aH] at heR;subst heR;have hlr:lr.length=0 ↔ z.natAbs % w.natAbs=0:=by
   rw [<- hrv,xg hcr];exact Nc
  refine G.rp 1 fun R hR=>?_;refine D.af (.tail _ (.head _)) ?_;refine D.ps 4 ?_;refine D.aw ?_;refine D.e5 7 8 9 10 31 hR ?_;clear hR R;refine G.cut (fun fr C' L' μ=>∃ (v9 v10:Value),(NineC C' v9 (CK z w)/\NineC C' v10 (wQ z w))/\fr=[(7,[],.pointer (some ⟨b7,0,none⟩)),(8,[],.pointer (some ⟨b8,0,none⟩)),(9,[],v9),(10,[],v10)]/\L'=[.obj b8 (.cells ⟨[.bool (decide (w<0)),.slice Aw mw cw]⟩ 369 (0,0)),.obj b7 (.cells ⟨[.bool (decide (z<0)),.slice Az mz cz]⟩ 369 (0,0))]) ?_ (fun fr _ L31 μ _ hI=>?_)
  ·refine G.cd (fun h31=>?_) fun h31=>?_
   ·have hcond:z<0/\z.natAbs % w.natAbs≠0:=by
     have h:decide (z<0)=true/\0<lr.length:=by simpa using h31
     exact ⟨bi h.1,fun e=>by have:=hlr.2 e;omega⟩
    have hQ:CK z w=z.natAbs / w.natAbs+1:=bW hcond;have hR':wQ z w=w.natAbs-z.natAbs % w.natAbs:=bW hcond;have hql:z.natAbs / w.natAbs<B9 ^ k:=DS (Lu _ _) hz;refine G.aG [0,3,4,5,1,2,6,7,8] [] Z kr_ (fun R hB hR=>?_);refine D.ps 2 ?_;refine D.af (.head _) ?_;refine D.ac ?_;refine D.ah [bU 1] (fun p33 _ _ hs33=>?_);refine D.au (Ge (k:=k) _ hvq.m_ (⟨[1],⟨(fun x hx=>(by rw [K5.1 hx];decide)),by simp⟩,Z,hs33.mono mup⟩:NineC _ _ 1) hql (K4 (by decide:1<B9 ^ 1) (gr dc_ hk0)) om_) U7 fl_ (fun v34 _ _ hq34=>?_);refine D.au (qI (k:=k) _ hpw.m_ hvr.m_ hw (OI (K9 _ hwn)) om_) U7 fl_ (fun v38 _ _ hq38=>?_);refine D.ps 2 ?_;refine D.e4 7 8 9 10 hR ?_;clear hR hB R;refine G.aK 0 mup (h_4 7 8 9 10) ⟨_,_,⟨by rw [hQ];exact hq34.mono mup,by rw [hR'];exact hq38.mono mup⟩,Z,Z⟩
   ·have hcond:¬ (z<0/\z.natAbs % w.natAbs≠0):=fun h=>by
     have h2:0<lr.length:=by
      rcases LV lr.length with h3 | h3
      ·exact absurd (hlr.1 h3) h.2
      ·exact h3
     have h3:(decide (z<0) && decide ((0:Int)<(lr.length:Int)))=true:=by
      rw [j9 h.1,j9 om_];rfl
     rw [h3] at h31;cases h31
    have hQ:CK z w=z.natAbs / w.natAbs:=a7 hcond;have hR':wQ z w=z.natAbs % w.natAbs:=a7 hcond;refine G.aK 0 mup (h_4 7 8 9 10) ⟨_,_,⟨by rw [hQ];exact hvq.mono mup,by rw [hR'];exact hvr.mono mup⟩,Z,Z⟩
  ·obtain ⟨v9 ,v10,⟨h9,h10⟩,rfl,rfl⟩:=hI;obtain ⟨A9,m9,c9,rfl⟩:=h9.form;obtain ⟨A10,m10,c10,rfl⟩:=h10.form;have hqb:CK z w<B9 ^ 100000:=by
    have h1:z.natAbs / w.natAbs<=z.natAbs:=Lu _ _;have h2:CK z w<=z.natAbs+1:=by unfold CK;split <;> omega
    have h3:B9 ^ k*2<=B9 ^ (k+1):=by rw [Lb];exact Ln _ dc_
    have h4:z.natAbs+1<B9 ^ (k+1):=by have:=Mz (n:=k) (show 0<B9 by decide);omega
    exact da (k:=100000) (n:=k+1) (DS h2 h4) om_
   have hrb:wQ z w<B9 ^ 100000:=by
    have h1:=K9 z.natAbs hwn;have h2:wQ z w<=w.natAbs:=by unfold wQ;split <;> omega
    exact da (k:=100000) (n:=k) (DS h2 hw) om_
   refine G.rp 1 fun R hR=>?_;refine D.af (.tail _ (.head _)) ?_;refine D.ac ?_;refine D.af (.head _) ?_;refine D.ps 2 ?_;refine D.ap [.bool (decide (z<0) != decide (w<0)),_] ?_;refine D.ag (iH _ hT.m_ _ _ _ h9.m_ hqb) ?_;refine D.ac ?_;refine D.ap [.bool false,_] ?_;refine D.ag (iH _ hT.m_ _ _ _ h10.m_ hrb) ?_;refine D.q3 3 4 5 6 hR ?_;clear hR R;refine G.aB (G.dropAll (G.iX U4 ?_));refine ⟨?_,Z⟩;rw [(CI hw0).1,show sgZ false (wQ z w)=z % w from (CI hw0).2]
end Go.Proofs.YtgfiffppookakaaGreatDoor
namespace Go.Jog
open Go

section
variable {cx:Cx} {n:Nat} {ds:List (Option Nat)} {R:Rg n ds} {its:List It} {fr:Fr} {C:Mem} {L:List Ent} {i k d:Nat} {o:Oper} {g:GL} {v:Value}

theorem D.ci {t f ty off:Nat}{x:Operand}{xs:List Value}{ti te:TI}{fs:List (Nat × Nat)}(e_0:Z12 (Nat.ble k 1) true o.dst (some d) o.op (.field t x f) (gOf ds fr o.guard) (some g) (ev fr g x) (some (.agg ⟨xs⟩)) (cx.T.get t) (some ti) ti.k (.struct fs) (fs[f]?) (some (ty,off)) (cx.T.get ty) (some te) (bif te.agg then some (.agg ⟨(xs.drop off).take te.size⟩) else xs[off]?) (some v) (aO n ds ((d,g,v)::fr) d) true (wfG ds fr g) true)(h:D cx R its ((d,g,v)::fr) C L):D cx R ((i,k,o)::its) fr C L:=by
 have ⟨hk,hd,hop,hg,hx,ht,hfs,hf,hte,hv,hp,hwf⟩:=e_0;refine D.run _ hk hd hg (fun _ a hs w=>?_) hp hwf h;have e1:execOp a.eval o=(do Pure.pure (.value (<- Instr.field t (a.eval x) f)):Sem Next):=by unfold execOp;rw [hop]
 obtain ⟨kk,s1,b1,z1,g1⟩:=ti;simp only at hfs;subst hfs;obtain ⟨fields,hu,hm⟩:=km cx.hT ht;obtain ⟨fd,h1,rfl,rfl⟩:∃ fd,fields[f]?=some fd/\fd.type=ty/\fd.offset=off:=by
  rw [<- hm,bX] at hf;cases hx:fields.toList[f]? with
  | none=>rw [hx] at hf;cases hf
  | some fd =>
   rw [hx] at hf;simp only [MR,zl,Na] at hf;exact ⟨fd,by simpa using hx,hf.1,hf.2⟩
 rw [e1,hs _ _ hx];unfold Instr.field;simp only [Sem.run_bind,run_underlying hu,Result.andThen_ok,h1,asAgg,part,Sem.run_pure];rw [BS cx.hT hte w];simp only [Result.andThen_ok];cases hag:te.agg with
 | true =>
  rw [hag] at hv;simp only [Mm,zl] at hv;subst hv;simp only [Mb,Sem.run_bind,dJ cx.hT hte w,Result.andThen_ok,Sem.run_pure,List.extract_toArray,List.extract_eq_take_drop,Nb]
 | false =>
  rw [hag] at hv;simp only [cond_false] at hv;simp [hv]
end
end Go.Jog
namespace Go.Proofs.YtgfiffppookakaaGreatDoor
open Go Go.Jog
set_option maxRecDepth 100000

theorem FC {l:List Nat}{n:Nat}(hc:tU l)(hv:bc l=n):0<l.length ↔ 0<n:=by
 have h:=xg hc;rw [hv] at h;have h2:l.length=0 ↔ n=0:=by rw [h];exact Nc
 omega
theorem BY (C:Mem)(hT:Tabs C)(z w:Int)(k:Nat)(hk0:0<k)(hk:k<=40000)(hz:z.natAbs<B9 ^ k)(hw:w.natAbs<B9 ^ k):Gives cx.P 221 [aA (txt z),aA (txt w)] C (aA (txt (Nat.gcd z.natAbs w.natAbs:Nat))):=by
 have hzl:=bG hz hk0;have hwl:=bG hw hk0;refine Fn.it kr_ Tryz.func221 56 fun w0=>?_;refine G.z2 1 0 1 ?_;refine G.rp 1 fun R hR=>?_;refine D.ag (iv _ z 18 (aP _)) ?_;refine D.q4 5 0 1 5 6 hR ?_;refine G.z4 1 0 1 5 18 ?_;refine G.cut (fun fr C' L' μ=>(True)/\fr=[(0,[],aA (txt z)),(1,[],aA (txt w))]/\L'=[]) ?_ (fun fr _ L18 μ _ hI=>?_)
 ·refine G.cd (fun h18=>?_) fun h18=>?_
  ·have hz18:=bi h18;rw [bW hz18];have hza:=vd hz18;rw [e18] at hza;refine G.rp 1 fun R hR=>?_;refine D.ag (iv _ w 18 (aP _)) ?_;refine D.q5 5 0 1 5 7 8 hR ?_;refine G.z5 1 0 1 5 7 24 ?_;refine G.cd (fun h24=>?_) fun h24=>?_
   ·have hw18:=bi h24;rw [bW hw18];have hwa:=vd hw18;rw [e18] at hwa;refine G.loop (fun fr C' L' μ=>∃ (x y:Int),(x.natAbs<1000000000000000000/\y.natAbs<1000000000000000000/\Nat.gcd x.natAbs y.natAbs=Nat.gcd z.natAbs w.natAbs)/\fr=[(5,[],.int .i64 x),(7,[],.int .i64 y)]/\L'=[]/\μ=y.natAbs+1) (h_2 5 7) ⟨z,w,⟨hza,hwa,Z⟩,Z,Z,Z⟩ (fun fr C0' L0' m hle0 hI=>?_);obtain ⟨x,y,⟨hxa,hya,hg⟩,rfl,rfl,rfl⟩:=hI;refine G.z3 2 5 7 26 ?_;refine G.cd (fun h26=>?_) fun h26=>?_
    ·have hy0:y≠0:=by simpa using h26
     have hta:(x.tmod y).natAbs=x.natAbs % y.natAbs:=M7 x y;have htl:=K9 x.natAbs (show 0<y.natAbs by omega);refine G.aG [0,1,2,3,4,5] [] Z kr_ (fun R hB hR=>?_);refine D.ps 3 ?_;refine D.dg (x.tmod y) U6 hy0 U3 ?_;refine D.q2 2 5 7 hR ?_;refine G.ax (m':=(x.tmod y).natAbs+1) om_ hle0 (h_2 5 7) ⟨y,x.tmod y,⟨hya,by omega,by rw [hta,<- hg,Mf x.natAbs,Oq y.natAbs x.natAbs,Mf]⟩,Z,Z,Z⟩
    ·have hy0:y=0:=by simpa using h26
     subst hy0;rw [show (0:Int).natAbs=0 from rfl,Nt] at hg;refine G.rp 3 fun R hR=>?_;have hwx:IntKind.i64.wrap (0-x)=0-x:=wrap_i64 om_ om_;refine D.max ((x.natAbs:Int)) U6 om_ U2 ?_;refine D.aj (o4 _ hT.m_ (x.natAbs:Int) om_ om_) U7 fl_ ?_;refine D.q1 1 4 hR ?_;refine G.rf ?_;exact ⟨by rw [hg],Z⟩
   ·refine G.aK 0 (Mem.le.refl _) (h_2 0 1) ⟨trivial,Z,Z⟩
  ·refine G.aK 0 (Mem.le.refl _) (h_2 0 1) ⟨trivial,Z,Z⟩
 ·obtain ⟨_,rfl,rfl⟩:=hI;refine G.rp 1 fun R hR=>?_;refine D.au (hZ _ z om_) U7 fl_ (fun v37 _ _ hq37=>?_);obtain ⟨pz,rfl,hpz⟩:=hq37;refine D.ci U12 ?_;refine D.ac ?_;refine D.au (hZ _ w om_) U7 fl_ (fun v40 _ _ hq40=>?_);obtain ⟨pw,rfl,hpw⟩:=hq40;refine D.ci U12 ?_;refine D.q2 2 9 10 hR ?_;refine G.loop (fun fr C' L' μ=>∃ (x y:Nat)(v9 v10:Value),(NineC C' v9 x/\NineC C' v10 y/\x<B9 ^ k/\y<B9 ^ k/\Nat.gcd x y=Nat.gcd z.natAbs w.natAbs)/\fr=[(9,[],v9),(10,[],v10)]/\L'=[]/\μ=y+1) (h_2 9 10) ⟨_,_,_,_,⟨hpz.mono mup,hpw.mono mup,hz,hw,Z⟩,Z,Z,Z⟩ (fun fr C1' L1' m _ hI=>?_);obtain ⟨x,y,v9,v10,⟨h9,h10,hxk,hyk,hg⟩,rfl,rfl,rfl⟩:=hI;obtain ⟨l,hlc,hlv,hls⟩:=id h10;obtain ⟨A10,c10,rfl,_⟩:=id hls;rw [aH] at h10 ⊢;have hlp:=FC hlc hlv;refine G.z3 3 9 10 44 ?_;refine G.cd (fun h44=>?_) fun h44=>?_
  ·have hy0:0<y:=hlp.1 (by simpa using h44);have htl:=K9 x hy0;refine G.rp 2 fun R hR=>?_;refine D.au (ta _ _ _ _ _ h9.m_ h10.m_ (da (k:=100000) (n:=k) hxk om_) hy0) U7 fl_ (fun v48 _ _ hq48=>?_);obtain ⟨vq,vr,rfl,hvq,hvr⟩:=hq48;refine D.q2 5 10 12 hR ?_;refine G.z2 4 9 10 ?_;refine G.ax (m':=x % y+1) om_ mup (h_2 9 10) ⟨y,x % y,_,_,⟨h10.mono mup,hvr.mono mup,hyk,ML (K9 _ hy0) hyk,by rw [<- hg,Mf x,Oq y x,Mf]⟩,Z,Z,Z⟩
  ·have hy0:y=0:=by
    have h:¬ 0<l.length:=by simpa using h44
    omega
   subst hy0;rw [Nt] at hg;obtain ⟨A9,m9,c9,rfl⟩:=h9.form;refine G.rp 1 fun R hR=>?_;refine D.ap [.bool false,_] ?_;refine D.aj (iH _ hT.m_ _ _ _ h9.m_ (da (k:=100000) (n:=k) hxk om_)) U7 fl_ ?_;refine D.q1 1 4 hR ?_;refine G.rf ?_;exact ⟨by rw [hg];rfl,Z⟩
end Go.Proofs.YtgfiffppookakaaGreatDoor
namespace Go.Jog
open Go

def yi (b:Bool):List UInt8:=if b then [45] else []
def cD:Option (List UInt8)->List UInt8
 | none=>[]
 | some b=>47::b
def jX (d:Nat):Option (List UInt8):=if d=1 then none else some (aT d)
def qtx (q:Rat):List UInt8:=yi (decide (q.num<0))++aT q.num.natAbs++cD (jX q.den)
theorem GU (z:Int):txt z=yi (decide (z<0))++aT z.natAbs:=by
 unfold txt yi;by_cases h:z<0
 ·rw [bW h,j9 h];rfl
 ·rw [a7 h,K3 h];rfl
theorem qj (q:Rat):qtx q=txt q.num++cD (jX q.den):=by rw [GU];rfl
theorem uk (z:Int):qtx z=txt z:=by
 rw [qj];show txt z++cD (jX 1)=txt z;simp [jX,cD]
theorem lX {s:List UInt8}{i:Nat}{c:UInt8}(h:s[i]?=some c):aX (s.take (i+1))=10*aX (s.take i)+(c.toNat-48):=by
 rw [nD h];omega
theorem jZ {s:List UInt8}(hs:∀ c∈s,dE c=true){i:Nat}(hi:i<=9):aX (s.take i)<1000000000:=by
 have h1:=cV (s:=s.take i) (fun c hc=>hs c (LT hc));have h2:10 ^ (s.take i).length<=10 ^ 9:=gr dc_ (by rw [eB];omega);omega
def Gs (A:List UInt8)(B:Option (List UInt8)):Bool:=decide (A.length<=9) && decide ((B.getD []).length<=9)
def JN:Option (List UInt8)->Nat
 | none=>1
 | some b=>aX b
theorem Ba (p A r:List UInt8){j:Nat}{c:UInt8}(h:A[j]?=some c):(p++A++r)[p.length+j]?=some c:=by
 have hj:=(aJ.1 h).1;rw [LN,LD om_,Nb,LS hj,h]
theorem wh (p A r:List UInt8)(j:Nat):(p++A++r)[p.length+A.length+j]?=r[j]?:=by
 rw [LD (by rw [eh];omega),eh,Nb]
theorem qH (n:Int){d:Nat}(hd:d≠0):(mkRat n d).num=n / ((Nat.gcd n.natAbs d:Nat):Int)/\(mkRat n d).den=d / Nat.gcd n.natAbs d:=by
 rw [mkRat,dif_neg hd,Rat.normalize_eq];exact ⟨Z,Z⟩
theorem iD {d:Nat}(h:d=1):jX d=none:=bW h
theorem fb {d:Nat}(h:d≠1):jX d=some (aT d):=a7 h
theorem kT (n:Nat):aT n≠[]:=(aV n).1.2.1
theorem gg (n:Nat):∀ c∈aT n,dE c=true:=(aV n).1.1
theorem wU (d:Nat):∀ b,jX d=some b->∀ c∈b,dE c=true:=by
 intro b h;unfold jX at h;split at h
 ·cases h
 ·cases h;exact gg d
theorem jW (d:Nat):JN (jX d)=d:=by
 unfold jX;split
 ·rename_i h;exact h.symm
 ·exact (aV d).2
def QB (k:Nat)(q:Rat):Prop:=q.num.natAbs<B9 ^ k/\q.den<B9 ^ k
theorem QB.le {k m:Nat}{q:Rat}(h:QB k q)(hk:k<=m):QB m q:=⟨K4 h.1 (gr dc_ hk),K4 h.2 (gr dc_ hk)⟩
theorem f7 {n:Int}{d k:Nat}(hd:d≠0)(hn:n.natAbs<B9 ^ k)(hdk:d<B9 ^ k):QB k (mkRat n d):=by
 obtain ⟨h1,h2⟩:=qH n hd;refine ⟨?_, ?_⟩
 ·rw [h1,MC (Nj.1 (Me.2 (Mj _ _))),J9];exact DS (Lu _ _) hn
 ·rw [h2];exact DS (Lu _ _) hdk
theorem eO (a b:Rat):a+b=mkRat (a.num*b.den+b.num*a.den) (a.den*b.den):=by
 rw [Rat.add_def,Rat.normalize_eq_mkRat]
theorem eN (a b:Rat):a*b=mkRat (a.num*b.num) (a.den*b.den):=by
 rw [Rat.mul_def,Rat.normalize_eq_mkRat]
end Go.Jog
namespace Go.Proofs.YtgfiffppookakaaGreatDoor
open Go Go.Jog
set_option maxRecDepth 100000

def oP (sg:Bool)(A:Str)(B:Option Str):Value :=
 if Gs A B then .tuple #[.int .i64 (sgZ sg (aX A)),.int .i64 (JN B),.bool true] else .tuple #[.int .i64 0,.int .i64 0,.bool false]
theorem yf (C:Mem)(sg:Bool)(A:Str)(B:Option Str)(hA:∀ c∈A,dE c=true)(hA0:A≠[])(hB:∀ b,B=some b->∀ c∈b,dE c=true)(hl:(yi sg++A++cD B).length<=1000000) :
  Gives cx.P 210 [aA (yi sg++A++cD B)] C (oP sg A B):=by
 obtain ⟨s,hs⟩:∃ s,yi sg++A++cD B=s:=⟨_,rfl⟩;obtain ⟨p,hp⟩:∃ p,(yi sg).length=p:=⟨_,rfl⟩;have hp1:p=if sg then 1 else 0:=by rw [<- hp];cases sg <;> rfl
 have hgA:∀ j c,A[j]?=some c->s[p+j]?=some c:=fun j c h=>by rw [<- hs,<- hp];exact Ba _ _ _ h
 have hgB:∀ j,s[p+A.length+j]?=(cD B)[j]?:=fun j=>by rw [<- hs,<- hp];exact wh _ _ _ _
 have hsl:s.length=p+A.length+(cD B).length:=by rw [<- hs,<- hp,eh,eh]
 have hAl:0<A.length:=K6.2 hA0;rw [hs] at hl ⊢;refine Fn.it kr_ Tryz.func210 73 fun w0=>?_;refine G.z3 3 0 2 3 ?_;refine G.z5 2 0 2 3 5 6 ?_;refine G.rp 5 fun R hR=>?_;refine D.aW (b:=s.getD 0 0) U8 (fun _=>⟨by omega,(by rw [aF,show (0:Int).toNat=0 from rfl];obtain ⟨c,hc⟩:∃ c,s[0]?=some c:=⟨s[0]'om_,aq om_⟩;rw [hc];rfl)⟩) U2 ?_;refine D.ac ?_;refine D.aw ?_;refine D.e6 0 2 3 5 6 15 hR ?_;clear hR R;refine G.cut (fun fr C' L' μ=>(True)/\fr=[(0,[],aA s),(2,[],.int .i64 0),(3,[],.int .i64 0),(5,[],.int .i64 p),(6,[],.bool sg)]/\L'=[]) ?_ (fun fr _ L15 μ _ hI=>?_)
 ·refine G.cd (fun h15=>?_) fun h15=>?_
  ·have hsg:sg=true:=by
    cases sg with
    | true=>rfl
    | false =>
     exfalso;rw [a7 dc_] at hp1;subst hp1;obtain ⟨c,hc⟩:∃ c,A[0]?=some c:=⟨A[0],aq hAl⟩;have h1:=hgA 0 c hc;have h2:=hA c (ba hc);rw [Mc] at h1;rw [aF,h1] at h15;unfold dE at h2;simp at h15 h2;omega
   subst hsg;rw [bW rfl] at hp1;subst hp1;refine G.z5 2 0 2 3 5 6 ?_;refine G.aK 0 (Mem.le.refl _) (h_5 0 2 3 5 6) ⟨trivial,Z,Z⟩
  ·have hsg:sg=false:=by
    cases sg with
    | false=>rfl
    | true =>
     exfalso;have h1:s[0]?=some 45:=by rw [<- hs];rfl
     rw [bW rfl] at hp1;have h2:(decide ((0:Int)<((s.length:Nat):Int)) && decide ((((s.getD 0 0).toNat:Nat):Int)=45))=false:=by simpa using h15
     rw [aF,h1,j9 om_] at h2;exact absurd h2 dc_
   subst hsg;rw [a7 dc_] at hp1;subst hp1;refine G.aK 0 (Mem.le.refl _) (h_5 0 2 3 5 6) ⟨trivial,Z,Z⟩
 ·obtain ⟨_,rfl,rfl⟩:=hI;refine G.z6 2 0 2 3 5 6 7 ?_;refine G.loop (fun fr C' L' μ=>∃ (j:Nat),(j<=A.length/\j<=9)/\fr=[(0,[],aA s),(2,[],.int .i64 ((aX (A.take j):Nat):Int)),(3,[],.int .i64 0),(5,[],.int .i64 ((p+j:Nat):Int)),(6,[],.bool sg),(7,[],.int .i64 p)]/\L'=[]/\μ=A.length-j+1) (h_6 0 2 3 5 6 7) ⟨0,⟨by omega,by omega⟩,Z,Z,Z⟩ (fun fr C0' L0' m hle0 hI=>?_);obtain ⟨j,⟨hj,hj9⟩,rfl,rfl,rfl⟩:=hI;obtain ⟨c,hc⟩:∃ c,p+j<s.length->s[p+j]?=some c:=⟨s.getD (p+j) 0,fun h=>by rw [aF,aq h];rfl⟩;refine G.rp 7 fun R hR=>?_;refine D.aW (b:=c) U8 (fun hg=>⟨by omega,hc (by have h:decide (((p+j:Nat):Int)<((s.length:Nat):Int))=true:=hg.1;have h2:=bi h;omega)⟩) U2 ?_;refine D.ac ?_;refine D.aw ?_;refine D.e7 0 2 3 5 6 7 26 hR ?_;clear hR R;refine G.cd (fun h26=>?_) fun h26=>?_
  ·have h26':p+j<s.length/\c.toNat≠47:=by
    simp at h26;omega
   have hjl:j<A.length:=by
    rcases Ld j A.length with h | h
    ·exact h
    ·exfalso;obtain rfl:j=A.length:=by omega
     have h1:=hc h26'.1;have h2:=hgB 0;rw [Mc,h1] at h2;cases B with
     | none=>simp [cD] at h2
     | some b =>
      simp [cD] at h2;subst h2;exact h26'.2 Z
   obtain ⟨c',hcA⟩:∃ c,A[j]?=some c:=⟨A[j],aq hjl⟩;obtain rfl:c'=c:=by
    have h1:=hc h26'.1;rw [hgA j c' hcA] at h1;exact LJ h1
   have hcr:48<=c'.toNat/\c'.toNat<=57:=by simpa [dE] using hA c' (ba hcA)
   have hV:=jZ hA hj9;refine G.rp 2 fun R hR=>?_;refine D.ar _ ?_;refine D.q7 1 0 2 3 5 6 7 32 hR ?_;clear hR R;refine G.cd (fun h32=>?_) fun h32=>?_
   ·have h9:¬ A.length<=9:=by
     have:((p+j:Nat):Int)-p=9:=by simpa using h32
     omega
    refine G.z3 3 2 3 4 ?_;refine G.aB (G.dropAll (G.iX U4 ?_));refine ⟨?_,Z⟩;unfold oP Gs;rw [K3 h9,Bool.false_and,a7 dc_]
   ·have h9:j≠9:=by
     have:¬ ((p+j:Nat):Int)-p=9:=by simpa using h32
     omega
    refine G.rp 1 fun R hR=>?_;refine D.ar _ ?_;refine D.ps 2 ?_;refine D.aW U8 (fun _=>⟨by omega,hgA j _ hcA⟩) U2 ?_;refine D.int (((c'.toNat:Nat):Int)-48) U4 (by rw [IntKind.wrap_u8];omega) U2 ?_;refine D.bT (c:=((c'.toNat:Nat):Int)-48) U8 (by rw [IntKind.wrap_i64];omega) fl_ ?_;refine D.ar _ ?_;refine D.q6 1 0 2 3 5 6 7 hR ?_;clear hR R;refine G.rp 1 fun R hR=>?_;refine D.ar _ ?_;refine D.q6 1 0 2 3 5 6 7 hR ?_;clear hR R;rw [show 10*((aX (A.take j):Nat):Int)+(((c'.toNat:Nat):Int)-48)=((aX (A.take (j+1)):Nat):Int) by rw [lX hcA];omega];refine G.ax (m':=A.length-(j+1)+1) om_ hle0 (h_6 0 2 3 5 6 7) ⟨j+1,⟨by omega,by omega⟩,Z,Z,Z⟩
  ·have hjl:j=A.length:=by
    rcases Ld j A.length with h | h
    ·exfalso;obtain ⟨c',hcA⟩:∃ c,A[j]?=some c:=⟨A[j],aq h⟩;have h1:=hc om_;rw [hgA j c' hcA] at h1;obtain rfl:=LJ h1;have hcr:48<=c'.toNat/\c'.toNat<=57:=by simpa [dE] using hA c' (ba hcA)
     simp at h26;have:=h26 om_;omega
    ·omega
   subst hjl;rw [cK];refine G.z5 1 0 2 3 5 41 ?_;refine G.cut (fun fr C' L' μ=>(True)/\fr=[(0,[],aA s),(2,[],.int .i64 (sgZ sg (aX A))),(3,[],.int .i64 0),(5,[],.int .i64 ((p+A.length:Nat):Int))]/\L'=[]) ?_ (fun fr _ L41 μ _ hI=>?_)
   ·refine G.cd (fun h41=>?_) fun h41=>?_
    ·have hsg:sg=true:=h41;subst hsg;have hVA:=jZ hA hj9;rw [cK] at hVA;refine G.z4 3 0 2 3 5 ?_;rw [show IntKind.i64.wrap (0-((aX A:Nat):Int))=sgZ true (aX A) by rw [wrap_i64 om_ om_];unfold sgZ;rw [bW rfl];omega];refine G.aK 0 (Mem.le.refl _) (h_4 0 2 3 5) ⟨trivial,Z,Z⟩
    ·have hsg:sg=false:=by simpa using h41
     subst hsg;refine G.aK 0 (Mem.le.refl _) (h_4 0 2 3 5) ⟨trivial,Z,Z⟩
   ·obtain ⟨_,rfl,rfl⟩:=hI;refine G.z5 4 0 2 3 5 47 ?_;refine G.cd (fun h47=>?_) fun h47=>?_
    ·have hB0:B=none:=by
      cases B with
      | none=>rfl
      | some b =>
       exfalso;have:p+A.length=s.length:=by simp at h47;omega
       rw [hsl] at this;simp [cD] at this
     subst hB0;refine G.z3 4 2 3 4 ?_;refine G.aB (G.dropAll (G.iX U4 ?_));refine ⟨?_,Z⟩;unfold oP Gs;rw [j9 hj9];rfl
    ·obtain ⟨b,rfl⟩:∃ b,B=some b:=by
      cases B with
      | some b=>exact ⟨b,rfl⟩
      | none =>
       exfalso;simp [hsl,cD] at h47
     have hBd:=hB b rfl;have hsl':s.length=p+A.length+1+b.length:=by rw [hsl];simp [cD];omega
     refine G.rp 1 fun R hR=>?_;refine D.ar _ ?_;refine D.q5 1 0 2 3 5 7 hR ?_;clear hR R;refine G.rp 1 fun R hR=>?_;refine D.ar _ ?_;refine D.q5 1 0 2 3 5 7 hR ?_;clear hR R;refine G.loop (fun fr C' L' μ=>∃ (j:Nat),(j<=b.length/\j<=9)/\fr=[(0,[],aA s),(2,[],.int .i64 (sgZ sg (aX A))),(3,[],.int .i64 ((aX (b.take j):Nat):Int)),(5,[],.int .i64 ((p+A.length+1+j:Nat):Int)),(7,[],.int .i64 ((p+A.length+1:Nat):Int))]/\L'=[]/\μ=b.length-j+1) (h_5 0 2 3 5 7) ⟨0,⟨by omega,by omega⟩,Z,Z,Z⟩ (fun fr C1' L1' m hle1 hI=>?_);obtain ⟨j,⟨hk,hk9⟩,rfl,rfl,rfl⟩:=hI;refine G.z6 4 0 2 3 5 7 56 ?_;refine G.cd (fun h56=>?_) fun h56=>?_
     ·have hkl:j<b.length:=by
       have:p+A.length+1+j<s.length:=by simp at h56;omega
       omega
      obtain ⟨c,hcB⟩:∃ c,b[j]?=some c:=⟨b[j],aq hkl⟩;have hcs:s[p+A.length+1+j]?=some c:=by rw [MY,hgB,M4 1 j];exact hcB
      have hcr:48<=c.toNat/\c.toNat<=57:=by simpa [dE] using hBd c (ba hcB)
      have hV:=jZ hBd hk9;refine G.rp 2 fun R hR=>?_;refine D.ar _ ?_;refine D.q6 1 0 2 3 5 7 62 hR ?_;clear hR R;refine G.cd (fun h62=>?_) fun h62=>?_
      ·have h9:¬ b.length<=9:=by
        have:((p+A.length+1+j:Nat):Int)-((p+A.length+1:Nat):Int)=9:=by simpa using h62
        omega
       refine G.z3 3 2 3 4 ?_;refine G.aB (G.dropAll (G.iX U4 ?_));refine ⟨?_,Z⟩;unfold oP Gs;rw [show (some b).getD []=b from rfl,K3 h9,Bool.and_false,a7 dc_]
      ·have h9:j≠9:=by
        have:¬ ((p+A.length+1+j:Nat):Int)-((p+A.length+1:Nat):Int)=9:=by simpa using h62
        omega
       refine G.rp 1 fun R hR=>?_;refine D.ar _ ?_;refine D.ps 2 ?_;refine D.aW U8 (fun _=>⟨by omega,hcs⟩) U2 ?_;refine D.int (((c.toNat:Nat):Int)-48) U4 (by rw [IntKind.wrap_u8];omega) U2 ?_;refine D.bT (c:=((c.toNat:Nat):Int)-48) U8 (by rw [IntKind.wrap_i64];omega) fl_ ?_;refine D.ar _ ?_;refine D.q5 1 0 2 3 5 7 hR ?_;clear hR R;refine G.rp 1 fun R hR=>?_;refine D.ar _ ?_;refine D.q5 1 0 2 3 5 7 hR ?_;clear hR R;rw [show 10*((aX (b.take j):Nat):Int)+(((c.toNat:Nat):Int)-48)=((aX (b.take (j+1)):Nat):Int) by rw [lX hcB];omega];refine G.ax (m':=b.length-(j+1)+1) om_ hle1 (h_5 0 2 3 5 7) ⟨j+1,⟨by omega,by omega⟩,Z,Z,Z⟩
     ·have hkl:j=b.length:=by
       have:¬ p+A.length+1+j<s.length:=by simp at h56;omega
       omega
      subst hkl;rw [cK];refine G.z3 5 2 3 4 ?_;refine G.aB (G.dropAll (G.iX U4 ?_));refine ⟨?_,Z⟩;unfold oP Gs;rw [show (some b).getD []=b from rfl,j9 hj9,j9 hk9];rfl

theorem jH {n:Int}{g:Nat}(hg:g ∣ n.natAbs):n.tdiv (g:Int)=n / (g:Int):=Int.tdiv_eq_ediv_of_dvd (Nj.1 (Me.2 hg))
theorem sD {n:Int}{d:Nat}(hd:d≠0):qtx (mkRat n d)=txt (n / ((Nat.gcd n.natAbs d:Nat):Int))++cD (jX (d / Nat.gcd n.natAbs d)):=by
 rw [qj,(qH n hd).1,(qH n hd).2]
theorem ss (C:Mem)(hT:Tabs C)(n:Int)(d:Nat)(hd:0<d)(hn:n.natAbs<9000000000000000000)(hdl:d<9000000000000000000):Gives cx.P 216 [.int .i64 n,.int .i64 d] C (aA (qtx (mkRat n d))):=by
 obtain ⟨g,hg⟩:∃ g,Nat.gcd n.natAbs d=g:=⟨_,rfl⟩;have hg0:0<g:=by rw [<- hg];exact MI _ hd
 have hgn:g ∣ n.natAbs:=by rw [<- hg];exact Mj _ _
 have hgd:g ∣ d:=by rw [<- hg];exact MD _ _
 have hgl:g<=d:=NK hd hgd;rw [sD om_,hg];refine Fn.it kr_ Tryz.func216 35 fun w0=>?_;refine G.z2 1 0 1 ?_;refine G.z4 4 0 1 5 6 ?_;refine G.loop (fun fr C' L' μ=>∃ (x y:Int),(x.natAbs<9000000000000000000/\y.natAbs<9000000000000000000/\Nat.gcd x.natAbs y.natAbs=g)/\fr=[(0,[],.int .i64 n),(1,[],.int .i64 d),(5,[],.int .i64 x),(6,[],.int .i64 y)]/\L'=[]/\μ=y.natAbs+1) (h_4 0 1 5 6) ⟨n,d,⟨hn,by omega,by rw [J9];exact hg⟩,Z,Z,Z⟩ (fun fr C0' L0' m hle0 hI=>?_);obtain ⟨x,y,⟨hxa,hya,hgi⟩,rfl,rfl,rfl⟩:=hI;refine G.z5 2 0 1 5 6 10 ?_;refine G.cd (fun h10=>?_) fun h10=>?_
 ·have hy0:y≠0:=by simpa using h10
  have hta:(x.tmod y).natAbs=x.natAbs % y.natAbs:=M7 x y;have htl:=K9 x.natAbs (show 0<y.natAbs by omega);refine G.aG [0,1,2,3,4,5] [] Z kr_ (fun R hB hR=>?_);refine D.ps 3 ?_;refine D.dg (x.tmod y) U6 hy0 U3 ?_;refine D.q4 2 0 1 5 6 hR ?_;refine G.ax (m':=(x.tmod y).natAbs+1) om_ hle0 (h_4 0 1 5 6) ⟨y,x.tmod y,⟨hya,by omega,by rw [hta,<- hgi,Mf x.natAbs,Oq y.natAbs x.natAbs,Mf]⟩,Z,Z,Z⟩
 ·have hy0:y=0:=by simpa using h10
  subst hy0;rw [show (0:Int).natAbs=0 from rfl,Nt] at hgi;refine G.z4 2 0 1 5 16 ?_;refine G.cut (fun fr C' L' μ=>(True)/\fr=[(0,[],.int .i64 n),(1,[],.int .i64 d),(5,[],.int .i64 g)]/\L'=[]) ?_ (fun fr _ L16 μ _ hI=>?_)
  ·refine G.cd (fun h16=>?_) fun h16=>?_
   ·have hx0:x<0:=by simpa using h16
    refine G.z3 3 0 1 5 ?_;rw [show IntKind.i64.wrap (0-x)=(g:Int) by rw [wrap_i64 om_ om_];omega];refine G.aK 0 (Mem.le.refl _) (h_3 0 1 5) ⟨trivial,Z,Z⟩
   ·have hx0:¬ x<0:=by simpa using h16
    rw [show x=(g:Int) by omega];refine G.aK 0 (Mem.le.refl _) (h_3 0 1 5) ⟨trivial,Z,Z⟩
  ·obtain ⟨_,rfl,rfl⟩:=hI;have hnq:(n / (g:Int)).natAbs<=n.natAbs:=by
    rw [MC (Nj.1 (Me.2 hgn)),J9];exact Lu _ _
   have hdq:=Lu d g;refine G.aG [0,1,2,3,4,5,6,7] [] Z kr_ (fun R hB hR=>?_);refine D.ps 2 ?_;refine D.iY (n / (g:Int)) U6 om_ (jH hgn) (wrap_i64 om_ om_) U2 ?_;refine D.ps 2 ?_;refine D.iZ (d) (g) U6 hg0 (.inl ⟨Z,by omega⟩) U2 ?_;refine D.q2 2 0 1 hR ?_;refine G.z3 2 0 1 26 ?_;refine G.cd (fun h26=>?_) fun h26=>?_
   ·have h1:d / g=1:=by
     have h2:(((d / g:Nat):Int))=1:=by simpa using h26
     omega
    refine G.rp 1 fun R hR=>?_;refine D.aj (eX _ hT.m_ _ om_ om_) U7 fl_ ?_;refine D.q1 1 4 hR ?_;refine G.rf ?_;refine ⟨?_,Z⟩;rw [h1,iD rfl];simp [cD]
   ·have h1:d / g≠1:=by
     intro h2;rw [h2] at h26;exact absurd h26 dc_
    have hT1:=gW (n / (g:Int));have hT2:=gW ((d / g:Nat):Int);have hT3:(aT (n / (g:Int)).natAbs).length<=20:=dt (DS hnq (ML hn dc_)) dc_;have hT4:(aT ((d / g:Nat):Int).natAbs).length<=20:=dt (by rw [J9];exact DS hdq (ML hdl dc_)) dc_;refine G.rp 1 fun R hR=>?_;refine D.aj (eX _ hT.m_ _ om_ om_) U7 fl_ ?_;refine D.bM U6 (fun _=>(by simp only [fh,J8];omega)) U2 ?_;refine D.ac ?_;refine D.aj (eX _ hT.m_ ((d / g:Nat):Int) (Oc dc_ (Nr _)) (Oc (Int.ofNat_le.2 hdq) om_)) U7 fl_ ?_;refine D.bM U6 (fun _=>(by simp only [eh,fh,J8];omega)) U2 ?_;refine D.q1 1 4 hR ?_;refine G.rf ?_;refine ⟨?_,Z⟩;rw [fb h1,cm,LN];rfl
theorem BO (C:Mem)(z:Int)(d:Nat)(k:Nat)(hk0:0<k)(hk:k<=40000)(hz:z.natAbs<B9 ^ k)(hd:d<B9 ^ k):Gives cx.P 246 [aA (txt z),aA (aT d)] C (aA (txt z++cD (jX d))):=by
 have hzl:(txt z).length<=9*k+1:=by
  have:=bG hz hk0;unfold txt;split
  ·simp;omega
  ·omega
 have hdl:=bG hd hk0;refine Fn.it kr_ Tryz.func246 12 fun w0=>?_;refine G.z2 1 0 1 ?_;refine G.z3 2 0 1 6 ?_;refine G.cd (fun h6=>?_) fun h6=>?_
 ·have h1:d=1:=by rw [pn] at h6;exact bi h6
  refine G.z1 2 4 ?_;refine G.rf ?_;refine ⟨?_,Z⟩;rw [iD h1];simp [cD]
 ·have h1:d≠1:=by rw [pn] at h6;exact dj h6
  refine G.rp 1 fun R hR=>?_;refine D.bM U6 (fun _=>(by simp only [fh,J8];omega)) U2 ?_;refine D.ac ?_;refine D.bM U6 (fun _=>(by simp only [eh,fh,J8];omega)) U2 ?_;refine D.q1 1 4 hR ?_;refine G.rf ?_;refine ⟨?_,Z⟩;rw [fb h1,LN];rfl
theorem AO (C:Mem)(s:Str)(hl:s.length<1000000):Gives cx.P 211 [aA s] C (.tuple #[aA (dL 47 s).1,aA ((dL 47 s).2.getD [49])]):=by
 refine Fn.it kr_ Tryz.func211 18 fun w0=>?_;refine G.z1 2 0 ?_;refine G.rp 1 fun R hR=>?_;refine D.ag (CS _ s 47 hl) ?_;refine D.q3 7 4 5 6 hR ?_;refine G.z3 2 4 5 14 ?_;refine G.cd (fun h14=>?_) fun h14=>?_
 ·have h1:(dL 47 s).2=none:=by
   cases h:(dL 47 s).2 with
   | none=>rfl
   | some b=>rw [h] at h14;simp at h14
  refine G.z2 3 2 3 ?_;refine G.aB (G.dropAll (G.a8 U3 ?_));refine ⟨?_,Z⟩;rw [h1];rfl
 ·obtain ⟨b,h1⟩:∃ b,(dL 47 s).2=some b:=by
   cases h:(dL 47 s).2 with
   | some b=>exact ⟨b,rfl⟩
   | none=>rw [h] at h14;simp at h14
  refine G.z2 4 2 3 ?_;refine G.aB (G.dropAll (G.a8 U3 ?_));refine ⟨?_,Z⟩;rw [h1];rfl
theorem wZ {c:UInt8}:∀ {a:Str}(b:Str),c ∉ a->dL c (a++c::b)=(a,some b)
 | [],b,_=>by simp [dL]
 | x::a,b,h=>by
  have hx:x≠c:=fun e=>h (e ▸ br);have hr:=wZ (c:=c) (a:=a) b (fun h2=>h (Ll _ h2));simp only [LM,dL,a7 hx,hr]
theorem tk {c:UInt8}:∀ {a:Str},c ∉ a->dL c a=(a,none)
 | [],_=>rfl
 | x::a,h=>by
  have hx:x≠c:=fun e=>h (e ▸ br);have hr:=tk (c:=c) (a:=a) (fun h2=>h (Ll _ h2));simp only [dL,a7 hx,hr]
theorem si {s:Str}(h:∀ c∈s,dE c=true):(47:UInt8) ∉ s:=fun h2=>absurd (h 47 h2) dc_
theorem r9 (z:Int):(47:UInt8) ∉ txt z:=by
 unfold txt;split
 ·intro h;rcases cI.1 h with h | h
  ·cases h
  ·exact si (gg _) h
 ·exact si (gg _)
theorem iF (q:Rat):dL 47 (qtx q)=(txt q.num,jX q.den):=by
 rw [qj];unfold jX;split
 ·rw [show cD none=[] from rfl,LY];exact tk (r9 _)
 ·exact wZ _ (r9 _)
theorem one_dec:aT 1=[49]:=by rw [aT];rfl
theorem uQ (d:Nat):(jX d).getD [49]=aT d:=by
 unfold jX;split
 ·rename_i h;subst h;exact one_dec.symm
 ·rfl
theorem Hd (C:Mem)(q:Rat)(hl:(qtx q).length<1000000):Gives cx.P 211 [aA (qtx q)] C (.tuple #[aA (txt q.num),aA (aT q.den)]):=by
 have h:=AO C (qtx q) hl
 rwa [iF,uQ] at h


def iV (z w:Int):Rat:=mkRat (if w<0 then -z else z) w.natAbs
theorem mW (C:Mem)(hT:Tabs C)(z w:Int)(k:Nat)(hk0:0<k)(hk:k<=40000)(hz:z.natAbs<B9 ^ k)(hw:w.natAbs<B9 ^ k)(hw0:w≠0):Gives cx.P 165 [aA (txt z),aA (txt w)] C (aA (qtx (iV z w))):=by
 have hzl:=bG hz hk0;have hwl:=bG hw hk0;obtain ⟨y,hy⟩:∃ y,(if w<0 then -z else z)=y:=⟨_,rfl⟩;obtain ⟨d,hd⟩:∃ d,w.natAbs=d:=⟨_,rfl⟩;have hd0:d≠0:=by omega
 have hya:y.natAbs=z.natAbs:=by rw [<- hy];split <;> omega
 obtain ⟨g,hg⟩:∃ g,Nat.gcd y.natAbs d=g:=⟨_,rfl⟩;have hg0:0<g:=by rw [<- hg];exact MI _ om_
 have hgd:g ∣ d:=by rw [<- hg];exact MD _ _
 have hgl:g<=d:=NK om_ hgd;unfold iV;rw [hy,hd,sD hd0,hg];refine Fn.it kr_ Tryz.func165 35 fun w0=>?_;refine G.z2 1 0 1 ?_;refine G.rp 1 fun R hR=>?_;refine D.ag (jR _ w) ?_;refine D.q3 1 0 1 8 hR ?_;refine G.cut (fun fr C' L' μ=>(True)/\fr=[(0,[],aA (txt y)),(1,[],aA (txt (d:Nat)))]/\L'=[]) ?_ (fun fr _ L8 μ _ hI=>?_)
 ·refine G.cd (fun h8=>?_) fun h8=>?_
  ·have hw1:w<0:=by
    have h:fg w<0:=by simpa using h8
    unfold fg at h;split at h <;> omega
   rw [bW hw1] at hy;refine G.rp 1 fun R hR=>?_;refine D.aj (qN _ z om_) U7 fl_ ?_;refine D.ac ?_;refine D.aj (qN _ w om_) U7 fl_ ?_;refine D.q2 2 0 1 hR ?_;refine G.aK 0 (Mem.le.refl _) (h_2 0 1) ⟨trivial,by rw [hy,show -w=((d:Nat):Int) by omega],Z⟩
  ·have hw1:¬ w<0:=by
    intro h2;have h:¬ fg w<0:=by simpa using h8
    unfold fg at h;split at h <;> omega
   rw [a7 hw1] at hy;refine G.aK 0 (Mem.le.refl _) (h_2 0 1) ⟨trivial,by rw [hy,show w=((d:Nat):Int) by omega],Z⟩
 ·obtain ⟨_,rfl,rfl⟩:=hI;refine G.rp 2 fun R hR=>?_;refine D.aj (BY _ hT.m_ y (d:Nat) k hk0 hk om_ om_) U7 fl_ ?_;refine D.q3 1 0 1 5 hR ?_;rw [J9,hg];refine G.z4 2 0 1 5 17 ?_;refine G.cut (fun fr C' L' μ=>(True)/\fr=[(0,[],aA (txt (y / (g:Nat)))),(1,[],aA (txt ((d / g:Nat):Int)))]/\L'=[]) ?_ (fun fr _ L17 μ _ hI=>?_)
  ·refine G.cd (fun h17=>?_) fun h17=>?_
   ·refine G.rp 2 fun R hR=>?_;refine D.aj (o7 _ hT.m_ y (g:Nat) k hk0 hk om_ om_ om_) U7 fl_ ?_;refine D.q3 5 0 1 5 hR ?_;refine G.rp 2 fun R hR=>?_;refine D.aj (o7 _ hT.m_ (d:Nat) (g:Nat) k hk0 hk om_ om_ om_) U7 fl_ ?_;refine D.q2 5 0 1 hR ?_;refine G.aK 0 (Mem.le.refl _) (h_2 0 1) ⟨trivial,by rw [NY],Z⟩
   ·have hg1:g=1:=by
     rw [cm,pn] at h17;simpa using h17
    refine G.aK 0 (Mem.le.refl _) (h_2 0 1) ⟨trivial,by rw [hg1,N1,Int.natCast_one,Int.ediv_one],Z⟩
  ·obtain ⟨_,rfl,rfl⟩:=hI;rw [cm];refine G.rp 2 fun R hR=>?_;refine D.aj (BO _ (y / (g:Nat)) (d / g) k hk0 hk (by rw [MC (Nj.1 (Me.2 (by rw [<- hg];exact Mj _ _))),J9];exact DS (Lu _ _) om_) (DS (Lu _ _) om_)) U7 fl_ ?_;refine D.q1 1 4 hR ?_;refine G.rf ?_;exact ⟨Z,Z⟩

theorem HW {a b:Nat}(h:aT a=aT b):a=b:=by rw [<- (aV a).2,h,(aV b).2]
theorem IR {z w:Int}(h:txt z=txt w):z=w:=by
 have h1:=cN z;rw [h,cN w] at h1;have h2:=HW (Ou h1).1;have h3:decide (w<0)=decide (z<0):=(Ou h1).2;by_cases hw:w<0
 ·rw [j9 hw] at h3;have:=bi h3.symm;omega
 ·rw [K3 hw] at h3;have:=dj h3.symm;omega
theorem wc {a b:Rat}(h:qtx a=qtx b):a=b:=by
 have h1:=iF a;rw [h,iF b] at h1;have h2:=IR (Ou h1).1;have h3:=congrArg JN (Ou h1).2;rw [jW,jW] at h3;exact Rat.ext h2.symm h3.symm
theorem G9 (a b:Rat):((⟨(qtx a).toArray⟩:ByteArray).data.toList == (⟨(qtx b).toArray⟩:ByteArray).data.toList)=decide (a=b):=by
 show (qtx a == qtx b)=_;rw [Mq,Lg,cH];exact ⟨wc,fun h=>by rw [h]⟩
theorem qtx_zero:qtx 0=[48]:=by
 rw [show (0:Rat)=((0:Int):Rat) from rfl,uk];unfold txt;rw [a7 om_,show aT (0:Int).natAbs=aT 0 from rfl,aT];rfl
theorem AX:qtx 1=[49]:=by
 rw [show (1:Rat)=((1:Int):Rat) from rfl,uk];exact one_val.symm
theorem fL (a:Rat):((⟨(qtx a).toArray⟩:ByteArray).data.toList == (⟨#[48]⟩:ByteArray).data.toList)=decide (a=0):=by
 have h:=G9 a 0
 rwa [qtx_zero] at h
theorem Gb (a:Rat):((⟨(qtx a).toArray⟩:ByteArray).data.toList == (⟨#[49]⟩:ByteArray).data.toList)=decide (a=1):=by
 have h:=G9 a 1
 rwa [AX] at h
theorem AY (a:Rat):0<(qtx a).length:=by
 unfold qtx;rw [eh,eh];have:=K6.2 (kT a.num.natAbs);omega
theorem cC {q:Rat}{k:Nat}(h:QB k q)(hk:0<k):(qtx q).length<=18*k+2:=by
 unfold qtx;rw [eh,eh];have h1:=bG h.1 hk;have h2:=bG h.2 hk;have h3:(yi (decide (q.num<0))).length<=1:=by cases decide (q.num<0) <;> simp [yi]
 have h4:(cD (jX q.den)).length<=9*k+1:=by
  unfold jX;split
  ·simp [cD]
  ·simp [cD];exact h2
 omega
theorem lQ (q:Rat):∃ c r,qtx q=c::r/\((((c.toNat:Nat):Int) == 45)=decide (q.num<0)):=by
 by_cases h:q.num<0
 ·refine ⟨45,aT q.num.natAbs++cD (jX q.den), ?_,by rw [j9 h];decide⟩;unfold qtx;rw [j9 h];rfl
 ·obtain ⟨c,r,hc⟩:∃ c r,aT q.num.natAbs=c::r:=List.exists_cons_of_ne_nil (kT _);refine ⟨c,r++cD (jX q.den), ?_, ?_⟩
  ·unfold qtx;rw [K3 h,hc];rfl
  ·have h2:=gg q.num.natAbs c (by rw [hc];exact br);rw [K3 h];unfold dE at h2;have h3:=bi h2;exact K3 om_
theorem fq {q:Rat}(h:¬ q.num<0)(h0:q≠0):qtx (-q)=45::qtx q:=by
 have hn:q.num≠0:=fun e=>h0 (M5.1 e);unfold qtx;rw [Nm,Rat.neg_den,j9 om_,K3 h,MN];rfl
theorem iS {q:Rat}(h:q.num<0):qtx q=45::qtx (-q):=by
 have h2:=fq (q:=-q) (by rw [Nm];omega) (by intro e;have h3:=congrArg Rat.num e;rw [Nm] at h3;have h4:(0:Rat).num=0:=rfl;omega)
 rwa [Rat.neg_neg] at h2
def wO (q:Rat):Bool:=Gs (aT q.num.natAbs) (jX q.den)
theorem Gr {n:Nat}(h:(aT n).length<=9):n<1000000000:=by
 have h1:=cV (gg n);rw [(aV n).2] at h1;exact K4 h1 (LE (gr dc_ h) dc_)
theorem jr {q:Rat}(h:wO q=true):q.num.natAbs<1000000000/\q.den<1000000000:=by
 unfold wO Gs at h;rw [bL,cH,cH] at h;refine ⟨Gr h.1, ?_⟩;by_cases h1:q.den=1
 ·omega
 ·rw [fb h1] at h;exact Gr h.2
theorem AN (C:Mem)(q:Rat)(hl:(qtx q).length<=1000000):Gives cx.P 210 [aA (qtx q)] C (if wO q then .tuple #[.int .i64 q.num,.int .i64 (q.den:Nat),.bool true] else .tuple #[.int .i64 0,.int .i64 0,.bool false]):=by
 have h:=yf C (decide (q.num<0)) (aT q.num.natAbs) (jX q.den) (gg _) (kT _) (wU _) hl;unfold oP at h;rw [(aV _).2,jW] at h;have e:sgZ (decide (q.num<0)) q.num.natAbs=q.num:=by
  unfold sgZ;by_cases h:q.num<0
  ·rw [j9 h,bW rfl];omega
  ·rw [K3 h,a7 dc_];omega
 rw [e] at h;exact h
theorem AP (C:Mem)(q:Rat)(hl:(qtx q).length<=1000000):Gives cx.P 215 [aA (qtx q)] C (aA (qtx (-q))):=by
 have hpos:=AY q;refine Fn.it kr_ Tryz.func215 13 fun w0=>?_;refine G.z1 1 0 ?_;refine G.z2 2 0 4 ?_;refine G.cd (fun h4=>?_) fun h4=>?_
 ·have h0:q=0:=by rw [fL] at h4;exact bi h4
  refine G.z1 2 2 ?_;refine G.rf ?_;refine ⟨?_,Z⟩;rw [h0,Rat.neg_zero]
 ·have h0:q≠0:=by rw [fL] at h4;exact dj h4
  obtain ⟨c,r,hcr,hcd⟩:=lQ q;refine G.rp 1 fun R hR=>?_;refine D.aW U8 (fun _=>⟨by omega,by rw [hcr];rfl⟩) U2 ?_;refine D.q2 1 0 8 hR ?_;refine G.cd (fun h8=>?_) fun h8=>?_
  ·have hn:q.num<0:=by rw [hcd] at h8;exact bi h8
   refine G.rp 1 fun R hR=>?_;refine D.bF 1 (qtx q).length U9 (fun _=>⟨.inr ⟨_,Z⟩,.inl ⟨Z,Z⟩,.inl ⟨Z,Z⟩,by omega,aP _,aP _⟩) U2 ?_;refine D.q1 1 2 hR ?_;refine G.rf ?_;refine ⟨?_,Z⟩;rw [cK,iS hn];rfl
  ·have hn:¬ q.num<0:=by rw [hcd] at h8;exact dj h8
   refine G.rp 1 fun R hR=>?_;refine D.bM U6 (fun _=>(by simp only [fh,J8];omega)) U2 ?_;refine D.q1 1 2 hR ?_;refine G.rf ?_;refine ⟨?_,Z⟩;rw [fq hn h0];rfl
theorem io (C:Mem)(q:Rat)(hl:(qtx q).length<=1000000):Gives cx.P 118 [aA (qtx q)] C (.int .i64 (fg q.num)):=by
 obtain ⟨c,r,hcr,hcd⟩:=lQ q;have hpos:=AY q;refine Fn.it kr_ Tryz.func118 15 fun w0=>?_;refine G.z1 1 0 ?_;refine G.z2 3 0 3 ?_;refine G.cd (fun h3=>?_) fun h3=>?_
 ·have h0:q=0:=by rw [fL] at h3;exact bi h3
  refine G.z1 1 2 ?_;refine G.rf ?_;refine ⟨?_,Z⟩;rw [h0];rfl
 ·have h0:q≠0:=by rw [fL] at h3;exact dj h3
  have hn0:q.num≠0:=fun e=>h0 (M5.1 e);refine G.rp 5 fun R hR=>?_;refine D.aW U8 (fun _=>⟨by omega,by rw [hcr];rfl⟩) U2 ?_;refine D.ac ?_;refine D.aw ?_;refine D.q1 1 6 hR ?_;refine G.cd (fun h6=>?_) fun h6=>?_
  ·rw [hcd] at h6;have hn:q.num<0:=by
    have h:=(bL _ _ ▸ h6:_/\_).2;exact bi h
   skip
   refine G.z1 1 2 ?_;refine G.rf ?_;refine ⟨?_,Z⟩;unfold fg;rw [bW hn]
  ·rw [hcd,j9 (show (0:Int)<((⟨(qtx q).toArray⟩:ByteArray).data.toList.length:Int) by show (0:Int)<(((qtx q).length:Nat):Int);omega),NL] at h6;have hn:¬ q.num<0:=dj h6;refine G.z1 1 2 ?_;refine G.rf ?_;refine ⟨?_,Z⟩;unfold fg;rw [a7 hn,a7 hn0]

theorem ip (C:Mem)(q:Rat)(hl:(qtx q).length<=1000000):Gives cx.P 210 [aA (qtx q)] C (.tuple #[.int .i64 (if wO q then q.num else 0),.int .i64 (if wO q then ((q.den:Nat):Int) else 0),.bool (wO q)]):=by
 have h:=AN C q hl;cases hf:wO q with
 | true=>rw [hf] at h;exact h
 | false=>rw [hf] at h;exact h
def rM (a b:Rat):Int:=if a<b then -1 else if b<a then 1 else 0
theorem rn {a b:Rat}:rM a b=rL (a.num*b.den) (b.num*a.den):=by
 unfold rM rL;simp only [Rat.lt_iff]
theorem d5 (a:Rat):0<a.den:=MG a.den_nz
theorem iy {a:Int}{d:Nat}(ha:a.natAbs<1000000000)(hd:d<1000000000):-1000000000000000000<a*(d:Int)/\a*(d:Int)<1000000000000000000:=wg ha (by rw [J9];exact hd)
theorem jL {a d:Nat}(ha:a<1000000000)(hd:d<1000000000):a*d<1000000000000000000:=Ms ha hd
theorem je (C:Mem)(q:Rat)(hl:(qtx q).length<1000000):Gives cx.P 211 [aA (qtx q)] C (.tuple #[aA (txt q.num),aA (txt ((q.den:Nat):Int))]):=by
 have h:=Hd C q hl
 rwa [<- cm] at h
theorem bP {z w:Int}{k:Nat}(hz:z.natAbs<B9 ^ k)(hw:w.natAbs<B9 ^ k):(z*w).natAbs<B9 ^ (k+k):=by
 rw [Mo];exact lR hz hw
theorem lV {z:Int}{d:Nat}(hd:0<d):iV z ((d:Nat):Int)=mkRat z d:=by
 unfold iV;rw [a7 om_,J9]
theorem ij {k:Nat}{q:Rat}(h:QB k q):((q.den:Nat):Int).natAbs<B9 ^ k:=by rw [J9];exact h.2
theorem bY (C:Mem)(hT:Tabs C)(a b:Rat)(k:Nat)(hk0:0<k)(hk:k<=20000)(ha:QB k a)(hb:QB k b):Gives cx.P 132 [aA (qtx a),aA (qtx b)] C (.int .i64 (rM a b)):=by
 have hal:=cC ha hk0;have hbl:=cC hb hk0;refine Fn.it kr_ Tryz.func132 65 fun w0=>?_;refine G.z2 1 0 1 ?_;refine G.z3 3 0 1 19 ?_;refine G.cd (fun h19=>?_) fun h19=>?_
 ·have h0:a=b:=by rw [G9] at h19;exact bi h19
  refine G.z1 1 4 ?_;refine G.rf ?_;refine ⟨?_,Z⟩;subst h0;rw [rM,a7 (Rat.lt_irrefl),a7 (Rat.lt_irrefl)]
 ·refine G.rp 1 fun R hR=>?_;refine D.aj (ip _ a om_) U7 fl_ ?_;refine D.q5 7 0 1 5 6 7 hR ?_;refine G.z5 1 0 1 5 6 26 ?_;refine G.cut (fun fr C' L' μ=>(True)/\fr=[(0,[],aA (qtx a)),(1,[],aA (qtx b))]/\L'=[]) ?_ (fun fr _ L26 μ _ hI=>?_)
  ·refine G.cd (fun h26=>?_) fun h26=>?_
   ·have hfa:wO a=true:=h26;rw [bW hfa,bW hfa];have ha9:=jr hfa;refine G.rp 1 fun R hR=>?_;refine D.aj (ip _ b om_) U7 fl_ ?_;refine D.q7 7 0 1 5 6 8 9 10 hR ?_;refine G.z7 1 0 1 5 6 8 9 33 ?_;refine G.cd (fun h33=>?_) fun h33=>?_
    ·have hfb:wO b=true:=h33;rw [bW hfb,bW hfb];have hb9:=jr hfb;have hm1:=iy ha9.1 hb9.2;have hm2:=iy hb9.1 ha9.2;refine G.rp 2 fun R hR=>?_;refine D.ar _ ?_;refine D.ps 2 ?_;refine D.ar _ ?_;refine D.q2 2 11 12 hR ?_;refine G.z3 4 11 12 40 ?_;refine G.cd (fun h40=>?_) fun h40=>?_
     ·have h1:=bi h40;refine G.z1 1 4 ?_;refine G.rf ?_;refine ⟨?_,Z⟩;rw [rn,rL,bW h1]
     ·have h1:=dj h40;refine G.z1 4 44 ?_;refine G.cd (fun h44=>?_) fun h44=>?_
      ·have h2:=bi h44;refine G.z1 1 4 ?_;refine G.rf ?_;refine ⟨?_,Z⟩;rw [rn,rL,a7 h1,bW h2]
      ·have h2:=dj h44;refine G.z1 1 4 ?_;refine G.rf ?_;refine ⟨?_,Z⟩;rw [rn,rL,a7 h1,a7 h2]
    ·refine G.aK 0 (Mem.le.refl _) (h_2 0 1) ⟨trivial,Z,Z⟩
   ·refine G.aK 0 (Mem.le.refl _) (h_2 0 1) ⟨trivial,Z,Z⟩
  ·obtain ⟨_,rfl,rfl⟩:=hI;refine G.rp 1 fun R hR=>?_;refine D.aj (je _ a om_) U7 fl_ ?_;refine D.q3 5 1 13 14 hR ?_;refine G.rp 1 fun R hR=>?_;refine D.aj (je _ b om_) U7 fl_ ?_;refine D.q4 5 13 14 15 16 hR ?_;refine G.rp 2 fun R hR=>?_;refine D.aj (jl _ hT.m_ _ _ k hk0 om_ ha.1 (ij hb)) U7 fl_ ?_;refine D.ps 2 ?_;refine D.aj (jl _ hT.m_ _ _ k hk0 om_ hb.1 (ij ha)) U7 fl_ ?_;refine D.aj (ng _ _ _ (by have:=bG (bP ha.1 (ij hb)) om_;omega) (by have:=bG (bP hb.1 (ij ha)) om_;omega)) U7 fl_ ?_;refine D.q1 1 4 hR ?_;refine G.rf ?_;exact ⟨by rw [rn],Z⟩
theorem dZ (C:Mem)(hT:Tabs C)(a b:Rat)(k:Nat)(hk0:0<k)(hk:k<=10000)(ha:QB k a)(hb:QB k b):Gives cx.P 209 [aA (qtx a),aA (qtx b)] C (aA (qtx (a+b))):=by
 have hal:=cC ha hk0;have hbl:=cC hb hk0;have hda:=d5 a;have hdb:=d5 b;have hdd:0<a.den*b.den:=MA hda hdb;refine Fn.it kr_ Tryz.func209 67 fun w0=>?_;refine G.z2 1 0 1 ?_;refine G.z3 2 0 1 16 ?_;refine G.cd (fun h16=>?_) fun h16=>?_
 ·have h0:a=0:=by rw [fL] at h16;exact bi h16
  refine G.z1 2 4 ?_;refine G.rf ?_;refine ⟨?_,Z⟩;rw [h0,MM]
 ·refine G.z3 2 0 1 19 ?_;refine G.cd (fun h19=>?_) fun h19=>?_
  ·have h0:b=0:=by rw [fL] at h19;exact bi h19
   refine G.z1 2 4 ?_;refine G.rf ?_;refine ⟨?_,Z⟩;rw [h0,Rat.add_zero]
  ·refine G.rp 1 fun R hR=>?_;refine D.aj (ip _ a om_) U7 fl_ ?_;refine D.q5 7 0 1 5 6 7 hR ?_;refine G.z5 1 0 1 5 6 27 ?_;refine G.cut (fun fr C' L' μ=>(True)/\fr=[(0,[],aA (qtx a)),(1,[],aA (qtx b))]/\L'=[]) ?_ (fun fr _ L27 μ _ hI=>?_)
   ·refine G.cd (fun h27=>?_) fun h27=>?_
    ·have hfa:wO a=true:=h27;rw [bW hfa,bW hfa];have ha9:=jr hfa;refine G.rp 1 fun R hR=>?_;refine D.aj (ip _ b om_) U7 fl_ ?_;refine D.q7 7 0 1 5 6 8 9 10 hR ?_;refine G.z7 1 0 1 5 6 8 9 34 ?_;refine G.cd (fun h34=>?_) fun h34=>?_
     ·have hfb:wO b=true:=h34;rw [bW hfb,bW hfb];have hb9:=jr hfb;have hm1:=iy ha9.1 hb9.2;have hm2:=iy hb9.1 ha9.2;have hm3:=jL ha9.2 hb9.2;refine G.rp 2 fun R hR=>?_;refine D.ar _ ?_;refine D.ps 2 ?_;refine D.ar _ ?_;refine D.ar _ ?_;refine D.ps 2 ?_;refine D.cf (((a.den*b.den:Nat):Int)) U4 (La _ _).symm om_ om_ U2 ?_;refine D.aj (ss _ hT.m_ _ _ hdd om_ om_) U7 fl_ ?_;refine D.q1 1 4 hR ?_;refine G.rf ?_;exact ⟨by rw [eO],Z⟩
     ·refine G.aK 0 (Mem.le.refl _) (h_2 0 1) ⟨trivial,Z,Z⟩
    ·refine G.aK 0 (Mem.le.refl _) (h_2 0 1) ⟨trivial,Z,Z⟩
   ·obtain ⟨_,rfl,rfl⟩:=hI;refine G.rp 1 fun R hR=>?_;refine D.aj (je _ a om_) U7 fl_ ?_;refine D.q3 5 1 11 12 hR ?_;refine G.rp 1 fun R hR=>?_;refine D.aj (je _ b om_) U7 fl_ ?_;refine D.q4 5 11 12 13 14 hR ?_;refine G.rp 2 fun R hR=>?_;refine D.aj (jl _ hT.m_ _ _ k hk0 om_ ha.1 (ij hb)) U7 fl_ ?_;refine D.ps 2 ?_;refine D.aj (jl _ hT.m_ _ _ k hk0 om_ hb.1 (ij ha)) U7 fl_ ?_;refine D.aj (Hz _ hT.m_ _ _ (k+k) om_ om_ (bP ha.1 (ij hb)) (bP hb.1 (ij ha))) U7 fl_ ?_;refine D.ps 2 ?_;refine D.aj (jl _ hT.m_ _ _ k hk0 om_ (ij ha) (ij hb)) U7 fl_ ?_;refine D.aj (mW _ hT.m_ _ _ (k+k+1) om_ om_ (DS (Oi _ _) (pZ (bP ha.1 (ij hb)) (bP hb.1 (ij ha)))) (da (bP (ij ha) (ij hb)) om_) (by rw [<- La];omega)) U7 fl_ ?_;refine D.q1 1 4 hR ?_;refine G.rf ?_;exact ⟨by rw [eO,<- La,lV hdd],Z⟩

theorem xB {a b:Rat}{k:Nat}(ha:QB k a)(hb:QB k b):QB (k+k+1) (a+b):=by
 rw [eO];exact f7 (Nat.ne_of_gt (MA (d5 a) (d5 b))) (DS (Oi _ _) (pZ (bP ha.1 (ij hb)) (bP hb.1 (ij ha)))) (da (lR ha.2 hb.2) om_)
theorem dU {a b:Rat}{k:Nat}(ha:QB k a)(hb:QB k b):QB (k+k) (a*b):=by
 rw [eN];exact f7 (Nat.ne_of_gt (MA (d5 a) (d5 b))) (bP ha.1 hb.1) (lR ha.2 hb.2)
theorem pE {a:Rat}{k:Nat}(ha:QB k a):QB k (-a):=⟨by rw [Nm,MN];exact ha.1,by rw [Rat.neg_den];exact ha.2⟩
theorem iW {a b:Rat}{k:Nat}(ha:QB k a)(hb:QB k b):QB (k+k+1) (a-b):=by
 rw [MJ];exact xB ha (pE hb)
theorem xz {a:Rat}{k:Nat}(ha:QB k a)(h0:a≠0):QB k a⁻¹:=by
 have hn:a.num≠0:=fun e=>h0 (M5.1 e);refine ⟨?_, ?_⟩
 ·rw [Rat.num_inv,Mo,Int.natAbs_sign_of_ne_zero hn,NE,J9];exact ha.2
 ·rw [Rat.den_inv,a7 hn];exact ha.1
theorem xA {a b:Rat}{k:Nat}(ha:QB k a)(hb:QB k b)(h0:b≠0):QB (k+k) (a / b):=by
 rw [Np];exact dU ha (xz hb h0)
theorem DG {z:Int}{k:Nat}(h:z.natAbs<B9 ^ k)(hk:0<k):QB k (z:Rat):=⟨h,by
 show 1<B9 ^ k;exact K4 (by decide:1<B9 ^ 1) (gr dc_ hk)⟩
theorem bt (C:Mem)(hT:Tabs C)(a b:Rat)(k:Nat)(hk0:0<k)(hk:k<=10000)(ha:QB k a)(hb:QB k b):Gives cx.P 138 [aA (qtx a),aA (qtx b)] C (aA (qtx (a*b))):=by
 have hal:=cC ha hk0;have hbl:=cC hb hk0;have hda:=d5 a;have hdb:=d5 b;have hdd:0<a.den*b.den:=MA hda hdb;refine Fn.it kr_ Tryz.func138 66 fun w0=>?_;refine G.z2 1 0 1 ?_;refine G.z3 3 0 1 15 ?_;refine G.cut (fun fr C' L' μ=>(True)/\fr=[(0,[],aA (qtx a)),(1,[],aA (qtx b)),(15,[],.bool (decide (a=0∨b=0)))]/\L'=[]) ?_ (fun fr _ L15 μ _ hI=>?_)
 ·refine G.cd (fun h15=>?_) fun h15=>?_
  ·have h0:a=0:=by rw [fL] at h15;exact bi h15
   rw [fL,show decide (a=0)=decide (a=0∨b=0) by simp [h0]];refine G.aK 0 (Mem.le.refl _) (h_3 0 1 15) ⟨trivial,Z,Z⟩
  ·have h0:¬ a=0:=by rw [fL] at h15;exact dj h15
   refine G.z3 3 0 1 15 ?_;rw [fL,show decide (b=0)=decide (a=0∨b=0) by simp [h0]];refine G.aK 0 (Mem.le.refl _) (h_3 0 1 15) ⟨trivial,Z,Z⟩
 ·obtain ⟨_,rfl,rfl⟩:=hI;refine G.cd (fun h15b=>?_) fun h15b=>?_
  ·have h0:=bi h15b;refine G.z1 1 4 ?_;refine G.rf ?_;refine ⟨?_,Z⟩;rw [show a*b=0 by rcases h0 with h | h <;> simp [h],qtx_zero];rfl
  ·refine G.z3 3 0 1 20 ?_;refine G.cd (fun h20=>?_) fun h20=>?_
   ·have h1:a=1:=by rw [Gb] at h20;exact bi h20
    refine G.z1 2 4 ?_;refine G.rf ?_;refine ⟨?_,Z⟩;rw [h1,Rat.one_mul]
   ·refine G.z3 3 0 1 24 ?_;refine G.cd (fun h24=>?_) fun h24=>?_
    ·have h1:b=1:=by rw [Gb] at h24;exact bi h24
     refine G.z1 2 4 ?_;refine G.rf ?_;refine ⟨?_,Z⟩;rw [h1,Rat.mul_one]
    ·refine G.rp 1 fun R hR=>?_;refine D.aj (ip _ a om_) U7 fl_ ?_;refine D.q5 7 0 1 5 6 7 hR ?_;refine G.z5 1 0 1 5 6 34 ?_;refine G.cut (fun fr C' L' μ=>(True)/\fr=[(0,[],aA (qtx a)),(1,[],aA (qtx b))]/\L'=[]) ?_ (fun fr _ L34 μ _ hI=>?_)
     ·refine G.cd (fun h34=>?_) fun h34=>?_
      ·have hfa:wO a=true:=h34;rw [bW hfa,bW hfa];have ha9:=jr hfa;refine G.rp 1 fun R hR=>?_;refine D.aj (ip _ b om_) U7 fl_ ?_;refine D.q7 7 0 1 5 6 8 9 10 hR ?_;refine G.z7 1 0 1 5 6 8 9 41 ?_;refine G.cd (fun h41=>?_) fun h41=>?_
       ·have hfb:wO b=true:=h41;rw [bW hfb,bW hfb];have hb9:=jr hfb;have hm1:=wg ha9.1 hb9.1;have hm3:=jL ha9.2 hb9.2;refine G.rp 2 fun R hR=>?_;refine D.ar _ ?_;refine D.ps 2 ?_;refine D.cf (((a.den*b.den:Nat):Int)) U4 (La _ _).symm om_ om_ U2 ?_;refine D.aj (ss _ hT.m_ _ _ hdd om_ om_) U7 fl_ ?_;refine D.q1 1 4 hR ?_;refine G.rf ?_;exact ⟨by rw [eN],Z⟩
       ·refine G.aK 0 (Mem.le.refl _) (h_2 0 1) ⟨trivial,Z,Z⟩
      ·refine G.aK 0 (Mem.le.refl _) (h_2 0 1) ⟨trivial,Z,Z⟩
     ·obtain ⟨_,rfl,rfl⟩:=hI;refine G.rp 1 fun R hR=>?_;refine D.aj (je _ a om_) U7 fl_ ?_;refine D.q3 5 1 11 12 hR ?_;refine G.rp 1 fun R hR=>?_;refine D.aj (je _ b om_) U7 fl_ ?_;refine D.q4 5 11 12 13 14 hR ?_;refine G.rp 2 fun R hR=>?_;refine D.aj (jl _ hT.m_ _ _ k hk0 om_ ha.1 hb.1) U7 fl_ ?_;refine D.ps 2 ?_;refine D.aj (jl _ hT.m_ _ _ k hk0 om_ (ij ha) (ij hb)) U7 fl_ ?_;refine D.aj (mW _ hT.m_ _ _ (k+k) om_ om_ (bP ha.1 hb.1) (bP (ij ha) (ij hb)) (by rw [<- La];omega)) U7 fl_ ?_;refine D.q1 1 4 hR ?_;refine G.rf ?_;exact ⟨by rw [eN,<- La,lV hdd],Z⟩
theorem bH (C:Mem)(hT:Tabs C)(a b:Rat)(k:Nat)(hk0:0<k)(hk:k<=10000)(ha:QB k a)(hb:QB k b):Gives cx.P 135 [aA (qtx a),aA (qtx b)] C (aA (qtx (a-b))):=by
 have hbl:=cC hb hk0;refine Fn.it kr_ Tryz.func135 9 fun w0=>?_;refine G.z2 1 0 1 ?_;refine G.rp 2 fun R hR=>?_;refine D.aj (AP _ b om_) U7 fl_ ?_;refine D.ag (dZ _ hT.m_ a (-b) k hk0 hk ha (pE hb)) ?_;refine D.q1 1 4 hR ?_;refine G.rf ?_;exact ⟨by rw [MJ],Z⟩
theorem uh (C:Mem)(hT:Tabs C)(a b:Rat)(k:Nat)(hk0:0<k)(hk:k<=10000)(ha:QB k a)(hb:QB k b)(hb0:b≠0):Gives cx.P 178 [aA (qtx a),aA (qtx b)] C (.tuple #[aA (qtx (a / b)),.int .i64 0]):=by
 have hbl:=cC hb hk0;have hbn:b.num≠0:=fun e=>hb0 (M5.1 e);obtain ⟨c,r,hcr,hcd⟩:=lQ b;refine Fn.it kr_ Tryz.func178 27 fun w0=>?_;refine G.z2 2 0 1 ?_;refine G.z3 2 0 1 9 ?_;refine G.cd (fun h9=>?_) fun h9=>?_
 ·exfalso;rw [fL] at h9;exact hb0 (bi h9)
 ·refine G.rp 1 fun R hR=>?_;refine D.aj (je _ b om_) U7 fl_ ?_;refine D.q4 5 0 1 6 7 hR ?_;refine G.rp 1 fun R hR=>?_;refine D.aW U8 (fun _=>⟨by omega,by rw [hcr];rfl⟩) U2 ?_;refine D.q4 1 0 6 7 17 hR ?_;refine G.cut (fun fr C' L' μ=>(True)/\fr=[(0,[],aA (qtx a)),(6,[],aA (txt (b.num.natAbs:Nat))),(7,[],aA (txt (b⁻¹).num))]/\L'=[]) ?_ (fun fr _ L17 μ _ hI=>?_)
  ·refine G.cd (fun h17=>?_) fun h17=>?_
   ·have hn:b.num<0:=by rw [hcd] at h17;exact bi h17
    refine G.rp 1 fun R hR=>?_;refine D.aj (qN _ b.num (by have:=bG hb.1 hk0;omega)) U7 fl_ ?_;refine D.ac ?_;refine D.aj (qN _ ((b.den:Nat):Int) (by have:=bG (ij hb) hk0;omega)) U7 fl_ ?_;refine D.q3 2 0 6 7 hR ?_;rw [show -b.num=((b.num.natAbs:Nat):Int) by omega,show -((b.den:Nat):Int)=(b⁻¹).num by rw [Rat.num_inv,Int.sign_eq_neg_one_of_neg hn,Int.neg_one_mul]];refine G.aK 0 (Mem.le.refl _) (h_3 0 6 7) ⟨trivial,Z,Z⟩
   ·have hn:¬ b.num<0:=by rw [hcd] at h17;exact dj h17
    rw [show b.num=((b.num.natAbs:Nat):Int) by omega,show ((b.den:Nat):Int)=(b⁻¹).num by rw [Rat.num_inv,Int.sign_eq_one_of_pos om_,Int.one_mul]];refine G.aK 0 (Mem.le.refl _) (h_3 0 6 7) ⟨trivial,Z,Z⟩
  ·obtain ⟨_,rfl,rfl⟩:=hI;rw [cm,show b.num.natAbs=(b⁻¹).den by rw [Rat.den_inv,a7 hbn]];refine G.rp 3 fun R hR=>?_;refine D.aj (BO _ _ _ k hk0 om_ (xz hb hb0).1 (xz hb hb0).2) U7 fl_ ?_;rw [<- qj b⁻¹];refine D.ag (bt _ hT.m_ a b⁻¹ k hk0 hk ha (xz hb hb0)) ?_;refine D.q2 2 4 5 hR ?_;refine G.aB (G.dropAll (G.a8 U3 ?_));exact ⟨by rw [Np],Z⟩
theorem G7 (C:Mem)(hT:Tabs C)(z w:Int)(k:Nat)(hk0:0<k)(hk:k<=40000)(hz:z.natAbs<B9 ^ k)(hw:w.natAbs<B9 ^ k)(hw0:w≠0):Gives cx.P 110 [aA (txt z),aA (txt w)] C (.tuple #[aA (qtx (iV z w)),.int .i64 0]):=by
 refine Fn.it kr_ Tryz.func110 12 fun w0=>?_;refine G.z2 2 0 1 ?_;refine G.rp 1 fun R hR=>?_;refine D.ag (jR _ w) ?_;refine D.q3 1 0 1 8 hR ?_;refine G.cd (fun h8=>?_) fun h8=>?_
 ·exfalso;have h:fg w=0:=by simpa using h8
  rcases eM w with h2 | h2 | h2 <;> omega
 ·refine G.rp 2 fun R hR=>?_;refine D.ag (mW _ hT.m_ z w k hk0 hk hz hw hw0) ?_;refine D.q2 2 4 5 hR ?_;refine G.aB (G.dropAll (G.a8 U3 ?_));exact ⟨Z,Z⟩
theorem F8 (C:Mem)(hT:Tabs C)(z w:Int)(hz:z.natAbs<9000000000000000000)(hw:w.natAbs<9000000000000000000)(hw0:w≠0):Gives cx.P 52 [.int .i64 z,.int .i64 w] C (.tuple #[aA (qtx (iV z w)),.int .i64 0]):=by
 have hb3:9000000000000000000<B9 ^ 3:=by decide
 refine Fn.it kr_ Tryz.func52 13 fun w0=>?_;refine G.z2 2 0 1 ?_;refine G.rp 1 fun R hR=>?_;refine D.aj (o4 _ hT.m_ z om_ om_) U7 fl_ ?_;refine D.ac ?_;refine D.aj (o4 _ hT.m_ w om_ om_) U7 fl_ ?_;refine D.aj (G7 _ hT.m_ z w 3 dc_ dc_ om_ om_ hw0) U7 fl_ ?_;refine D.q2 4 4 5 hR ?_;refine G.aB (G.dropAll (G.a8 U3 ?_));exact ⟨Z,Z⟩
theorem lG (C:Mem)(hT:Tabs C)(z:Int)(hz:z.natAbs<9000000000000000000):Gives cx.P 217 [.int .i64 z] C (aA (qtx z)):=by
 refine Fn.it kr_ Tryz.func217 5 fun w0=>?_;refine G.z1 1 0 ?_;refine G.rp 1 fun R hR=>?_;refine D.aj (o4 _ hT.m_ z om_ om_) U7 fl_ ?_;refine D.q1 1 2 hR ?_;refine G.rf ?_;exact ⟨by rw [uk],Z⟩

theorem pow9 (k:Nat):B9 ^ k=10 ^ (9*k):=by rw [Om]
theorem iu {s:Str}(h:bI s=true):s=txt (gE s)/\(gE s).natAbs<B9 ^ 23:=by
 have h1:=fJ.1 h;refine ⟨Dg (by unfold bI at h;exact (OK.1 h).1), ?_⟩;rw [lW];have h2:=fZ.1 h1.1;have h3:=cV h2.1.1;exact K4 h3 (by rw [pow9];exact gr dc_ om_)
theorem oo (C:Mem)(b:Str)(hb:bI b=true):Gives cx.P 212 [aA b,aA [49]] C (.int .i64 (rL (gE b) 1)):=by
 obtain ⟨h1,h2⟩:=iu hb;have h:=ng C (gE b) 1 (by have:=bG h2 dc_;omega) (by rw [show aT (1:Int).natAbs=[49] from one_dec];decide)
 rwa [<- one_val,<- h1] at h
theorem yA (C:Mem)(hT:Tabs C)(a b:Str)(ha:bI a=true)(hb:bI b=true):Gives cx.P 221 [aA a,aA b] C (aA (txt (Nat.gcd (gE a).natAbs (gE b).natAbs:Nat))):=by
 obtain ⟨h1,h2⟩:=iu ha;obtain ⟨h3,h4⟩:=iu hb;have h:=BY C hT (gE a) (gE b) 23 dc_ dc_ h2 h4
 rwa [<- h1,<- h3] at h
theorem tx {b:Bool}(h:(w7 b != 0)=false):b=true:=by cases b <;> first | rfl | (exact absurd h dc_)
theorem jG (C:Mem)(hT:Tabs C)(s:Str)(hl:s.length<=999998):Gives cx.P 140 [aA s] C (.int .i64 (w7 (cQ s))):=by
 have hls:=AS hl;obtain ⟨num,bo,hct⟩:∃ a b,dL 47 s=(a,b):=⟨_,_,rfl⟩;have hM:cQ s=(bI num && bI (bo.getD [49]) && mE (gE num) bo):=by
  unfold cQ;rw [hct]
 rw [hct] at hls;simp only at hls;refine Fn.it kr_ Tryz.func140 39 fun w0=>?_;refine G.z1 1 0 ?_;refine G.rp 1 fun R hR=>?_;refine D.aj (by have h:=CS C s 47 om_;rw [hct] at h;exact h) U7 fl_ ?_;refine D.q3 7 3 4 5 hR ?_;refine G.rp 1 fun R hR=>?_;refine D.ag (sT _ num) ?_;refine D.q4 1 3 4 5 16 hR ?_;refine G.cd (fun h16=>?_) fun h16=>?_
 ·have hno:cQ s=false:=by
   rw [hM];cases h1:bI num with
   | false=>rfl
   | true=>rw [h1] at h16;exact absurd h16 dc_
  refine G.z1 1 2 ?_;refine G.rf ?_;exact ⟨by rw [hno];rfl,Z⟩
 ·have hr1:bI num=true:=by
   cases h1:bI num with
   | true=>rfl
   | false=>rw [h1] at h16;exact absurd h16 dc_
  rw [hr1,NL] at hM;obtain ⟨hn1,hn2⟩:=iu hr1;refine G.z3 2 3 4 18 ?_;refine G.cd (fun h18=>?_) fun h18=>?_
  ·have hbo:bo=none:=by
    cases bo with
    | none=>rfl
    | some b=>simp at h18
   refine G.z1 1 2 ?_;refine G.rf ?_;refine ⟨?_,Z⟩;rw [hM,hbo];rfl
  ·obtain ⟨b,hbo⟩:∃ b,bo=some b:=by
    cases bo with
    | some b=>exact ⟨b,rfl⟩
    | none=>simp at h18
   subst hbo;obtain ⟨zn,ezn⟩:∃ z,gE num=z:=⟨_,rfl⟩;obtain ⟨zd,ezd⟩:∃ z,gE b=z:=⟨_,rfl⟩;have hM2:cQ s=(bI b && mE (gE num) (some b)):=hM;unfold mE at hM2;simp only [ezn,ezd] at hM2 hn1 hn2;have e0:(num == [48])=(zn == 0):=by
    rw [hn1];have h:=jy zn;rw [show (zn == 0)=decide (zn=0) by by_cases h:zn=0 <;> simp [h]];exact h
   have e1:(w7 (bI b) != 0)=!bI b:=by cases bI b <;> rfl
   have e2:decide (rL zd 1<=0)=!decide (1<zd):=by
    unfold rL;by_cases h:1<zd
    ·rw [a7 om_,bW h,j9 h];rfl
    ·rw [K3 h];refine j9 ?_;split <;> first | omega | (split <;> omega)
   have key:(w7 (bI b) != 0 || decide (rL (gE b) 1<=0) || (num == [48]) || !(aT ((gE num).natAbs.gcd (gE b).natAbs) == [49]))=!cQ s:=by
    have e3:=pn (zn.natAbs.gcd zd.natAbs);have e4:(aT (zn.natAbs.gcd zd.natAbs) == [49])=(zn.natAbs.gcd zd.natAbs == 1):=e3;rw [ezn,ezd,e0,e1,e2,e4,hM2];cases bI b <;> cases decide (1<zd) <;> cases (zn == 0) <;> cases (zn.natAbs.gcd zd.natAbs == 1) <;> rfl
   rw [<- cm] at key;refine G.z2 4 6 7 ?_;refine G.rp 1 fun R hR=>?_;refine D.ag (sT _ b) ?_;refine D.ps 3 ?_;refine D.ay (fun hg=>(oo _ b (by exact tx (show (w7 (bI b) != 0)=false/\True from hg).1))) U9 ?_;refine D.ac ?_;refine D.aI ?_;refine D.ps 3 ?_;refine D.aI ?_;refine D.ps 3 ?_;refine D.ay (fun hg=>(yA _ hT.m_ num b hr1 (by exact tx (LU.1 (LU.1 (show (((w7 (bI b) != 0) || decide (rL (gE b) 1<=0)) || (num == [48]))=false/\True from hg).1).1).1))) U9 ?_;refine D.ac ?_;refine D.aI ?_;refine D.e1 38 hR ?_;refine G.cd (fun h38=>?_) fun h38=>?_
   ·have hno:cQ s=false:=by
     have h:(!cQ s)=true:=key.symm.trans h38;simpa using h
    refine G.z1 1 2 ?_;refine G.rf ?_;exact ⟨by rw [hno];rfl,Z⟩
   ·have hno:cQ s=true:=by
     have h:(!cQ s)=false:=key.symm.trans h38;simpa using h
    refine G.z1 1 2 ?_;refine G.rf ?_;exact ⟨by rw [hno];rfl,Z⟩

theorem rT:∀ {l:List Nat}{j y:Nat},j<l.length->a6 (l.set j y)+BP ^ j*gP l j=a6 l+BP ^ j*y
 | [],_,_,h=>absurd h (Nat.not_lt_zero _)
 | x::l,0,y,_=>by
  rw [List.set_cons_zero,OC,NE,NE];show y+BP*a6 l+x=x+BP*a6 l+y;omega
 | x::l,j+1,y,h=>by
  have ih:=rT (l:=l) (j:=j) (y:=y) (by simpa using h);rw [List.set_cons_succ,Lb];show x+BP*a6 (l.set j y)+BP ^ j*BP*gP l j=x+BP*a6 l+BP ^ j*BP*y;rw [K8 (BP ^ j) BP,K7,K7,MY,MY,<- FX,<- FX,ih]
theorem sX {l:List Nat}{i j z:Nat}(h:i≠j):gP (l.set i z) j=gP l j:=by
 unfold gP;rw [aF,aF,ND h]
theorem Ch {l:List Nat}{i z:Nat}(h:i<l.length):gP (l.set i z) i=z:=by
 unfold gP;rw [aF,Nn h];rfl
theorem E7 (n j:Nat):gP (List.replicate n 0) j=0:=by
 unfold gP;rw [aF,NJ];split <;> rfl
theorem JE {l:List Nat}(h:DigP l)(i:Nat):gP l i<=9999:=by
 rcases Ld i l.length with h1 | h1
 ·have h2:=h _ (ba (gA h1).2);have h3:BP=10000:=rfl;omega
 ·unfold gP;rw [aF,LF h1];exact ch _
theorem vF (l:List Nat)(k:Nat):a6 (l.take (k+1))=a6 (l.take k)+BP ^ k*gP l k:=by
 rcases Ld k l.length with h | h
 ·exact fE (gA h).2
 ·have e:gP l k=0:=by unfold gP;rw [aF,LF h];rfl
  rw [e,gG h,gG om_,N9,Mc]
theorem r5 (C:Mem)(va vb:Value)(a b:List Nat)(ha:Sl C 1 va (a.map dG))(hb:Sl C 1 vb (b.map dG))(hda:DigP a)(hdb:DigP b)(hla:a.length<=5000)(hlb:b.length<=5000) :
  Pur cx.P 240 [va,vb] C fun u C'=>PieC C' u (a6 a*a6 b):=by
 obtain ⟨A0,c0,rfl,_⟩:=id ha;obtain ⟨B0,d0,rfl,_⟩:=id hb;simp only [aH] at ha hb ⊢;obtain ⟨N,hN⟩:∃ N,a.length+b.length=N:=⟨_,rfl⟩;refine Fn.it kr_ Tryz.func240 45 fun w0=>?_;refine G.z2 1 0 1 ?_;refine G.rp 4 fun R hR=>?_;refine D.cf (((N:Nat):Int)) U4 om_ om_ om_ U2 ?_;refine D.bK U9 (aP _) (by show 8*N<=281474976710656;omega) (by simp only [maxLen];omega) fl_ (fun b13=>?_);refine D.q3 1 0 1 5 hR ?_;refine G.z4 1 0 1 5 6 ?_;refine G.be (L':=[.arr (.slice (some ⟨b13,0,none⟩) N N) 3 1 N ((List.replicate N 0).map dG).flatten]) (by rw [<- F0];rfl) ?_;refine G.loop (fun fr C' L' μ=>∃ (i:Nat)(o:List Nat),(i<=a.length/\o.length=N/\(∀ j,gP o j<=i*100000000)/\a6 o=a6 (a.take i)*a6 b)/\fr=[(0,[],.slice A0 a.length c0),(1,[],.slice B0 b.length d0),(5,[],.slice (some ⟨b13,0,none⟩) N N),(6,[],.int .i64 i)]/\L'=[.arr (.slice (some ⟨b13,0,none⟩) N N) 3 1 N (o.map dG).flatten]/\μ=a.length-i) (h_4 0 1 5 6) ⟨0,List.replicate N 0,⟨ch _,LW,fun j=>by rw [E7];omega,by rw [oB (fun x hx=>LH hx)];simp [a6]⟩,Z,Z,Z⟩ (fun fr C0' L0' m _ hI=>?_);obtain ⟨i,o,⟨hi,hol,hob,hval⟩,rfl,rfl,rfl⟩:=hI;refine G.z5 4 0 1 5 6 17 ?_;refine G.cd (fun h17=>?_) fun h17=>?_
 ·have hil:i<a.length:=by simpa using h17
  have hx:=JE hda i;refine G.z5 1 0 1 5 6 7 ?_;refine G.loop (fun fr C' L' μ=>∃ (k:Nat)(q:List Nat),(k<=b.length/\q.length=N/\(∀ j,gP q j<=(i+1)*100000000)/\(∀ j,i+k<=j->gP q j<=i*100000000)/\a6 q=a6 o+BP ^ i*(gP a i*a6 (b.take k)))/\fr=[(0,[],.slice A0 a.length c0),(1,[],.slice B0 b.length d0),(5,[],.slice (some ⟨b13,0,none⟩) N N),(6,[],.int .i64 i),(7,[],.int .i64 k)]/\L'=[.arr (.slice (some ⟨b13,0,none⟩) N N) 3 1 N (q.map dG).flatten]/\μ=b.length-k) (h_5 0 1 5 6 7) ⟨0,o,⟨ch _,hol,fun j=>LE (hob j) (Lm _ om_),fun j _=>hob j,by simp [a6]⟩,Z,Z,Z⟩ (fun fr C1' L1' m _ hI=>?_);obtain ⟨k,q,⟨hk,hql,hqb,hqc,hqv⟩,rfl,rfl,rfl⟩:=hI;refine G.z6 4 0 1 5 6 7 23 ?_;refine G.cd (fun h23=>?_) fun h23=>?_
  ·have hkl:k<b.length:=by simpa using h23
   have hy:=JE hdb k;have hget:=(gA (l:=q) (k:=i+k) om_).2;have hold:=hqc (i+k) (aP _);have hprod:gP a i*gP b k<=100000000:=LE (NF hx hy) dc_;refine G.aG [0,1,2,3,4,5,6,7,8,9,10,11,12,13,14,15,16,17] [] Z kr_ (fun R hB hR=>?_);refine D.ps 3 ?_;refine D.cf (((i+k:Nat):Int)) U4 om_ om_ om_ U2 ?_;refine D.bu ((i+k)*1) U10 (fun _=>⟨by omega,by omega,Z⟩) U2 ?_;refine D.er (.head _) U6 (fun _=>(by rw [fm jT hget];rfl)) U2 ?_;refine D.ps 2 ?_;refine D.ak ha.m_ U10 om_ (gA hil).1 fl_ (fun p34 hp34=>?_);refine D.aa hp34 ?_;refine D.ps 2 ?_;refine D.ak hb.m_ U10 om_ (gA hkl).1 fl_ (fun p38 hp38=>?_);refine D.aa hp38 ?_;refine D.cf (((gP a i*gP b k:Nat):Int)) U4 (La _ _).symm om_ om_ U2 ?_;refine D.cf (((gP q (i+k)+gP a i*gP b k:Nat):Int)) U4 om_ om_ om_ U2 ?_;refine D.bu ((i+k)*1) U10 (fun _=>⟨by omega,by omega,Z⟩) U2 ?_;refine D.bE (j:=0) U11 (by show (i+k)*1+1<=_;rw [cX jT,hql];omega) ?_;refine D.e5 0 1 5 6 7 hR ?_;refine G.rp 1 fun R hR=>?_;refine D.ar _ ?_;refine D.q5 1 0 1 5 6 7 hR ?_;refine G.be (L':=[.arr (.slice (some ⟨b13,0,none⟩) N N) 3 1 N ((q.set (i+k) (gP q (i+k)+gP a i*gP b k)).map dG).flatten]) (by rw [<- bV jT _ (by omega:i+k<q.length)];rfl) ?_;refine G.ax (m':=b.length-(k+1)) om_ mup (h_5 0 1 5 6 7) ⟨k+1,q.set (i+k) (gP q (i+k)+gP a i*gP b k),⟨by omega,by simp [hql],fun j=>by
    by_cases h:i+k=j
    ·subst h;rw [Ch om_,L9];omega
    ·rw [sX h];exact hqb j,fun j hj=>by rw [sX om_];exact hqc j om_,by
    have h:=rT (l:=q) (j:=i+k) (y:=gP q (i+k)+gP a i*gP b k) om_;rw [FX (BP ^ (i+k))] at h;rw [vF,FX (gP a i),FX (BP ^ i),<- MY,<- hqv];have e:BP ^ i*(gP a i*(BP ^ k*gP b k))=BP ^ (i+k)*(gP a i*gP b k):=by
     rw [MX,<- K7 (gP a i),K8 (gP a i) (BP ^ k),K7,<- K7 (BP ^ i)]
    rw [e];omega⟩,rfl,rfl,rfl⟩
  ·have hkl:k=b.length:=by
    have:¬ k<b.length:=by simpa using h23
    omega
   refine G.rp 1 fun R hR=>?_;refine D.ar _ ?_;refine D.q4 1 0 1 5 6 hR ?_;refine G.ax (m':=a.length-(i+1)) om_ mup (h_4 0 1 5 6) ⟨i+1,q,⟨by omega,hql,hqb,by
    rw [hkl,cK] at hqv;rw [vF,L9,<- hval,K7];exact hqv⟩,Z,Z,Z⟩
 ·have hil:i=a.length:=by
   have:¬ i<a.length:=by simpa using h17
   omega
  refine G.freezeArr 0 ((o.map fun (x:Nat)=>(x:Int)).map dB) ⟨rfl,(by rw [Ns];rfl)⟩ (by intro r hr;obtain ⟨x,_,rfl⟩:=j5.1 hr;rfl) (by simp [hol]) (fun _ _ hb3=>?_);refine G.rp 1 fun R hR=>?_;refine D.au (xe _ _ (o.map fun (x:Nat)=>(x:Int)) hb3.m_ (by rw [lH];omega) (by
   intro x hx;obtain ⟨y,hy,rfl⟩:=j5.1 hx;obtain ⟨j,hj⟩:=Ma hy;have h1:=hob j;have h2:gP o j=y:=by unfold gP;rw [aF,hj];rfl
   rw [h2] at h1;have h3:i*100000000<=5000*100000000:=Lm _ om_;omega) (by rw [aH];omega)) U7 fl_ (fun v44 _ _ hq44=>?_)
  refine D.q1 1 4 hR ?_;refine G.rf ?_;refine ⟨Z, ?_⟩;rw [lH,L5,hval,hil,cK] at hq44;exact hq44

theorem DE {z:Int}{m:Nat}(h:(aT z.natAbs).length<=m):z.natAbs<10 ^ m:=by
 obtain ⟨h2,h3⟩:=aV z.natAbs;have h4:=cV h2.1;rw [h3] at h4;exact K4 h4 (gr dc_ h)
theorem u4 {l:List Nat}(h:vx l){m n:Nat}(hv:a6 l<BP ^ m*BP ^ n):l.length<=m+n:=iI h (by rw [MX];exact hv)
theorem eZ (C:Mem)(hT:Tabs C)(z w:Int)(hz:z.natAbs<BP ^ 200)(hw:w.natAbs<BP ^ 200):Gives cx.P 162 [aA (txt z),aA (txt w)] C (aA (txt (z*w))):=by
 have hlz:=K6.2 (kT z.natAbs);have hlw:=K6.2 (kT w.natAbs);refine Fn.it kr_ Tryz.func162 52 fun w0=>?_;refine G.z2 1 0 1 ?_;refine G.rp 1 fun R hR=>?_;refine D.ag (cZ _ z) ?_;refine D.q4 5 0 1 5 6 hR ?_;refine G.rp 1 fun R hR=>?_;refine D.ag (cZ _ w) ?_;refine D.q6 5 0 1 5 6 7 8 hR ?_;have hz8:=d9 hz;have hw8:=d9 hw;refine G.rp 4 fun R hR=>?_;refine D.cf ((((aT z.natAbs).length+(aT w.natAbs).length:Nat):Int)) U4 (NM _ _).symm om_ om_ U2 ?_;refine D.q7 1 0 1 5 6 7 8 28 hR ?_;refine G.cd (fun h28=>?_) fun h28=>?_
 ·have hsum:(aT z.natAbs).length+(aT w.natAbs).length<=18:=by
   have h:=bi h28;omega
  have hp:(z*w).natAbs<10 ^ 18:=by
   have h1:=DE (z:=z) (aP _);have h2:=DE (z:=w) (aP _);rw [Mo];refine K4 (Ms h1 h2) ?_;rw [<- MX];exact gr dc_ hsum
  rw [e18] at hp;refine G.rp 1 fun R hR=>?_;refine D.aj (p5 _ z om_) U7 fl_ ?_;refine D.q2 5 1 9 hR ?_;refine G.rp 1 fun R hR=>?_;refine D.aj (p5 _ w om_) U7 fl_ ?_;refine D.q2 5 9 11 hR ?_;refine G.rp 2 fun R hR=>?_;refine D.ar _ ?_;refine D.aj (fN _ hT.m_ (z*w) om_ om_) U7 fl_ ?_;refine D.q1 1 4 hR ?_;refine G.rf ?_;exact ⟨Z,Z⟩
 ·refine G.rp 4 fun R hR=>?_;refine D.az (fk _ z.natAbs hz) (fun v47 _ _ hq47=>?_);refine D.ac ?_;refine D.az (fk _ w.natAbs hw) (fun v49 _ _ hq49=>?_);obtain ⟨lz,hcz,hvz,hlz2,hsz⟩:=hq47;obtain ⟨lw,hcw,hvw,hlw2,hsw⟩:=hq49;refine D.au (r5 _ _ _ lz lw hsz.m_ hsw.m_ hcz.1 hcw.1 om_ om_) U7 fl_ (fun v50 _ _ hq50=>?_);obtain ⟨lp,hcp,hvp,hsp⟩:=hq50;have hpl:lp.length<=400:=u4 (m:=200) (n:=200) hcp (by rw [hvp,hvz,hvw];exact Ms hz hw);obtain ⟨Ap,cp,rfl,_⟩:=id hsp;refine D.aj (kK _ hT.m_ _ _ lp hsp.m_ hcp.1 om_) U7 fl_ ?_;refine D.q1 1 4 hR ?_;refine G.rf ?_;refine ⟨?_,Z⟩;rw [hvp,hvz,hvw];show aA (txt (sgZ (decide (z<0) != decide (w<0)) (z.natAbs*w.natAbs)))=_;rw [AD]
end Go.Proofs.YtgfiffppookakaaGreatDoor
