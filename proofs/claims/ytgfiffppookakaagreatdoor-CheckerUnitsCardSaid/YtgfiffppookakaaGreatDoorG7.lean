/- Laws that the proofs of this seat share, part 7. -/
import Derived.Test.YtgfiffppookakaaGreatDoorG6
import Derived.Test.YtgfiffppookakaaGreatDoorShelf
import Derived.RangeFuncBox
import Derived.RangeFuncLeaves
import Derived.Shelf.Abstract
import Derived.WalkKit
import Derived.OwnWalkIn
import Derived.TacticsInMore
import Derived.LoopNIn
import Derived.LoopIn
import Derived.Stop.RegionWithIn
import Derived.Test.YtgfiffppookakaaGreatDoorProg
import Derived.Laws.IdiomRangeMap
import Derived.WideKeyRuns
set_option maxHeartbeats 4000000
namespace Go.Proofs.YtgfiffppookakaaGreatDoor
open Go Go.Jog
set_option maxRecDepth 100000

theorem Ja (z:Int){g:Nat}(hg:g ∣ z.natAbs):sgZ (decide (z<0) != false) (z.natAbs / g)=z / (g:Int):=by
 obtain ⟨m,hm⟩:=hg;rcases LV g with h | hg0
 ·subst h;have hz:z=0:=by omega
  subst hz;rfl
 rw [hm,Nat.mul_div_cancel_left _ hg0,Bool.bne_false];unfold sgZ;by_cases hz:z<0
 ·rw [j9 hz,bW rfl,show z=(g:Int)*(-(m:Int)) by rw [Int.mul_neg,<- La];omega,Int.mul_ediv_cancel_left _ om_]
 ·rw [K3 hz,a7 dc_,show z=(g:Int)*(m:Int) by rw [<- La];omega,Int.mul_ediv_cancel_left _ om_]
theorem s9 (C:Mem)(hT:Tabs C)(z:Int)(b:Nat)(ha:z.natAbs<BP ^ 200)(hb:b<BP ^ 200)(hb0:0<b)(hd:b ∣ z.natAbs):Gives cx.P 116 [aA (txt z),aA (aT b)] C (.tuple #[aA (txt (z / (b:Int))),aA (aT 0)]):=by
 have hBl:=Ix;have hm0:z.natAbs % b=0:=Nat.mod_eq_zero_of_dvd hd;have hdi:(b:Int) ∣ z:=Nj.1 (Me.2 hd);have hq:(z / (b:Int)).natAbs<=z.natAbs:=by
  rw [MC hdi,J9];exact Lu _ _
 refine Fn.it kr_ Tryz.func116 93 fun w0=>?_;refine G.z2 2 0 1 ?_;refine G.rp 1 fun R hR=>?_;refine D.ag (l9 C z) ?_;refine D.q4 5 0 1 6 7 hR ?_;refine G.rp 1 fun R hR=>?_;refine D.ag (nO _ b) ?_;refine D.q6 5 0 1 6 7 8 9 hR ?_;refine G.rp 3 fun R hR=>?_;refine D.aw ?_;refine D.e5 0 1 6 8 31 hR ?_;refine G.cd (fun h31=>?_) fun h31=>?_
 ·have hs:(aT z.natAbs).length<=17/\(aT b).length<=17:=by simpa using h31
  have h1:=l8 hs.1;have h2:=nP hs.2;rw [bW hs.1,bW hs.2];refine G.aG [0,1,2,3,4,5,6,7] [] Z kr_ (fun R hB hR=>?_);refine D.ps 2 ?_;refine D.iY (z / (b:Int)) U6 om_ (jH hd) (wrap_i64 om_ om_) U2 ?_;refine D.ps 2 ?_;refine D.dg 0 U6 om_ ⟨(Int.tmod_eq_zero_of_dvd hdi),Z,Z⟩ ?_;refine D.q4 2 6 8 10 11 hR ?_;refine G.z5 2 6 8 10 11 39 ?_;refine G.cd (fun h39=>?_) fun h39=>?_
  ·exfalso;simp at h39
  ·refine G.rp 1 fun R hR=>?_;refine D.aj (fN _ hT (z / (b:Int)) om_ om_) U7 fl_ ?_;refine D.ac ?_;refine D.aj (Bm _ hT 0 om_) U7 fl_ ?_;refine D.q2 2 4 5 hR ?_;refine G.aB (G.dropAll (G.a8 U3 ?_));exact ⟨Z,Z⟩
 ·refine G.rp 1 fun R hR=>?_;refine D.ag (cZ _ z) ?_;refine D.q3 5 1 12 13 hR ?_;refine G.rp 1 fun R hR=>?_;refine D.ag (my _ b) ?_;refine D.q4 5 12 13 14 15 hR ?_;refine G.rp 1 fun R hR=>?_;refine D.az (fk _ z.natAbs ha) (fun v67 _ _ hq67=>?_);obtain ⟨lp,hcp,hvp,hlp,hsp⟩:=hq67;refine D.ac ?_;refine D.az (fk _ b hb) (fun v69 _ _ hq69=>?_);obtain ⟨lq,hcq,hvq,hlq,hsq⟩:=hq69;refine D.au (wl _ _ _ lp lq hsp.m_ hsq.m_ hcp.1 hcq om_ om_ om_) U7 fl_ (fun v70 _ _ hq70=>?_);obtain ⟨u1,u2,rfl,hu1,hu2⟩:=hq70;rw [hvp,hvq] at hu1 hu2;rw [hm0] at hu2;obtain ⟨l1,hc1,hv1,hl1,hs1⟩:=PieC.take hu1 (by have:=Lu z.natAbs b;omega);obtain ⟨l2,hc2,hv2,hl2,hs2⟩:=PieC.take hu2 om_;obtain ⟨A2,c2,rfl,_⟩:=id hs2;obtain rfl:=(xf hc2).1 hv2;refine D.q5 5 12 14 15 16 17 hR ?_;refine G.rp 5 fun R hR=>?_;refine D.aw ?_;refine D.e6 12 14 15 16 17 78 hR ?_;refine G.cd (fun h78=>?_) fun h78=>?_
  ·exfalso;simp at h78
  ·refine G.rp 4 fun R hR=>?_;refine D.aj (kK _ hT.m_ _ _ l1 hs1.m_ hc1.1 om_) U7 fl_ ?_;refine D.ac ?_;refine D.aj (qJ _ hT.m_ _ [] hs2.m_ hc2.1 (by simp)) U7 fl_ ?_;refine D.q2 2 4 5 hR ?_;refine G.aB (G.dropAll (G.a8 U3 ?_));refine ⟨?_,Z⟩;show Value.tuple #[aA (txt (sgZ (decide (z<0) != false) (a6 l1))),_]=_;rw [hv1,Ja z hd];rfl
theorem o3 (C:Mem)(hT:Tabs C)(n:Int)(d:Nat)(hd:0<d)(hn:n.natAbs<9000000000000000000)(hdl:d<9000000000000000000):Gives cx.P 159 [.int .i64 n,.int .i64 d] C (aA (qtx (mkRat n d))):=by
 obtain ⟨g,hg⟩:∃ g,Nat.gcd n.natAbs d=g:=⟨_,rfl⟩;have hg0:0<g:=by rw [<- hg];exact MI _ hd
 have hgn:g ∣ n.natAbs:=by rw [<- hg];exact Mj _ _
 have hgd:g ∣ d:=by rw [<- hg];exact MD _ _
 have hgl:g<=d:=NK hd hgd;have hnq:(n / (g:Int)).natAbs<=n.natAbs:=by
  rw [MC (Nj.1 (Me.2 hgn)),J9];exact Lu _ _
 have hdq:=Lu d g;rw [sD om_,hg];refine Fn.it kr_ Tryz.func159 36 fun w0=>?_;refine G.z2 1 0 1 ?_;refine G.z3 2 0 1 8 ?_;refine G.cut (fun fr C' L' μ=>(True)/\fr=[(0,[],.int .i64 (n / (g:Int))),(1,[],.int .i64 ((d / g:Nat):Int))]/\L'=[]) ?_ (fun fr _ L8 μ _ hI=>?_)
 ·refine G.cd (fun h8=>?_) fun h8=>?_
  ·skip
   refine G.rp 3 fun R hR=>?_;have hwx:IntKind.i64.wrap (0-n)=0-n:=wrap_i64 om_ om_;refine D.max ((n.natAbs:Int)) U6 om_ U2 ?_;refine D.q4 3 0 1 5 6 hR ?_;refine G.loop (fun fr C' L' μ=>∃ (x y:Int),(x.natAbs<9000000000000000000/\0<=x/\0<=y/\y.natAbs<9000000000000000000/\Nat.gcd x.natAbs y.natAbs=g)/\fr=[(0,[],.int .i64 n),(1,[],.int .i64 d),(5,[],.int .i64 x),(6,[],.int .i64 y)]/\L'=[]/\μ=y.natAbs+1) (h_4 0 1 5 6) ⟨(n.natAbs:Int),d,⟨hn,by omega,by omega,by omega,by rw [J9];exact hg⟩,Z,Z,Z⟩ (fun fr C0' L0' m hle0 hI=>?_);obtain ⟨x,y,⟨hxa,hx0,hy0,hya,hgi⟩,rfl,rfl,rfl⟩:=hI;refine G.z5 2 0 1 5 6 15 ?_;refine G.cd (fun h15=>?_) fun h15=>?_
   ·have hyn:y≠0:=by simpa using h15
    have hta:(x.tmod y).natAbs=x.natAbs % y.natAbs:=M7 x y;have htl:=K9 x.natAbs (show 0<y.natAbs by omega);have htn:=Int.tmod_nonneg y hx0;refine G.aG [0,1,2,3,4,5] [] Z kr_ (fun R hB hR=>?_);refine D.ps 3 ?_;refine D.dg (x.tmod y) U6 hyn U3 ?_;refine D.q4 2 0 1 5 6 hR ?_;refine G.ax (m':=(x.tmod y).natAbs+1) om_ hle0 (h_4 0 1 5 6) ⟨y,x.tmod y,⟨hya,hy0,htn,by omega,by rw [hta,<- hgi,Mf x.natAbs,Oq y.natAbs x.natAbs,Mf]⟩,Z,Z,Z⟩
   ·have hyn:y=0:=by simpa using h15
    subst hyn;rw [show (0:Int).natAbs=0 from rfl,Nt] at hgi;obtain rfl:x=(g:Int):=by omega
    refine G.aG [0,1,2,3,4,5,6,7] [] Z kr_ (fun R hB hR=>?_);refine D.ps 2 ?_;refine D.iY (n / (g:Int)) U6 om_ (jH hgn) (wrap_i64 om_ om_) U2 ?_;refine D.ps 2 ?_;refine D.iZ (d) (g) U6 hg0 (.inl ⟨Z,by omega⟩) U2 ?_;refine D.q2 2 0 1 hR ?_;refine G.aK 0 mup (h_2 0 1) ⟨trivial,Z,Z⟩
  ·have hd1:d=1:=by
    have h:(d:Int)=1:=by simpa using h8
    omega
   subst hd1;have hg1:g=1:=by omega
   refine G.aK 0 (Mem.le.refl _) (h_2 0 1) ⟨trivial,by rw [hg1,N1,Int.natCast_one,Int.ediv_one],Z⟩
 ·obtain ⟨_,rfl,rfl⟩:=hI;refine G.z3 2 0 1 27 ?_;refine G.cd (fun h27=>?_) fun h27=>?_
  ·have h1:d / g=1:=by
    have h2:(((d / g:Nat):Int))=1:=by simpa using h27
    omega
   refine G.rp 1 fun R hR=>?_;refine D.aj (eX _ hT.m_ _ om_ om_) U7 fl_ ?_;refine D.q1 1 4 hR ?_;refine G.rf ?_;refine ⟨?_,Z⟩;rw [h1,iD rfl];simp [cD]
  ·have h1:d / g≠1:=by
    intro h2;rw [h2] at h27;exact absurd h27 dc_
   have hT1:=gW (n / (g:Int));have hT2:=gW ((d / g:Nat):Int);have hT3:(aT (n / (g:Int)).natAbs).length<=20:=dt (DS hnq (ML hn dc_)) dc_;have hT4:(aT ((d / g:Nat):Int).natAbs).length<=20:=dt (by rw [J9];exact DS hdq (ML hdl dc_)) dc_;refine G.rp 1 fun R hR=>?_;refine D.aj (eX _ hT.m_ _ om_ om_) U7 fl_ ?_;refine D.bM U6 (fun _=>(by simp only [fh,J8];omega)) U2 ?_;refine D.ac ?_;refine D.aj (eX _ hT.m_ ((d / g:Nat):Int) (Oc dc_ (Nr _)) (Oc (Int.ofNat_le.2 hdq) om_)) U7 fl_ ?_;refine D.bM U6 (fun _=>(by simp only [eh,fh,J8];omega)) U2 ?_;refine D.q1 1 4 hR ?_;refine G.rf ?_;refine ⟨?_,Z⟩;rw [fb h1,cm,LN];rfl

theorem ww {z:Int}(h:(txt z).length<=9):z.natAbs<1000000000:=by
 have h1:=vd h
 rwa [e9] at h1
theorem Aj (C:Mem)(hT:Tabs C)(z w:Int)(hz:(txt z).length<=9)(hw:(txt w).length<=9)(hw0:w≠0):Gives cx.P 112 [aA (txt z),aA (txt w)] C (aA (qtx (iV z w))):=by
 have hz9:=ww hz;have hw9:=ww hw;obtain ⟨n,hn⟩:∃ y,(if w<0 then -z else z)=y:=⟨_,rfl⟩;obtain ⟨d,hd⟩:∃ d,w.natAbs=d:=⟨_,rfl⟩;have hd0:0<d:=by omega
 have hna:n.natAbs<1000000000:=by rw [<- hn];split <;> omega
 unfold iV;rw [hn,hd];obtain ⟨g,hg⟩:∃ g,Nat.gcd n.natAbs d=g:=⟨_,rfl⟩;have hg0:0<g:=by rw [<- hg];exact MI _ hd0
 have hgn:g ∣ n.natAbs:=by rw [<- hg];exact Mj _ _
 have hgd:g ∣ d:=by rw [<- hg];exact MD _ _
 have hgl:g<=d:=NK hd0 hgd;have hnq:(n / (g:Int)).natAbs<=n.natAbs:=by
  rw [MC (Nj.1 (Me.2 hgn)),J9];exact Lu _ _
 have hdq:=Lu d g;rw [sD om_,hg];refine Fn.it kr_ Tryz.func112 55 fun w0=>?_;refine G.z2 1 0 1 ?_;refine G.rp 1 fun R hR=>?_;refine D.aj (u8 Tryz.atoi z om_ _ kr_) U7 fl_ ?_;refine D.q2 5 1 5 hR ?_;refine G.rp 1 fun R hR=>?_;refine D.aj (u8 Tryz.atoi w om_ _ kr_) U7 fl_ ?_;refine D.q2 5 5 7 hR ?_;refine G.z3 2 5 7 22 ?_;refine G.cut (fun fr C' L' μ=>(True)/\fr=[(5,[],.int .i64 n),(7,[],.int .i64 d)]/\L'=[]) ?_ (fun fr _ L22 μ _ hI=>?_)
 ·refine G.cd (fun h22=>?_) fun h22=>?_
  ·have hneg:w<0:=by simpa using h22
   rw [bW hneg] at hn;refine G.z2 6 5 7 ?_;rw [show IntKind.i64.wrap (0-z)=n by rw [wrap_i64 om_ om_];omega,show IntKind.i64.wrap (0-w)=(d:Int) by rw [wrap_i64 om_ om_];omega];refine G.aK 0 (Mem.le.refl _) (h_2 5 7) ⟨trivial,Z,Z⟩
  ·have hneg:¬ w<0:=by simpa using h22
   rw [a7 hneg] at hn;rw [show z=n by omega,show w=(d:Int) by omega];refine G.aK 0 (Mem.le.refl _) (h_2 5 7) ⟨trivial,Z,Z⟩
 ·obtain ⟨_,rfl,rfl⟩:=hI;refine G.z4 4 5 7 9 10 ?_;refine G.z5 2 5 7 9 10 30 ?_;refine G.cut (fun fr C' L' μ=>(True)/\fr=[(5,[],.int .i64 n),(7,[],.int .i64 d),(9,[],.int .i64 (n.natAbs:Nat)),(10,[],.int .i64 d)]/\L'=[]) ?_ (fun fr _ L30 μ _ hI=>?_)
  ·refine G.cd (fun h30=>?_) fun h30=>?_
   ·have hneg:n<0:=by simpa using h30
    refine G.z4 3 5 7 9 10 ?_;rw [show IntKind.i64.wrap (0-n)=((n.natAbs:Nat):Int) by rw [wrap_i64 om_ om_];omega];refine G.aK 0 (Mem.le.refl _) (h_4 5 7 9 10) ⟨trivial,Z,Z⟩
   ·have hneg:¬ n<0:=by simpa using h30
    refine G.aK 0 (Mem.le.refl _) (h_4 5 7 9 10) ⟨trivial,by rw [show ((n.natAbs:Nat):Int)=n by omega],Z⟩
  ·obtain ⟨_,rfl,rfl⟩:=hI;refine G.loop (fun fr C' L' μ=>∃ (x y:Int),(x.natAbs<9000000000000000000/\0<=x/\0<=y/\y.natAbs<9000000000000000000/\Nat.gcd x.natAbs y.natAbs=g)/\fr=[(5,[],.int .i64 n),(7,[],.int .i64 d),(9,[],.int .i64 x),(10,[],.int .i64 y)]/\L'=[]/\μ=y.natAbs+1) (h_4 5 7 9 10) ⟨(n.natAbs:Int),d,⟨by omega,by omega,by omega,by omega,by rw [J9,J9];exact hg⟩,Z,Z,Z⟩ (fun fr C0' L0' m hle0 hI=>?_);obtain ⟨x,y,⟨hxa,hx0,hy0,hya,hgi⟩,rfl,rfl,rfl⟩:=hI;refine G.z5 2 5 7 9 10 34 ?_;refine G.cd (fun h34=>?_) fun h34=>?_
   ·have hyn:y≠0:=by simpa using h34
    have hta:(x.tmod y).natAbs=x.natAbs % y.natAbs:=M7 x y;have htl:=K9 x.natAbs (show 0<y.natAbs by omega);have htn:=Int.tmod_nonneg y hx0;refine G.aG [0,1,2,3,4,5] [] Z kr_ (fun R hB hR=>?_);refine D.ps 3 ?_;refine D.dg (x.tmod y) U6 hyn U3 ?_;refine D.q4 2 5 7 9 10 hR ?_;refine G.ax (m':=(x.tmod y).natAbs+1) om_ hle0 (h_4 5 7 9 10) ⟨y,x.tmod y,⟨hya,hy0,htn,by omega,by rw [hta,<- hgi,Mf x.natAbs,Oq y.natAbs x.natAbs,Mf]⟩,Z,Z,Z⟩
   ·have hyn:y=0:=by simpa using h34
    subst hyn;rw [show (0:Int).natAbs=0 from rfl,Nt] at hgi;obtain rfl:x=(g:Int):=by omega
    refine G.aG [0,1,2,3,4,5,6,7] [] Z kr_ (fun R hB hR=>?_);refine D.ps 2 ?_;refine D.iY (n / (g:Int)) U6 om_ (jH hgn) (wrap_i64 om_ om_) U2 ?_;refine D.ps 2 ?_;refine D.iZ (d) (g) U6 hg0 (.inl ⟨Z,by omega⟩) U2 ?_;refine D.q2 2 5 7 hR ?_;refine G.z3 2 5 7 46 ?_;refine G.cd (fun h46=>?_) fun h46=>?_
    ·have h1:d / g=1:=by
      have h2:(((d / g:Nat):Int))=1:=by simpa using h46
      omega
     refine G.rp 1 fun R hR=>?_;refine D.aj (eX _ hT.m_ _ om_ om_) U7 fl_ ?_;refine D.q1 1 4 hR ?_;refine G.rf ?_;refine ⟨?_,Z⟩;rw [h1,iD rfl];simp [cD]
    ·have h1:d / g≠1:=by
      intro h2;rw [h2] at h46;exact absurd h46 dc_
     have hT1:=gW (n / (g:Int));have hT2:=gW ((d / g:Nat):Int);have hT3:(aT (n / (g:Int)).natAbs).length<=20:=dt (DS hnq (ML hna dc_)) dc_;have hT4:(aT ((d / g:Nat):Int).natAbs).length<=20:=dt (by rw [J9];exact DS hdq (ML (show d<1000000000 by omega) dc_)) dc_;refine G.rp 1 fun R hR=>?_;refine D.aj (eX _ hT.m_ _ om_ om_) U7 fl_ ?_;refine D.bM U6 (fun _=>(by simp only [fh,J8];omega)) U2 ?_;refine D.ac ?_;refine D.aj (eX _ hT.m_ ((d / g:Nat):Int) (Oc dc_ (Nr _)) (Oc (Int.ofNat_le.2 hdq) om_)) U7 fl_ ?_;refine D.bM U6 (fun _=>(by simp only [eh,fh,J8];omega)) U2 ?_;refine D.q1 1 4 hR ?_;refine G.rf ?_;refine ⟨?_,Z⟩;rw [fb h1,cm,LN];rfl
def GC (sg:Bool)(A:Str)(B:Option Str):Value:=.tuple #[.int .i64 (sgZ sg (aX A)),.int .i64 (JN B),.bool true]
theorem y9 (C:Mem)(sg:Bool)(A:Str)(B:Option Str)(hA:∀ c∈A,dE c=true)(hA0:A≠[])(hB:∀ b,B=some b->∀ c∈b,dE c=true)(hl:(yi sg++A++cD B).length<=9) :
  Gives cx.P 158 [aA (yi sg++A++cD B)] C (GC sg A B):=by
 obtain ⟨s,hs⟩:∃ s,yi sg++A++cD B=s:=⟨_,rfl⟩;obtain ⟨p,hp⟩:∃ p,(yi sg).length=p:=⟨_,rfl⟩;have hp1:p=if sg then 1 else 0:=by rw [<- hp];cases sg <;> rfl
 have hgA:∀ j c,A[j]?=some c->s[p+j]?=some c:=fun j c h=>by rw [<- hs,<- hp];exact Ba _ _ _ h
 have hgB:∀ j,s[p+A.length+j]?=(cD B)[j]?:=fun j=>by rw [<- hs,<- hp];exact wh _ _ _ _
 have hsl:s.length=p+A.length+(cD B).length:=by rw [<- hs,<- hp,eh,eh]
 have hAl:0<A.length:=K6.2 hA0;rw [hs] at hl ⊢;have hV:∀ j,aX (A.take j)<1000000000:=fun j=>by
  have h:=jZ hA (i:=min j A.length) om_;rcases Nat.le_total j A.length with h1 | h1
  ·rwa [Lt h1] at h
  ·rw [Nat.min_eq_right h1,cK] at h
   rwa [gG h1]
 refine Fn.it kr_ Tryz.func158 57 fun w0=>?_;refine G.z2 3 0 2 ?_;refine G.z3 3 0 2 9 ?_;refine G.cd (fun h9=>?_) fun h9=>?_
 ·exfalso;have h:(9:Int)<((s.length:Nat):Int):=bi h9;omega
 ·refine G.z5 3 0 2 3 5 6 ?_;refine G.rp 1 fun R hR=>?_;refine D.aW (b:=s.getD 0 0) U8 (fun _=>⟨by omega,(by rw [aF,show (0:Int).toNat=0 from rfl];obtain ⟨c,hc⟩:∃ c,s[0]?=some c:=⟨s[0]'om_,aq om_⟩;rw [hc];rfl)⟩) U2 ?_;refine D.q6 1 0 2 3 5 6 12 hR ?_;clear hR R;refine G.cut (fun fr C' L' μ=>(True)/\fr=[(0,[],aA s),(2,[],.int .i64 0),(3,[],.int .i64 1),(5,[],.int .i64 p),(6,[],.int .i64 (if sg then -1 else 1))]/\L'=[]) ?_ (fun fr _ L12 μ _ hI=>?_)
  ·refine G.cd (fun h12=>?_) fun h12=>?_
   ·have hsg:sg=true:=by
     cases sg with
     | true=>rfl
     | false =>
      exfalso;rw [a7 dc_] at hp1;subst hp1;obtain ⟨c,hc⟩:∃ c,A[0]?=some c:=⟨A[0],aq hAl⟩;have h1:=hgA 0 c hc;have h2:=hA c (ba hc);rw [Mc] at h1;rw [aF,h1] at h12;unfold dE at h2;simp at h12 h2;omega
    subst hsg;rw [bW rfl] at hp1;subst hp1;refine G.z5 2 0 2 3 5 6 ?_;refine G.aK 0 (Mem.le.refl _) (h_5 0 2 3 5 6) ⟨trivial,Z,Z⟩
   ·have hsg:sg=false:=by
     cases sg with
     | false=>rfl
     | true =>
      exfalso;have h1:s[0]?=some 45:=by rw [<- hs];rfl
      rw [aF,h1] at h12;exact absurd h12 dc_
    subst hsg;rw [a7 dc_] at hp1;subst hp1;refine G.aK 0 (Mem.le.refl _) (h_5 0 2 3 5 6) ⟨trivial,Z,Z⟩
  ·obtain ⟨_,rfl,rfl⟩:=hI;refine G.loop (fun fr C' L' μ=>∃ (j:Nat),(j<=A.length)/\fr=[(0,[],aA s),(2,[],.int .i64 ((aX (A.take j):Nat):Int)),(3,[],.int .i64 1),(5,[],.int .i64 ((p+j:Nat):Int)),(6,[],.int .i64 (if sg then -1 else 1))]/\L'=[]/\μ=A.length-j+1) (h_5 0 2 3 5 6) ⟨0,by omega,Z,Z,Z⟩ (fun fr C0' L0' m hle0 hI=>?_);obtain ⟨j,hj,rfl,rfl,rfl⟩:=hI;obtain ⟨c,hc⟩:∃ c,p+j<s.length->s[p+j]?=some c:=⟨s.getD (p+j) 0,fun h=>by rw [aF,aq h];rfl⟩;refine G.rp 7 fun R hR=>?_;refine D.aW (b:=c) U8 (fun hg=>⟨by omega,hc (by have h:decide (((p+j:Nat):Int)<((s.length:Nat):Int))=true:=hg.1;have h2:=bi h;omega)⟩) U2 ?_;refine D.ac ?_;refine D.aw ?_;refine D.e6 0 2 3 5 6 22 hR ?_;clear hR R;refine G.cd (fun h22=>?_) fun h22=>?_
   ·have h22':p+j<s.length/\c.toNat≠47:=by
     simp at h22;omega
    have hjl:j<A.length:=by
     rcases Ld j A.length with h | h
     ·exact h
     ·exfalso;obtain rfl:j=A.length:=by omega
      have h1:=hc h22'.1;have h2:=hgB 0;rw [Mc,h1] at h2;cases B with
      | none=>simp [cD] at h2
      | some b =>
       simp [cD] at h2;subst h2;exact h22'.2 Z
    obtain ⟨c',hcA⟩:∃ c,A[j]?=some c:=⟨A[j],aq hjl⟩;obtain rfl:c'=c:=by
     have h1:=hc h22'.1;rw [hgA j c' hcA] at h1;exact LJ h1
    have hcr:48<=c'.toNat/\c'.toNat<=57:=by simpa [dE] using hA c' (ba hcA)
    have hV1:=hV j;refine G.rp 1 fun R hR=>?_;refine D.ar _ ?_;refine D.ps 2 ?_;refine D.aW U8 (fun _=>⟨by omega,hgA j _ hcA⟩) U2 ?_;refine D.int (((c'.toNat:Nat):Int)-48) U4 (by rw [IntKind.wrap_u8];omega) U2 ?_;refine D.bT (c:=((c'.toNat:Nat):Int)-48) U8 (by rw [IntKind.wrap_i64];omega) fl_ ?_;refine D.ar _ ?_;refine D.ac ?_;refine D.ar _ ?_;refine D.q5 2 0 2 3 5 6 hR ?_;clear hR R;rw [show 10*((aX (A.take j):Nat):Int)+(((c'.toNat:Nat):Int)-48)=((aX (A.take (j+1)):Nat):Int) by rw [lX hcA];omega];refine G.ax (m':=A.length-(j+1)+1) om_ hle0 (h_5 0 2 3 5 6) ⟨j+1,om_,Z,Z,Z⟩
   ·have hjl:j=A.length:=by
     rcases Ld j A.length with h | h
     ·exfalso;obtain ⟨c',hcA⟩:∃ c,A[j]?=some c:=⟨A[j],aq h⟩;have h1:=hc om_;rw [hgA j c' hcA] at h1;obtain rfl:=LJ h1;have hcr:48<=c'.toNat/\c'.toNat<=57:=by simpa [dE] using hA c' (ba hcA)
      simp at h22;have:=h22 om_;omega
     ·omega
    subst hjl;have hV1:=hV A.length;rw [cK] at hV1 ⊢;refine G.z6 4 0 2 3 5 6 36 ?_;refine G.cut (fun fr C' L' μ=>(True)/\fr=[(2,[],.int .i64 ((aX A:Nat):Int)),(3,[],.int .i64 ((JN B:Nat):Int)),(6,[],.int .i64 (if sg then -1 else 1))]/\L'=[]) ?_ (fun fr _ L36 μ _ hI=>?_)
    ·refine G.cd (fun h36=>?_) fun h36=>?_
     ·obtain ⟨b,rfl⟩:∃ b,B=some b:=by
       cases B with
       | some b=>exact ⟨b,rfl⟩
       | none =>
        exfalso;rw [hsl] at h36;simp [cD] at h36
      have hBd:=hB b rfl;have hsl':s.length=p+A.length+1+b.length:=by rw [hsl];simp [cD];omega
      have hVb:∀ j,aX (b.take j)<1000000000:=fun j=>by
       have h:=jZ hBd (i:=min j b.length) om_;rcases Nat.le_total j b.length with h1 | h1
       ·rwa [Lt h1] at h
       ·rw [Nat.min_eq_right h1,cK] at h
        rwa [gG h1]
      refine G.z5 1 0 2 3 5 6 ?_;refine G.rp 1 fun R hR=>?_;refine D.ar _ ?_;refine D.q5 1 0 2 3 5 6 hR ?_;clear hR R;refine G.loop (fun fr C' L' μ=>∃ (j:Nat),(j<=b.length)/\fr=[(0,[],aA s),(2,[],.int .i64 ((aX A:Nat):Int)),(3,[],.int .i64 ((aX (b.take j):Nat):Int)),(5,[],.int .i64 ((p+A.length+1+j:Nat):Int)),(6,[],.int .i64 (if sg then -1 else 1))]/\L'=[]/\μ=b.length-j+1) (h_5 0 2 3 5 6) ⟨0,om_,Z,Z,Z⟩ (fun fr C1' L1' m hle1 hI=>?_);obtain ⟨j,hk,rfl,rfl,rfl⟩:=hI;refine G.z6 4 0 2 3 5 6 42 ?_;refine G.cd (fun h42=>?_) fun h42=>?_
      ·have hkl:j<b.length:=by
        have:p+A.length+1+j<s.length:=by simp at h42;omega
        omega
       obtain ⟨c,hcB⟩:∃ c,b[j]?=some c:=⟨b[j],aq hkl⟩;have hcs:s[p+A.length+1+j]?=some c:=by rw [MY,hgB,M4 1 j];exact hcB
       have hcr:48<=c.toNat/\c.toNat<=57:=by simpa [dE] using hBd c (ba hcB)
       have hV2:=hVb j;refine G.rp 1 fun R hR=>?_;refine D.ar _ ?_;refine D.ps 2 ?_;refine D.aW U8 (fun _=>⟨by omega,hcs⟩) U2 ?_;refine D.int (((c.toNat:Nat):Int)-48) U4 (by rw [IntKind.wrap_u8];omega) U2 ?_;refine D.bT (c:=((c.toNat:Nat):Int)-48) U8 (by rw [IntKind.wrap_i64];omega) fl_ ?_;refine D.ar _ ?_;refine D.q5 1 0 2 3 5 6 hR ?_;clear hR R;refine G.rp 1 fun R hR=>?_;refine D.ar _ ?_;refine D.q5 1 0 2 3 5 6 hR ?_;clear hR R;rw [show 10*((aX (b.take j):Nat):Int)+(((c.toNat:Nat):Int)-48)=((aX (b.take (j+1)):Nat):Int) by rw [lX hcB];omega];refine G.ax (m':=b.length-(j+1)+1) om_ hle1 (h_5 0 2 3 5 6) ⟨j+1,om_,Z,Z,Z⟩
      ·have hkl:j=b.length:=by
        have:¬ p+A.length+1+j<s.length:=by simp at h42;omega
        omega
       subst hkl;rw [cK];refine G.aK 0 mup (h_3 2 3 6) ⟨trivial,Z,Z⟩
     ·have hB0:B=none:=by
       cases B with
       | none=>rfl
       | some b =>
        exfalso;have h:¬ ((p+A.length:Nat):Int)<((s.length:Nat):Int):=dj h36;rw [hsl] at h;simp only [cD,fh] at h;omega
      subst hB0;refine G.aK 0 (Mem.le.refl _) (h_3 2 3 6) ⟨trivial,Z,Z⟩
    ·obtain ⟨_,rfl,rfl⟩:=hI;have hsz:-1000000000<sgZ sg (aX A)/\sgZ sg (aX A)<1000000000:=by unfold sgZ;split <;> omega
     refine G.rp 2 fun R hR=>?_;refine D.cf (sgZ sg (aX A)) U4 (by unfold sgZ;cases sg <;> simp) om_ om_ U2 ?_;refine D.q3 4 2 3 4 hR ?_;clear hR R;refine G.aB (G.dropAll (G.iX U4 ?_));exact ⟨Z,Z⟩

theorem DD {z:Int}{m:Nat}(h:z.natAbs<m)(g:Nat)(hd:g ∣ z.natAbs):(z / (g:Int)).natAbs<m:=by
 rw [MC (Nj.1 (Me.2 hd)),J9];exact DS (Lu _ _) h
theorem E4 (C:Mem)(hT:Tabs C)(y:Int)(d:Nat)(hy:y.natAbs<BP ^ 200)(hd:d<BP ^ 200):Gives cx.P 115 [aA (txt y),aA (aT d)] C (aA (aT (Nat.gcd y.natAbs d))):=by
 have h:=yG C hT y (d:Nat) hy om_
 rwa [cm,J9] at h
theorem jq (C:Mem)(hT:Tabs C)(z w:Int)(hz:z.natAbs<BP ^ 200)(hw:w.natAbs<BP ^ 200)(hw0:w≠0):Gives cx.P 53 [aA (txt z),aA (txt w)] C (aA (qtx (iV z w))):=by
 have hzl:=d9 hz;have hwl:=d9 hw;obtain ⟨y,hy⟩:∃ y,(if w<0 then -z else z)=y:=⟨_,rfl⟩;obtain ⟨d,hd⟩:∃ d,w.natAbs=d:=⟨_,rfl⟩;have hd0:d≠0:=by omega
 have hya:y.natAbs=z.natAbs:=by rw [<- hy];split <;> omega
 obtain ⟨g,hg⟩:∃ g,Nat.gcd y.natAbs d=g:=⟨_,rfl⟩;have hg0:0<g:=by rw [<- hg];exact MI _ om_
 have hgd:g ∣ d:=by rw [<- hg];exact MD _ _
 have hgy:g ∣ y.natAbs:=by rw [<- hg];exact Mj _ _
 have hgl:g<=d:=NK om_ hgd;refine Fn.it kr_ Tryz.func53 46 fun w0=>?_;refine G.z2 1 0 1 ?_;refine G.rp 7 fun R hR=>?_;refine D.aw ?_;refine D.e3 0 1 13 hR ?_;refine G.cd (fun h13=>?_) fun h13=>?_
 ·have h:(txt z).length<=9/\(txt w).length<=9:=by
   have h1:=(bL _ _ ▸ h13:_/\_);have h2:((txt z).length:Int)<=9:=bi h1.1;have h3:((txt w).length:Int)<=9:=bi h1.2;omega
  refine G.rp 2 fun R hR=>?_;refine D.ag (Aj _ hT.m_ z w h.1 h.2 hw0) ?_;refine D.q1 1 4 hR ?_;refine G.rf ?_;exact ⟨Z,Z⟩
 ·refine G.rp 1 fun R hR=>?_;refine D.ag (t7 _ w) ?_;refine D.q3 1 0 1 19 hR ?_;refine G.cut (fun fr C' L' μ=>(True)/\fr=[(0,[],aA (txt y)),(1,[],aA (aT d))]/\L'=[]) ?_ (fun fr _ L19 μ _ hI=>?_)
  ·refine G.cd (fun h19=>?_) fun h19=>?_
   ·have hneg:w<0:=by
     have h:=bi h19;refine Lw fun h2=>?_;rw [a7 h2] at h;revert h;split <;> decide
    rw [bW hneg] at hy;refine G.rp 1 fun R hR=>?_;refine D.aj (oX _ z om_) U7 fl_ ?_;refine D.ac ?_;refine D.aj (oX _ w om_) U7 fl_ ?_;refine D.q2 2 0 1 hR ?_;refine G.aK 0 (Mem.le.refl _) (h_2 0 1) ⟨trivial,by rw [hy,show -w=((d:Nat):Int) by omega,cm],Z⟩
   ·have hneg:¬ w<0:=by
     intro h2;have h:=dj h19;rw [bW h2] at h;exact h dc_
    rw [a7 hneg] at hy;refine G.aK 0 (Mem.le.refl _) (h_2 0 1) ⟨trivial,by rw [hy,show w=((d:Nat):Int) by omega,cm],Z⟩
  ·obtain ⟨_,rfl,rfl⟩:=hI;unfold iV;rw [hy,hd,sD hd0,hg];have hyl:=DD (z:=y) (by rw [hya];exact hz) g hgy;have hyl2:=d9 hyl;have hdl:d / g<BP ^ 200:=DS (Lu _ _) om_;have hdl2:=d9 hdl;have hT1:=gW (y / (g:Int));refine G.rp 2 fun R hR=>?_;refine D.aj (E4 _ hT.m_ y d om_ om_) U7 fl_ ?_;refine D.q3 1 0 1 5 hR ?_;rw [hg];refine G.rp 2 fun R hR=>?_;refine D.aj (s9 _ hT.m_ y g om_ om_ hg0 hgy) U7 fl_ ?_;refine D.q3 4 0 1 5 hR ?_;refine G.rp 2 fun R hR=>?_;refine D.aj (jU _ hT.m_ d g om_ om_ hg0) U7 fl_ ?_;refine D.q2 4 0 1 hR ?_;refine G.z3 2 0 1 40 ?_;refine G.cd (fun h40=>?_) fun h40=>?_
   ·have h1:d / g=1:=by rw [pn] at h40;exact bi h40
    refine G.z1 2 4 ?_;refine G.rf ?_;refine ⟨?_,Z⟩;rw [iD h1];simp [cD]
   ·have h1:d / g≠1:=by rw [pn] at h40;exact dj h40
    refine G.rp 1 fun R hR=>?_;refine D.bM U6 (fun _=>(by simp only [fh,J8];omega)) U2 ?_;refine D.ac ?_;refine D.bM U6 (fun _=>(by simp only [eh,fh,J8];omega)) U2 ?_;refine D.q1 1 4 hR ?_;refine G.rf ?_;refine ⟨?_,Z⟩;rw [fb h1,LN];rfl
theorem oV (C:Mem)(hT:Tabs C)(z w:Int)(hz:z.natAbs<9000000000000000000)(hw:w.natAbs<9000000000000000000)(hw0:w≠0):Gives cx.P 19 [.int .i64 z,.int .i64 w] C (aA (qtx (iV z w))):=by
 have hb:9000000000000000000<BP ^ 200:=by decide +kernel
 refine Fn.it kr_ Tryz.func19 10 fun w0=>?_;refine G.z2 1 0 1 ?_;refine G.rp 1 fun R hR=>?_;refine D.aj (fN _ hT.m_ z om_ om_) U7 fl_ ?_;refine D.ac ?_;refine D.aj (fN _ hT.m_ w om_ om_) U7 fl_ ?_;refine D.aj (jq _ hT.m_ z w om_ om_ hw0) U7 fl_ ?_;refine D.q1 1 4 hR ?_;refine G.rf ?_;exact ⟨Z,Z⟩
theorem Hn (C:Mem)(q:Rat)(hl:(qtx q).length<=1000000):Gives cx.P 282 [aA (qtx q)] C (aA (qtx (-q))):=by
 have hpos:=AY q;refine Fn.it kr_ Tryz.func282 13 fun w0=>?_;refine G.z1 1 0 ?_;refine G.z2 2 0 4 ?_;refine G.cd (fun h4=>?_) fun h4=>?_
 ·have h0:q=0:=by rw [fL] at h4;exact bi h4
  refine G.z1 2 2 ?_;refine G.rf ?_;refine ⟨?_,Z⟩;rw [h0,Rat.neg_zero]
 ·have h0:q≠0:=by rw [fL] at h4;exact dj h4
  obtain ⟨c,r,hcr,hcd⟩:=lQ q;refine G.rp 1 fun R hR=>?_;refine D.aW U8 (fun _=>⟨by omega,by rw [hcr];rfl⟩) U2 ?_;refine D.q2 1 0 8 hR ?_;refine G.cd (fun h8=>?_) fun h8=>?_
  ·have hn:q.num<0:=by rw [hcd] at h8;exact bi h8
   refine G.rp 1 fun R hR=>?_;refine D.bF 1 (qtx q).length U9 (fun _=>⟨.inr ⟨_,Z⟩,.inl ⟨Z,Z⟩,.inl ⟨Z,Z⟩,by omega,aP _,aP _⟩) U2 ?_;refine D.q1 1 2 hR ?_;refine G.rf ?_;refine ⟨?_,Z⟩;rw [cK,iS hn];rfl
  ·have hn:¬ q.num<0:=by rw [hcd] at h8;exact dj h8
   refine G.rp 1 fun R hR=>?_;refine D.bM U6 (fun _=>(by simp only [fh,J8];omega)) U2 ?_;refine D.q1 1 2 hR ?_;refine G.rf ?_;refine ⟨?_,Z⟩;rw [fq hn h0];rfl

theorem iN {n m:Nat}(h:n<B9 ^ m)(hm:m<=88):n<BP ^ 200:=by
 rw [Kb];rw [pow9] at h;exact K4 h (gr (n:=10) (i:=9*m) (j:=800) dc_ om_)
theorem u6 (C:Mem)(s:Str)(hl:9<s.length):Gives cx.P 158 [aA s] C (.tuple #[.int .i64 0,.int .i64 0,.bool false]):=by
 refine Fn.it kr_ Tryz.func158 57 fun w0=>?_;refine G.z2 3 0 2 ?_;refine G.z3 3 0 2 9 ?_;refine G.cd (fun h9=>?_) fun h9=>?_
 ·refine G.z3 3 2 3 4 ?_;refine G.aB (G.dropAll (G.iX U4 ?_));exact ⟨Z,Z⟩
 ·exfalso;have h:¬ (9:Int)<((s.length:Nat):Int):=dj h9;omega
theorem ma (C:Mem)(q:Rat):Gives cx.P 158 [aA (qtx q)] C (.tuple #[.int .i64 (if (qtx q).length<=9 then q.num else 0),.int .i64 (if (qtx q).length<=9 then ((q.den:Nat):Int) else 0),.bool (decide ((qtx q).length<=9))]):=by
 by_cases h:(qtx q).length<=9
 ·rw [bW h,bW h,j9 h];have h2:=y9 C (decide (q.num<0)) (aT q.num.natAbs) (jX q.den) (gg _) (kT _) (wU _) h;unfold GC at h2;rw [(aV _).2,jW] at h2;have e:sgZ (decide (q.num<0)) q.num.natAbs=q.num:=by
   unfold sgZ;by_cases h:q.num<0
   ·rw [j9 h,bW rfl];omega
   ·rw [K3 h,a7 dc_];omega
  rw [e] at h2;exact h2
 ·rw [a7 h,a7 h,K3 h];exact u6 C _ om_
theorem lL {q:Rat}(h:(qtx q).length<=9):q.num.natAbs<1000000000/\q.den<1000000000:=by
 refine jr ?_;unfold wO Gs;unfold qtx at h;rw [eh,eh] at h;have h2:((jX q.den).getD []).length<=(cD (jX q.den)).length:=by
  cases jX q.den with
  | none=>exact aP _
  | some b=>simp [cD]
 rw [j9 om_,j9 om_];rfl
theorem lS (C:Mem)(q:Rat)(hl:(qtx q).length<1000000):Gives cx.P 160 [aA (qtx q)] C (.tuple #[aA (txt q.num),aA (txt ((q.den:Nat):Int))]):=by
 have h:=Be C (qtx q) hl
 rwa [iF,uQ,<- cm] at h
theorem qi (C:Mem)(hT:Tabs C)(a b:Rat)(k:Nat)(hk0:0<k)(hk:k<=40)(ha:QB k a)(hb:QB k b):Gives cx.P 108 [aA (qtx a),aA (qtx b)] C (aA (qtx (a+b))):=by
 have hal:=cC ha hk0;have hbl:=cC hb hk0;have hda:=d5 a;have hdb:=d5 b;have hdd:0<a.den*b.den:=MA hda hdb;refine Fn.it kr_ Tryz.func108 61 fun w0=>?_;refine G.z2 1 0 1 ?_;refine G.rp 1 fun R hR=>?_;refine D.ag (ma _ a) ?_;refine D.q5 7 0 1 5 6 7 hR ?_;refine G.z5 1 0 1 5 6 21 ?_;refine G.cut (fun fr C' L' μ=>(True)/\fr=[(0,[],aA (qtx a)),(1,[],aA (qtx b))]/\L'=[]) ?_ (fun fr _ L21 μ _ hI=>?_)
 ·refine G.cd (fun h21=>?_) fun h21=>?_
  ·have hfa:=bi h21;rw [bW hfa,bW hfa];have ha9:=lL hfa;refine G.rp 1 fun R hR=>?_;refine D.ag (ma _ b) ?_;refine D.q7 7 0 1 5 6 8 9 10 hR ?_;refine G.z7 1 0 1 5 6 8 9 28 ?_;refine G.cd (fun h28=>?_) fun h28=>?_
   ·have hfb:=bi h28;rw [bW hfb,bW hfb];have hb9:=lL hfb;have hm1:=iy ha9.1 hb9.2;have hm2:=iy hb9.1 ha9.2;have hm3:=jL ha9.2 hb9.2;refine G.rp 2 fun R hR=>?_;refine D.ar _ ?_;refine D.ps 2 ?_;refine D.ar _ ?_;refine D.ar _ ?_;refine D.ps 2 ?_;refine D.cf (((a.den*b.den:Nat):Int)) U4 (La _ _).symm om_ om_ U2 ?_;refine D.aj (o3 _ hT.m_ _ _ hdd om_ om_) U7 fl_ ?_;refine D.q1 1 4 hR ?_;refine G.rf ?_;exact ⟨by rw [eO],Z⟩
   ·refine G.aK 0 (Mem.le.refl _) (h_2 0 1) ⟨trivial,Z,Z⟩
  ·refine G.aK 0 (Mem.le.refl _) (h_2 0 1) ⟨trivial,Z,Z⟩
 ·obtain ⟨_,rfl,rfl⟩:=hI;refine G.rp 1 fun R hR=>?_;refine D.aj (lS _ a om_) U7 fl_ ?_;refine D.q3 5 1 11 12 hR ?_;refine G.rp 1 fun R hR=>?_;refine D.aj (lS _ b om_) U7 fl_ ?_;refine D.q4 5 11 12 13 14 hR ?_;refine G.rp 2 fun R hR=>?_;refine D.aj (eZ _ hT.m_ _ _ (iN ha.1 om_) (iN (ij hb) om_)) U7 fl_ ?_;refine D.ps 2 ?_;refine D.aj (eZ _ hT.m_ _ _ (iN hb.1 om_) (iN (ij ha) om_)) U7 fl_ ?_;refine D.aj (zj _ hT.m_ _ _ (iN (bP ha.1 (ij hb)) om_) (iN (bP hb.1 (ij ha)) om_)) U7 fl_ ?_;refine D.ps 2 ?_;refine D.aj (eZ _ hT.m_ _ _ (iN (ij ha) om_) (iN (ij hb) om_)) U7 fl_ ?_;refine D.aj (jq _ hT.m_ _ _ (iN (DS (Oi _ _) (pZ (bP ha.1 (ij hb)) (bP hb.1 (ij ha)))) om_) (iN (bP (ij ha) (ij hb)) om_) (by rw [<- La];omega)) U7 fl_ ?_;refine D.q1 1 4 hR ?_;refine G.rf ?_;exact ⟨by rw [eO,<- La,lV hdd],Z⟩
theorem vX (C:Mem)(hT:Tabs C)(a b:Rat)(k:Nat)(hk0:0<k)(hk:k<=40)(ha:QB k a)(hb:QB k b):Gives cx.P 242 [aA (qtx a),aA (qtx b)] C (aA (qtx (a*b))):=by
 have hal:=cC ha hk0;have hbl:=cC hb hk0;have hda:=d5 a;have hdb:=d5 b;have hdd:0<a.den*b.den:=MA hda hdb;refine Fn.it kr_ Tryz.func242 53 fun w0=>?_;refine G.z2 1 0 1 ?_;refine G.rp 1 fun R hR=>?_;refine D.ag (ma _ a) ?_;refine D.q5 7 0 1 5 6 7 hR ?_;refine G.z5 1 0 1 5 6 21 ?_;refine G.cut (fun fr C' L' μ=>(True)/\fr=[(0,[],aA (qtx a)),(1,[],aA (qtx b))]/\L'=[]) ?_ (fun fr _ L21 μ _ hI=>?_)
 ·refine G.cd (fun h21=>?_) fun h21=>?_
  ·have hfa:=bi h21;rw [bW hfa,bW hfa];have ha9:=lL hfa;refine G.rp 1 fun R hR=>?_;refine D.ag (ma _ b) ?_;refine D.q7 7 0 1 5 6 8 9 10 hR ?_;refine G.z7 1 0 1 5 6 8 9 28 ?_;refine G.cd (fun h28=>?_) fun h28=>?_
   ·have hfb:=bi h28;rw [bW hfb,bW hfb];have hb9:=lL hfb;have hm1:=wg ha9.1 hb9.1;have hm3:=jL ha9.2 hb9.2;refine G.rp 2 fun R hR=>?_;refine D.ar _ ?_;refine D.ps 2 ?_;refine D.cf (((a.den*b.den:Nat):Int)) U4 (La _ _).symm om_ om_ U2 ?_;refine D.aj (o3 _ hT.m_ _ _ hdd om_ om_) U7 fl_ ?_;refine D.q1 1 4 hR ?_;refine G.rf ?_;exact ⟨by rw [eN],Z⟩
   ·refine G.aK 0 (Mem.le.refl _) (h_2 0 1) ⟨trivial,Z,Z⟩
  ·refine G.aK 0 (Mem.le.refl _) (h_2 0 1) ⟨trivial,Z,Z⟩
 ·obtain ⟨_,rfl,rfl⟩:=hI;refine G.rp 1 fun R hR=>?_;refine D.aj (lS _ a om_) U7 fl_ ?_;refine D.q3 5 1 11 12 hR ?_;refine G.rp 1 fun R hR=>?_;refine D.aj (lS _ b om_) U7 fl_ ?_;refine D.q4 5 11 12 13 14 hR ?_;refine G.rp 2 fun R hR=>?_;refine D.aj (eZ _ hT.m_ _ _ (iN ha.1 om_) (iN hb.1 om_)) U7 fl_ ?_;refine D.ps 2 ?_;refine D.aj (eZ _ hT.m_ _ _ (iN (ij ha) om_) (iN (ij hb) om_)) U7 fl_ ?_;refine D.aj (jq _ hT.m_ _ _ (iN (bP ha.1 hb.1) om_) (iN (bP (ij ha) (ij hb)) om_) (by rw [<- La];omega)) U7 fl_ ?_;refine D.q1 1 4 hR ?_;refine G.rf ?_;exact ⟨by rw [eN,<- La,lV hdd],Z⟩
theorem Er (C:Mem)(hT:Tabs C)(a b:Rat)(k:Nat)(hk0:0<k)(hk:k<=40)(ha:QB k a)(hb:QB k b):Gives cx.P 241 [aA (qtx a),aA (qtx b)] C (aA (qtx (a-b))):=by
 have hbl:=cC hb hk0;refine Fn.it kr_ Tryz.func241 9 fun w0=>?_;refine G.z2 1 0 1 ?_;refine G.rp 2 fun R hR=>?_;refine D.aj (Hn _ b om_) U7 fl_ ?_;refine D.ag (qi _ hT.m_ a (-b) k hk0 hk ha (pE hb)) ?_;refine D.q1 1 4 hR ?_;refine G.rf ?_;exact ⟨by rw [MJ],Z⟩
theorem Ez (q:Rat):q.num<0 ↔ q<0:=by
 rw [Rat.lt_iff];simp

theorem sz {z:Int}(h:(aT z.natAbs).length<=200):bI (txt z)=true:=by
 refine fJ.2 ?_;rw [cN];refine ⟨fZ.2 ⟨(aV _).1,h⟩,fun hz=>?_⟩;have h1:=bi hz;show 0<aX (aT z.natAbs);rw [(aV _).2];omega
theorem wV (z:Int):gE (txt z)=z:=by
 unfold gE;rw [cN];show sgZ (decide (z<0)) (aX (aT z.natAbs))=z;rw [(aV _).2];unfold sgZ;by_cases h:z<0
 ·rw [j9 h,bW rfl];omega
 ·rw [K3 h,a7 dc_];omega
theorem dC {q:Rat}(h:QB 22 q):cQ (qtx q)=true:=by
 have h1:(aT q.num.natAbs).length<=200:=by have:=bG h.1 dc_;omega
 have h2:(aT q.den).length<=200:=by have:=bG h.2 dc_;omega
 unfold cQ;rw [iF];show (bI (txt q.num) && bI ((jX q.den).getD [49]) && mE (gE (txt q.num)) (jX q.den))=true;rw [uQ,wV,sz h1,<- cm,sz (by rw [J9];exact h2),NL,NL];by_cases hd:q.den=1
 ·rw [iD hd];rfl
 ·rw [fb hd];unfold mE;show (decide (1<gE (aT q.den)) && !(q.num == 0) && (Nat.gcd q.num.natAbs (gE (aT q.den)).natAbs == 1))=true;have hz:gE (aT q.den)=((q.den:Nat):Int):=by rw [<- cm,wV]
  have hp:=d5 q;rw [hz,j9 om_,J9,show Nat.gcd q.num.natAbs q.den=1 from q.reduced];have hn:q.num≠0:=by
   intro e;have h3:=q.reduced;rw [e] at h3;have h4:Nat.gcd 0 q.den=1:=h3;rw [Nat.gcd_zero_left] at h4;exact hd h4
  simp [hn]

abbrev Pt:=Rat × Rat
def kR (p:Pt):List Value:=[aA (qtx p.1),aA (qtx p.2)]
def ptV (p:Pt):Value:=.agg ⟨kR p⟩
def QP (k:Nat)(p:Pt):Prop:=QB k p.1/\QB k p.2
def eE (a b c:Pt):Rat:=(b.1-a.1)*(c.2-a.2)-(b.2-a.2)*(c.1-a.1)
theorem j2 (b:Bool):w7 b=0/\b=true∨w7 b=2/\b=false:=by cases b <;> simp [w7]
def bN (s:Str):List Value:=[aA s]
theorem kG (C:Mem)(hT:Tabs C)(v:Value)(l:List Str)(hv:Sl C 1 v (l.map bN))(hl:∀ s∈l,s.length<=999998):Gives cx.P 68 [v] C (.int .i64 (w7 (l.all cQ))):=by
 obtain ⟨A0,c0,rfl,hc1,hc2,_⟩:=id hv;have hmx:maxLen<=9223372036854775807:=by simp [maxLen]
 simp only [aH] at hv hc1 ⊢;refine Fn.it kr_ Tryz.func68 18 fun w0=>?_;refine G.z1 1 0 ?_;refine G.z3 3 6 7 8 ?_;refine G.loop (fun fr C' L' μ=>∃ (i:Nat),(i<=l.length/\(l.take i).all cQ=true)/\fr=[(6,[],.slice A0 l.length c0),(7,[],.int .i64 l.length),(8,[],.int .i64 i)]/\L'=[]/\μ=l.length-i) (h_3 6 7 8) ⟨0,⟨ch _,by simp⟩,Z,Z,Z⟩ (fun fr C0' L0' m hle0 hI=>?_);obtain ⟨i,⟨hi,hall⟩,rfl,rfl,rfl⟩:=hI;refine G.z4 1 6 7 8 9 ?_;refine G.cd (fun h9=>?_) fun h9=>?_
 ·have hil:i<l.length:=by simpa using h9
  obtain ⟨s,hs⟩:∃ s,l[i]?=some s:=⟨l[i],aq hil⟩;refine G.rg fun R hR=>?_;refine D.ak hv.m_ U10 om_ (by rw [bX,hs];rfl:(l.map bN)[i]?=some (bN s)) fl_ (fun p10 hp10=>?_);refine D.aa hp10 ?_;refine D.q4 1 4 6 7 8 hR ?_;refine G.rp 1 fun R hR=>?_;refine D.ag (jG _ hT.m_ s (hl s (ba hs))) ?_;refine D.q4 1 5 6 7 8 hR ?_;refine G.z5 2 5 6 7 8 15 ?_;refine G.cd (fun h15=>?_) fun h15=>?_
  ·have hno:cQ s=false:=by
    rcases j2 (cQ s) with ⟨h1,h2⟩ | ⟨h1,h2⟩
    ·rw [h1] at h15;exact absurd h15 dc_
    ·exact h2
   refine G.z1 2 2 ?_;refine G.rf ?_;refine ⟨?_,Z⟩;rw [hno,show l.all cQ=false from M9.2 ⟨s,ba hs,by rw [hno];decide⟩]
  ·have hyes:cQ s=true:=by
    rcases j2 (cQ s) with ⟨h1,h2⟩ | ⟨h1,h2⟩
    ·exact h2
    ·rw [h1] at h15;exact absurd h15 dc_
   refine G.rg fun R hR=>?_;refine D.ar _ ?_;refine D.q3 1 6 7 8 hR ?_;refine G.ax (m':=l.length-(i+1)) om_ hle0 (h_3 6 7 8) ⟨i+1,⟨by omega,by rw [xO,hs,OM,hall];simp [hyes]⟩,Z,Z,Z⟩
 ·have hil:i=l.length:=by
   have:¬ i<l.length:=by simpa using h9
   omega
  refine G.z1 1 2 ?_;refine G.rf ?_;refine ⟨?_,Z⟩;rw [hil,cK] at hall;rw [hall];rfl
theorem IT {s t:Str}{n:Nat}(hs:s.length<=n)(ht:t.length<=n):∀ x∈[s,t],x.length<=n:=by simp [hs,ht]
theorem Ec {s t u:Str}{n:Nat}(hs:s.length<=n)(ht:t.length<=n)(hu:u.length<=n):∀ x∈[s,t,u],x.length<=n:=by simp [hs,ht,hu]
theorem ro (C:Mem)(hT:Tabs C)(s t:Str)(hs:s.length<=999998)(ht:t.length<=999998):Gives cx.P 55 [.agg ⟨[aA s,aA t]⟩] C (.int .i64 (w7 (cQ s && cQ t))):=by
 refine Fn.it kr_ Tryz.func55 9 fun w0=>?_;refine G.rg fun R hR=>?_;refine D.aD (fun b1=>?_);refine D.q1 1 1 hR ?_;refine G.rp 1 fun R hR=>?_;refine D.af (.head _) ?_;refine D.ac ?_;refine D.af (.head _) ?_;refine D.ah [bN s,bN t] (fun p7 _ _ hs7=>?_);refine D.ag (kG _ hT.m_ _ [s,t] hs7.m_ (IT hs ht)) ?_;refine D.q1 1 2 hR ?_;refine G.rf ?_;refine ⟨?_,Z⟩;simp
theorem ou (C:Mem)(hT:Tabs C)(s t u:Str)(hs:s.length<=999998)(ht:t.length<=999998)(hu:u.length<=999998):Gives cx.P 27 [.agg ⟨[aA s,aA t,aA u]⟩] C (.int .i64 (w7 (cQ s && cQ t && cQ u))):=by
 refine Fn.it kr_ Tryz.func27 11 fun w0=>?_;refine G.rg fun R hR=>?_;refine D.aD (fun b1=>?_);refine D.q1 1 1 hR ?_;refine G.rp 1 fun R hR=>?_;refine D.af (.head _) ?_;refine D.ac ?_;refine D.af (.head _) ?_;refine D.ac ?_;refine D.af (.head _) ?_;refine D.ah [bN s,bN t,bN u] (fun p9 _ _ hs9=>?_);refine D.ag (kG _ hT.m_ _ [s,t,u] hs9.m_ (Ec hs ht hu)) ?_;refine D.q1 1 2 hR ?_;refine G.rf ?_;refine ⟨?_,Z⟩;simp [Bool.and_assoc]
theorem Ie (C:Mem)(hT:Tabs C)(a b c:Pt)(k:Nat)(hk0:0<k)(hk:k<=1000)(ha:QP k a)(hb:QP k b)(hc:QP k c):Gives cx.P 119 [ptV a,ptV b,ptV c] C (aA (qtx (eE a b c))):=by
 have h1:=iW hb.1 ha.1;have h2:=iW hc.2 ha.2;have h3:=iW hb.2 ha.2;have h4:=iW hc.1 ha.1;refine Fn.it kr_ Tryz.func119 32 fun w0=>?_;refine G.rg fun R hR=>?_;refine D.aD (fun b3=>?_);refine D.aD (fun b4=>?_);refine D.aD (fun b5=>?_);refine D.q3 1 3 4 5 hR ?_;refine G.aG [0,1,2,3,4,5,6,7,8,9,10,11] [(4,1),(9,1),(10,1)] Z kr_ (fun R hB hR=>?_);refine D.ac ?_;refine D.af (.tail _ (.head _)) ?_;refine D.ac ?_;refine D.af (.tail _ (.tail _ (.head _))) ?_;refine D.ay (fun _=>(bH _ hT.m_ b.1 a.1 k hk0 om_ hb.1 ha.1)) U9 ?_;refine D.ac ?_;refine D.af (.head _) ?_;refine D.ac ?_;refine D.af (.tail _ (.tail _ (.head _))) ?_;refine D.ay (fun _=>(bH _ hT.m_ c.2 a.2 k hk0 om_ hc.2 ha.2)) U9 ?_;refine D.ay (fun _=>(bt _ hT.m_ (b.1-a.1) (c.2-a.2) (k+k+1) om_ om_ h1 h2)) U9 ?_;refine D.q4 1 3 4 5 7 hR ?_;refine G.aG [0,1,2,3,4,5,6,7,8,9,10,11,12,13] [(5,1),(10,1),(11,1),(12,1)] Z kr_ (fun R hB hR=>?_);refine D.ps 2 ?_;refine D.af (.tail _ (.head _)) ?_;refine D.ac ?_;refine D.af (.tail _ (.tail _ (.head _))) ?_;refine D.ay (fun _=>(bH _ hT.m_ b.2 a.2 k hk0 om_ hb.2 ha.2)) U9 ?_;refine D.ac ?_;refine D.af (.head _) ?_;refine D.ac ?_;refine D.af (.tail _ (.tail _ (.head _))) ?_;refine D.ay (fun _=>(bH _ hT.m_ c.1 a.1 k hk0 om_ hc.1 ha.1)) U9 ?_;refine D.ay (fun _=>(bt _ hT.m_ (b.2-a.2) (c.1-a.1) (k+k+1) om_ om_ h3 h4)) U9 ?_;refine D.ay (fun _=>(bH _ hT.m_ ((b.1-a.1)*(c.2-a.2)) ((b.2-a.2)*(c.1-a.1)) (k+k+1+(k+k+1)) om_ om_ (dU h1 h2) (dU h3 h4))) U9 ?_;refine D.q1 1 6 hR ?_;refine G.rf ?_;exact ⟨Z,Z⟩
theorem ve {a b c:Pt}{k:Nat}(ha:QP k a)(hb:QP k b)(hc:QP k c):QB (8*k+5) (eE a b c):=by
 have h:=iW (dU (iW hb.1 ha.1) (iW hc.2 ha.2)) (dU (iW hb.2 ha.2) (iW hc.1 ha.1));exact h.le om_
theorem zR (C:Mem)(hT:Tabs C)(a b c:Pt)(k:Nat)(hk0:0<k)(hk:k<=1000)(ha:QP k a)(hb:QP k b)(hc:QP k c):Gives cx.P 56 [ptV a,ptV b,ptV c] C (.int .i64 (fg (eE a b c).num)):=by
 refine Fn.it kr_ Tryz.func56 12 fun w0=>?_;refine G.rg fun R hR=>?_;refine D.aD (fun b3=>?_);refine D.aD (fun b4=>?_);refine D.aD (fun b5=>?_);refine D.q3 1 3 4 5 hR ?_;refine G.rg fun R hR=>?_;refine D.af (.tail _ (.tail _ (.head _))) ?_;refine D.af (.tail _ (.head _)) ?_;refine D.af (.head _) ?_;refine D.ag (Ie _ hT.m_ a b c k hk0 hk ha hb hc) ?_;refine D.aj (io _ (eE a b c) (by have:=cC (ve ha hb hc) om_;omega)) U7 fl_ ?_;refine D.q1 1 6 hR ?_;refine G.rf ?_;exact ⟨Z,Z⟩

abbrev Tri:=Nat × Nat × Nat
def lE (t:Tri):List Value:=[.int .i64 (t.1:Nat),.int .i64 (t.2.1:Nat),.int .i64 (t.2.2:Nat)]
open Go Go.Jog Go.RowKit Go.Shelf
attribute [local go_sem] Oper.semAt_some

def G3 (zs:Nat->Int)(k:Nat):Value:=.agg #[.int .i64 (zs k),.int .i64 (zs ((k+1) % 3))]
set_option maxRecDepth 100000 in
theorem Ek (l Bs:Nat)(zs:Nat->Int)(J:Nat->World->Prop)
  (hD:∀ k W,J k W->J k W.drew)
  (hJ:∀ k W,J k W->∀ j,j<3->W.cell? ⟨Bs,j,none⟩=some (.int .i64 (zs j)))
  (hY:∀ k W,J k W->k<3->YieldAt Fence.wide 1 Tryz.prog l #[.int .i64 (k:Nat),G3 zs k] W fun e W'=>e=.returned (.bool true)/\J (k+1) W')
  (W:World) (h0:J 0 W) :
  CallsIn Fence.wide 2 Tryz.prog 253 #[.func (.yield l) #[] #[],.pointer (some ⟨Bs,0,none⟩)] W fun e W'=>(∃ v,e=.returned v)/\J 3 W':=by
 refine callsIn_of_wp Tryz.func253 Z trivial ?_ Z;simp only [Tryz.ntmps253,MQ,fh,J8,Nat.reduceAdd,Nat.reduceSub,OG,OH,List.push_toArray,List.append_toArray,MS,LM]
 gi_wp2
 gi_loopw [4] (fun i wr=>∃ k:Nat,k<=3/\i=.int .i64 k/\J k wr) (fun i _=>(3-intOf i).toNat)
 case atStart=>exact ⟨0,by omega,rfl,h0⟩
 case round =>
  obtain ⟨k,hk,rfl,hJs⟩:=hrel;by_cases hlt:k<3
  ·have hJd:=hD k wr hJs;have hcd:=hJ k _ hJd;obtain ⟨fn,tmps,assign,body,hy,hR⟩:=hY k _ hJd hlt;rcases (by omega:k=0∨k=1∨k=2) with rfl | rfl | rfl
   ·have hc0:=hcd 0 om_;have hc1:=hcd 1 om_;have hy2:Sem.run Tryz.prog (Instr.yield l #[Value.int .i64 0,Value.agg #[.int .i64 (zs 0),.int .i64 (zs 1)]]) wr.drew=.ok (.round l fn tmps assign body) wr.drew:=hy;clear hy
    gi_wp2
    gi_region_with (refine hR.mono ?_;rintro e W3 ⟨rfl,hJ3⟩)
    all_goals
     gi_wp2
     go_roundw
     case rel=>exact ⟨1,by omega,rfl,hJ3⟩
     case measure=>simp [intOf]
   ·have hc0:=hcd 1 om_;have hc1:=hcd 2 om_;have hy2:Sem.run Tryz.prog (Instr.yield l #[Value.int .i64 1,Value.agg #[.int .i64 (zs 1),.int .i64 (zs 2)]]) wr.drew=.ok (.round l fn tmps assign body) wr.drew:=hy;clear hy
    gi_wp2
    gi_region_with (refine hR.mono ?_;rintro e W3 ⟨rfl,hJ3⟩)
    all_goals
     gi_wp2
     go_roundw
     case rel=>exact ⟨2,by omega,rfl,hJ3⟩
     case measure=>simp [intOf]
   ·have hc0:=hcd 2 om_;have hc1:=hcd 0 om_;have hy2:Sem.run Tryz.prog (Instr.yield l #[Value.int .i64 2,Value.agg #[.int .i64 (zs 2),.int .i64 (zs 0)]]) wr.drew=.ok (.round l fn tmps assign body) wr.drew:=hy;clear hy
    gi_wp2
    gi_region_with (refine hR.mono ?_;rintro e W3 ⟨rfl,hJ3⟩)
    all_goals
     gi_wp2
     go_roundw
     case rel=>exact ⟨3,by omega,rfl,hJ3⟩
     case measure=>simp [intOf]
  ·obtain rfl:k=3:=by omega
   gi_wp2
   go_end0
   exact ⟨⟨_,Z⟩,hJs⟩

def zU (t:Tri)(j:Nat):Int:=if j=0 then (t.1:Nat) else if j=1 then (t.2.1:Nat) else (t.2.2:Nat)
def sk (t:Tri):List (Value × Value):=(List.range 3).map fun k=>(.int .i64 (k:Nat),G3 (zU t) k)
theorem kA (t:Tri):(sk t).length=3:=rfl
theorem sj {t:Tri}{k:Nat}(h:k<3):(sk t)[k]?=some (.int .i64 (k:Nat),G3 (zU t) k):=by
 simp [sk,h]
theorem xZ (C:Mem)(b ty:Nat)(t:Tri)(hb:C b=some (.cells ⟨lE t⟩ ty (0,0))) :
  Kk Tryz.prog 253 #[.pointer (some ⟨b,0,none⟩)] C (sk t):=by
 intro l J W hC hD hY h0;refine Ek l b (zU t) J hD (fun k W hj j hj3=>?_) (fun k W hj hk=>hY k _ W hj (sj hk)) W h0;have h1:=hC k W hj b _ hb;rcases (by omega:j=0∨j=1∨j=2) with rfl | rfl | rfl <;> simp [World.cell?,h1,lE,zU]
theorem El (C:Mem)(t:Tri):Pur cx.P 175 [.agg ⟨lE t⟩] C fun r C'=>∃ b,r=.func (.func 253) #[] #[.pointer (some ⟨b,0,none⟩)]/\C' b=some (.cells ⟨lE t⟩ 178 (0,0)):=by
 refine Fn.it kr_ Tryz.func175 4 fun w0=>?_;refine G.rg fun R hR=>?_;refine D.aD (fun b1=>?_);refine D.q1 1 1 hR ?_;refine G.z1 2 2 ?_;refine G.freeze 0 Z (fun Cf hf hb1=>?_);refine G.rf ?_;exact ⟨Z,_,Z,hb1⟩
end Go.Proofs.YtgfiffppookakaaGreatDoor
namespace Go.Jog
open Go

theorem St.arrObj {w0:World}{C0:Mem}{L0:List Ent}{C:Mem}{L:List Ent}{w:World}{b e s m cap:Nat}{xs:List Value}(h:St w0 C0 L0 C (.arr (.slice (some ⟨b,0,none⟩) m cap) e s m xs::L) w) :
  ∃ cs:List Value,cs.length=cap*s/\cs.take (m*s)=xs/\m<=cap/\cap<=maxLen/\St w0 C0 L0 C (.obj b (.cells ⟨cs⟩ e (0,0))::L) w:=by
 have hown:w.ownsRow 0 e s (.slice (some ⟨b,0,none⟩) m cap) m xs:=h.sep.e _ (br ..);obtain ⟨_,hlm,hcm,cur,hb,hcs,htake⟩:=cE hown;have hd:=Ls.1 h.sep.d;have ho:∀ k,(Ent.obj b (.cells ⟨cur.toList⟩ e (0,0))).own k->(Ent.arr (.slice (some ⟨b,0,none⟩) m cap) e s m xs).own k:=fun k hk=>by
  simp only [Ent.own] at hk;subst hk;rfl
 refine ⟨cur.toList,by simpa using hcs,htake,hlm,hcm,⟨⟨h.sep.c,fun x hx'=>?_,Ls.2 ⟨fun y hy k hk=>hd.1 y hy k (ho k hk),hd.2⟩,fun k ⟨x,hx',hk⟩=>?_⟩,h.ev,h.c0,h.cn,fun k ⟨x,hx',hk⟩=>?_⟩⟩
 ·rcases cI.1 hx' with rfl | hx'
  ·exact hb
  ·exact h.sep.e x (by simp [hx'])
 ·rcases cI.1 hx' with rfl | hx'
  ·exact h.sep.n k ⟨_,br ..,ho k hk⟩
  ·exact h.sep.n k ⟨x,by simp [hx'],hk⟩
 ·rcases cI.1 hx' with rfl | hx'
  ·exact h.ln k ⟨_,br ..,ho k hk⟩
  ·exact h.ln k ⟨x,by simp [hx'],hk⟩
end Go.Jog
namespace Go.Jog
open Go

end Go.Jog
namespace Go.Jog
open Go Go.MapKept

section
variable {cx:Cx} {n:Nat} {ds:List (Option Nat)} {R:Rg n ds} {its:List It} {fr:Fr} {C:Mem} {L:List Ent} {i k d:Nat} {o:Oper} {g:GL} {v:Value}
variable {kd:TypeDesc} {κ:Type} [DecidableEq κ] (K:KeyT kd κ)
theorem D.FW {t kt et j b:Nat}{x y z:Operand}{m:List (κ × Value)}{key:κ}{ti:TI}(hk:k=3)(hg:gOn ds fr o.guard=true)(hd:o.dst=none)(hop:o.op=.insert t x y z)
  (hx:ev fr [] x=some (.map (some b))) (hy:ev fr [] y=some (K.enc key)) (hz:ev fr [] z=some v) (hm:L[j]?=some (.obj b (bf K.enc m)))
  (ht:cx.T.get t=some ti) (htk:ti.k=.map kt et) (hkt:cx.P.underlying kt=some kd)
  (h:D cx R its fr C (.obj b (bf K.enc (fo m key v))::L.eraseIdx j)):D cx R ((i,k,o)::its) fr C L :=
 D.tS (S:=fun C' L'=>C'=C/\L'=.obj b (bf K.enc (fo m key v))::L.eraseIdx j) (by subst hk;rfl) hg (fun a hs w _ hw=>by
  have hw':=St.perm hw (aC hm);have hb:w.heap[b]?=some (bf K.enc m):=hw'.sep.e _ (br ..);have hu:=fX cx.hT ht htk;have hf:=eK K key m 0 0;have h1:(getObj b).run cx.P w=.ok (.map ⟨bp K.enc m 0⟩ m.length) w:=Go.MapKept.run_getObj_map hb;have h2:=run_findKey (P:=cx.P) (w:=w) hkt hf;have hrun:(Instr.mapUpdate t (.map (some b)) (K.enc key) v).run cx.P w=.ok () { w with heap:=w.heap.setIfInBounds b (bf K.enc (fo m key v)) }:=by
   unfold Instr.mapUpdate;simp only [Sem.run_bind,run_underlying hu,Result.andThen_ok,h1,run_checkKey hkt (K.isKey key)];rw [h2];cases hi:iL m key with
   | none =>
    obtain ⟨h3,h4⟩:=kJ K (v:=v) (i:=0) hi;simp only [Option.map_none,Result.andThen_ok];rw [Go.MapKept.run_setObj_map (P:=cx.P) _ hb];congr 2;simp only [bf,h4,<- h3,LO];congr 2;apply Ml;simp
   | some p =>
    obtain ⟨q,u⟩:=p;obtain ⟨h3,h4,h5⟩:=kI K (v:=v) (i:=0) hi;have hq:(((⟨bp K.enc m 0⟩:Array MapEntry)[0+q]?).map (·.key)).getD (K.enc key)=K.enc key:=by
     rw [LO];show (((bp K.enc m 0).toArray[q]?).map (·.key)).getD (K.enc key)=K.enc key;rw [LB,h5];rfl
    simp only [MR,Result.andThen_ok,Sem.run_bind];rw [hq,run_keyThatStays (d:=kd) (K.isKey key)];simp only [Result.andThen_ok];rw [Go.MapKept.run_setObj_map (P:=cx.P) _ hb];congr 2;simp only [bf,h4,<- h3,LO];congr 2;apply Ml;simp
  have hex:(execOp a.eval o).run cx.P w=.ok .skip { w with heap:=w.heap.setIfInBounds b (bf K.enc (fo m key v)) }:=by
   have e1:execOp a.eval o=(do Instr.mapUpdate t (a.eval x) (a.eval y) (a.eval z);Pure.pure .skip:Sem Next):=by unfold execOp;rw [hop]
   rw [e1,hs _ _ hx,hs _ _ hy,hs _ _ hz];simp only [Sem.run_bind,hrun,Result.andThen_ok,Sem.run_pure]
  unfold Oper.wp;rw [hex];have hset:=heap_set (o':=bf K.enc (fo m key v)) hb;refine ⟨C,.obj b (bf K.enc (fo m key v))::L.eraseIdx j, ?_,Mem.le.refl _,fun h2=>by omega,St.put hw' hset.1 hset.2 (by simp) Z Z Z (aP _),Z,Z⟩;rw [hd];rfl)
  (fun C' L' _ ⟨e1,e2⟩=>by subst e1;subst e2;exact h)
end
end Go.Jog
namespace Go.Jog
open Go Go.MapKept

def bZ (bm n:Nat)(seen:List Nat):Obj:=.mapIter (some bm) n seen.toArray n

theorem jM {κ:Type}(enc:κ->Value):∀ (m:List (κ × Value))(i j:Nat),(bp enc m i)[j]?=(m[j]?).map fun p=>⟨enc p.1,p.2,i+j⟩
 | [],i,j=>by simp [bp]
 | (k,v)::m,i,0=>by simp [bp]
 | (k,v)::m,i,j+1=>by
  simp only [bp,Nd,jM enc m (i+1) j];cases m[j]? with
  | none=>rfl
  | some p=>simp;omega
theorem sO {κ:Type}{enc:κ->Value}{m:List (κ × Value)}{e:MapEntry}(h:e∈bp enc m 0):∃ p,m[e.born]?=some p/\e.key=enc p.1/\e.val=p.2:=by
 obtain ⟨j,hj⟩:=Ma h;rw [jM] at hj;cases hp:m[j]? with
 | none=>rw [hp] at hj;cases hj
 | some p =>
  rw [hp] at hj;cases hj
  exact ⟨p,by simpa using hp,Z,Z⟩
theorem ux {κ:Type}(enc:κ->Value)(m:List (κ × Value)):((bp enc m 0).map (·.born)).Nodup:=by
 have:∀ (m:List (κ × Value))(i:Nat),(bp enc m i).map (·.born)=List.range' i m.length:=by
  intro m;induction m with
  | nil=>intro i;rfl
  | cons p m ih=>intro i;simp only [bp,Li,ih,fh,Ox]
 rw [this];exact List.nodup_range'

section
variable {cx:Cx} {n:Nat} {ds:List (Option Nat)} {R:Rg n ds} {its:List It} {fr:Fr} {C:Mem} {L:List Ent} {i k d:Nat} {o:Oper} {g:GL} {v:Value}
variable {kd:TypeDesc} {κ:Type} [DecidableEq κ] (K:KeyT kd κ)

theorem yr {κ:Type}{enc:κ->Value}{m:List (κ × Value)}{seen:List Nat}{j:Nat}{p:κ × Value}(hj:m[j]?=some p)(hs:j ∉ seen):(⟨enc p.1,p.2,j⟩:MapEntry)∈(leftOf (bp enc m 0).toArray seen.toArray).toList:=by
 unfold leftOf;simp only [Array.toList_filter,N6];refine ⟨?_, ?_⟩
 ·refine ba (i:=j) ?_;rw [jM,hj];simp
 ·simpa using hs

end
end Go.Jog
namespace Go.Jog
open Go Go.MapKept

structure KeyP (P:Program)(kt:TypeId)(κ:Type)[DecidableEq κ] where
 enc:κ->Value
 check:∀ a em w,(Instr.checkKey em 10000 kt (enc a)).run P w=.ok () w
 ask:∀ x es w,(Instr.findKey kt x es).run P w=(Instr.findAsking kt x es).run P w
 same:∀ a b w,(Op.equal kt (enc a) (enc b)).run P w=.ok (decide (a=b)) w
 stays:∀ a w,(Instr.keyThatStays (enc a) (enc a)).run P w=.ok (enc a) w
section
variable {κ:Type} [DecidableEq κ] {enc:κ->Value}
theorem mV {k:κ}{v:Value}:∀ {m:List (κ × Value)}{i:Nat},iL m k=none->bp enc m i++[⟨enc k,v,i+m.length⟩]=bp enc (fo m k v) i/\(fo m k v).length=m.length+1
 | [],i,_=>⟨rfl,rfl⟩
 | (k',v')::m,i,h=>by
  simp only [iL] at h;split at h
  ·cases h
  ·rename_i hne;have h':iL m k=none:=by
    cases hx:iL m k with
    | none=>rfl
    | some p=>rw [hx] at h;cases h
   obtain ⟨h1,h2⟩:=mV (i:=i+1) (v:=v) h';simp only [fo,a7 hne,bp,LM,fh,h2];refine ⟨?_,trivial⟩;rw [<- h1];congr 3;congr 1;omega
theorem mU {k:κ}{v:Value}:∀ {m:List (κ × Value)}{i q:Nat}{u:Value},iL m k=some (q,u)->(bp enc m i).modify q (fun e=>{ e with key:=enc k,val:=v })=bp enc (fo m k v) i/\(fo m k v).length=m.length/\((bp enc m i)[q]?).map (·.key)=some (enc k)
 | [],_,_,_,h=>by cases h
 | (k',v')::m,i,q,u,h=>by
  simp only [iL] at h;split at h
  ·rename_i e;subst e;cases h
   simp [bp,fo]
  ·rename_i hne;cases hx:iL m k with
   | none=>rw [hx] at h;cases h
   | some p =>
    obtain ⟨q',u'⟩:=p;rw [hx] at h;cases h
    obtain ⟨h1,h2,h3⟩:=mU (i:=i+1) (v:=v) hx;simp only [fo,a7 hne,bp,fh,h2,List.modify_succ_cons,h1];exact ⟨trivial,trivial,by simpa using h3⟩
end
section
variable {P:Program} {kt:TypeId} {κ:Type} [DecidableEq κ] (K:KeyP P kt κ)
theorem vT (k:κ)(w:World):∀ (m:List (κ × Value))(i j:Nat),(Instr.findAsking kt (K.enc k) (bp K.enc m i) j).run P w=.ok ((iL m k).map fun p=>(j+p.1,p.2)) w
 | [],i,j=>rfl
 | (k',v)::m,i,j=>by
  simp only [bp,Instr.findAsking,Sem.run_bind,K.same,Result.andThen_ok];by_cases h:k=k'
  ·subst h;simp [iL]
  ·have h':¬ k'=k:=fun e=>h e.symm;simp only [h,decide_false,vT k w m (i+1) (j+1),iL,a7 h',LG,LZ];cases iL m k with
   | none=>rfl
   | some p=>simp;omega
theorem sr (k:κ)(m:List (κ × Value))(i:Nat)(w:World):(Instr.findKey kt (K.enc k) (bp K.enc m i)).run P w=.ok (iL m k) w:=by
 rw [K.ask,vT K k w m i 0];cases iL m k <;> simp
theorem mD {T:Tab}(hT:mr P T=true){t et:Nat}{ti te:TI}{ok:Bool}(ht:T.get t=some ti)(htk:ti.k=.map kt et)(hte:T.get et=some te){w:World}{b:Nat}{m:List (κ × Value)}(hb:w.heap[b]?=some (bf K.enc m))(y:κ) :
  (Instr.lookup t (.map (some b)) (K.enc y) ok).run P w=.ok (iM te.zv ok (dS m y)) w:=by
 have hu:=fX hT ht htk;have h1:(getObj b).run P w=.ok (.map ⟨bp K.enc m 0⟩ m.length) w:=Go.MapKept.run_getObj_map hb;have h2:=sr K y m 0 w;rw [<- mT];unfold Instr.lookup;simp only [Sem.run_bind,run_underlying hu,Result.andThen_ok,h1,Sem.run_pure,K.check];rw [h2];cases iL m y with
 | none=>cases ok <;> simp [iM,pQ hT hte w]
 | some p=>cases ok <;> simp [iM]
end
section
variable {cx:Cx} {n:Nat} {ds:List (Option Nat)} {R:Rg n ds} {its:List It} {fr:Fr} {C:Mem} {L:List Ent} {i k d:Nat} {o:Oper} {g:GL} {v:Value}
variable {κ:Type} [DecidableEq κ]
theorem D.pN {b t kt et:Nat}(K:KeyP cx.P kt κ){x y:Operand}{ok:Bool}{m:List (κ × Value)}{key:κ}{ti te:TI}(hm:Ent.obj b (bf K.enc m)∈L)(hk:k=1)(hd:o.dst=some d)(hop:o.op=.lookup t x y ok)(hg:gOf ds fr o.guard=some g)(hx:ev fr g x=some (.map (some b)))(hy:ev fr g y=some (K.enc key))
  (ht:cx.T.get t=some ti) (htk:ti.k=.map kt et) (hte:cx.T.get et=some te) (hv:iM te.zv ok (dS m key)=v) (hp:aO n ds ((d,g,v)::fr) d=true) (hwf:wfG ds fr g=true)
  (h:D cx R its ((d,g,v)::fr) C L):D cx R ((i,k,o)::its) fr C L :=
 D.gH (by subst hk;rfl) hd hg hp hwf (fun _ a hs κ' hκ w hw=>by
  have hb:w.heap[b]?=some (bf K.enc m):=hw.sep.e _ ((hκ hk).2 _ hm);have hex:(execOp a.eval o).run cx.P w=.ok (.value v) w:=by
   have e1:execOp a.eval o=(do Pure.pure (.value (<- Instr.lookup t (a.eval x) (a.eval y) ok)):Sem Next):=by unfold execOp;rw [hop]
   rw [e1,hs _ _ hx,hs _ _ hy,<- hv];simp only [Sem.run_bind,mD K cx.hT ht htk hte hb key,Result.andThen_ok,Sem.run_pure]
  unfold Oper.quietAt;rw [hex];exact ⟨Z,Z⟩) h

theorem D.zx {b t kt et:Nat}(K:KeyP cx.P kt κ){x y:Operand}{ok:Bool}{m:List (κ × Value)}{key:κ}{ti te:TI}(hm:GT ds fr g->C b=some (bf K.enc m))(hk:k=1)(hd:o.dst=some d)(hop:o.op=.lookup t x y ok)(hg:gOf ds fr o.guard=some g)(hx:ev fr g x=some (.map (some b)))(hy:ev fr g y=some (K.enc key))
  (ht:cx.T.get t=some ti) (htk:ti.k=.map kt et) (hte:cx.T.get et=some te) (hv:iM te.zv ok (dS m key)=v) (hp:aO n ds ((d,g,v)::fr) d=true) (hwf:wfG ds fr g=true)
  (h:D cx R its ((d,g,v)::fr) C L):D cx R ((i,k,o)::its) fr C L :=
 D.gH (by subst hk;rfl) hd hg hp hwf (fun hGT a hs κ' hκ w hw=>by
  have hb:w.heap[b]?=some (bf K.enc m):=hw.sep.c _ _ ((hκ hk).1 _ _ (hm hGT));have hex:(execOp a.eval o).run cx.P w=.ok (.value v) w:=by
   have e1:execOp a.eval o=(do Pure.pure (.value (<- Instr.lookup t (a.eval x) (a.eval y) ok)):Sem Next):=by unfold execOp;rw [hop]
   rw [e1,hs _ _ hx,hs _ _ hy,<- hv];simp only [Sem.run_bind,mD K cx.hT ht htk hte hb key,Result.andThen_ok,Sem.run_pure]
  unfold Oper.quietAt;rw [hex];exact ⟨Z,Z⟩) h

theorem D.lB {t kt et j b:Nat}(K:KeyP cx.P kt κ){x y z:Operand}{m:List (κ × Value)}{key:κ}{ti:TI}(hk:k=3)(hg:gOn ds fr o.guard=true)(hd:o.dst=none)(hop:o.op=.mapUpdate t x y z)
  (hx:ev fr [] x=some (.map (some b))) (hy:ev fr [] y=some (K.enc key)) (hz:ev fr [] z=some v) (hm:L[j]?=some (.obj b (bf K.enc m)))
  (ht:cx.T.get t=some ti) (htk:ti.k=.map kt et)
  (h:D cx R its fr C (.obj b (bf K.enc (fo m key v))::L.eraseIdx j)):D cx R ((i,k,o)::its) fr C L :=
 D.tS (S:=fun C' L'=>C'=C/\L'=.obj b (bf K.enc (fo m key v))::L.eraseIdx j) (by subst hk;rfl) hg (fun a hs w _ hw=>by
  have hw':=St.perm hw (aC hm);have hb:w.heap[b]?=some (bf K.enc m):=hw'.sep.e _ (br ..);have hu:=fX cx.hT ht htk;have h1:(getObj b).run cx.P w=.ok (.map ⟨bp K.enc m 0⟩ m.length) w:=Go.MapKept.run_getObj_map hb;have h2:=sr K key m 0 w;have hrun:(Instr.mapUpdate t (.map (some b)) (K.enc key) v).run cx.P w=.ok () { w with heap:=w.heap.setIfInBounds b (bf K.enc (fo m key v)) }:=by
   unfold Instr.mapUpdate;simp only [Sem.run_bind,run_underlying hu,Result.andThen_ok,h1,K.check];rw [h2];cases hi:iL m key with
   | none =>
    obtain ⟨h3,h4⟩:=mV (enc:=K.enc) (v:=v) (i:=0) hi;simp only [Result.andThen_ok];rw [Go.MapKept.run_setObj_map (P:=cx.P) _ hb];congr 2;simp only [bf,h4,<- h3,LO];congr 2;apply Ml;simp
   | some p =>
    obtain ⟨q,u⟩:=p;obtain ⟨h3,h4,h5⟩:=mU (enc:=K.enc) (v:=v) (i:=0) hi;have hq:(((⟨bp K.enc m 0⟩:Array MapEntry)[q]?).map (·.key)).getD (K.enc key)=K.enc key:=by
     show (((bp K.enc m 0).toArray[q]?).map (·.key)).getD (K.enc key)=K.enc key;rw [LB,h5];rfl
    simp only [Result.andThen_ok,Sem.run_bind];rw [hq,K.stays];simp only [Result.andThen_ok];rw [Go.MapKept.run_setObj_map (P:=cx.P) _ hb];congr 2;simp only [bf,h4,<- h3];congr 2;apply Ml;simp
  have hex:(execOp a.eval o).run cx.P w=.ok .skip { w with heap:=w.heap.setIfInBounds b (bf K.enc (fo m key v)) }:=by
   have e1:execOp a.eval o=(do Instr.mapUpdate t (a.eval x) (a.eval y) (a.eval z);Pure.pure .skip:Sem Next):=by unfold execOp;rw [hop]
   rw [e1,hs _ _ hx,hs _ _ hy,hs _ _ hz];simp only [Sem.run_bind,hrun,Result.andThen_ok,Sem.run_pure]
  unfold Oper.wp;rw [hex];have hset:=heap_set (o':=bf K.enc (fo m key v)) hb;refine ⟨C,.obj b (bf K.enc (fo m key v))::L.eraseIdx j, ?_,Mem.le.refl _,fun h2=>by omega,St.put hw' hset.1 hset.2 (by simp) Z Z Z (aP _),Z,Z⟩;rw [hd];rfl)
  (fun C' L' _ ⟨e1,e2⟩=>by subst e1;subst e2;exact h)
end
end Go.Jog
namespace Go.Jog
open Go Go.MapKept

section
variable {cx:Cx} {n:Nat} {ds:List (Option Nat)} {R:Rg n ds} {its:List It} {fr:Fr} {C:Mem} {L:List Ent} {i k d:Nat} {o:Oper} {g:GL} {v:Value}
variable {κ:Type} (enc:κ->Value)

theorem D.vl {t kt et bm:Nat}{x:Operand}{m:List (κ × Value)}{ti:TI}(hc:C bm=some (bf enc m))(hk:Nat.ble k 1=false)(hd:o.dst=some d)(hg:gOn ds fr o.guard=true)(hop:o.op=.range t x)(hx:ev fr [] x=some (.map (some bm)))
  (ht:cx.T.get t=some ti) (htk:ti.k=.map kt et) (hp:∀ v,aO n ds ((d,[],v)::fr) d=true)
  (h:∀ b,D cx R its ((d,[],.pointer (some ⟨b,0,none⟩))::fr) C (.obj b (bZ bm m.length [])::L)):D cx R ((i,k,o)::its) fr C L :=
 D.gF (S:=fun v C' L'=>C'=C/\∃ b,v=.pointer (some ⟨b,0,none⟩)/\L'=.obj b (bZ bm m.length [])::L) hk hd hg hp (fun a hs w _ hw=>by
  have hb:w.heap[bm]?=some (bf enc m):=hw.sep.c _ _ hc;have hu:=fX cx.hT ht htk;have hex:(execOp a.eval o).run cx.P w=.ok (.value (.pointer (some ⟨w.heap.size,0,none⟩))) (w.alloc (bZ bm m.length [])):=by
   have e1:execOp a.eval o=(do Pure.pure (.value (<- Instr.range t (a.eval x))):Sem Next):=by unfold execOp;rw [hop]
   rw [e1,hs _ _ hx];simp only [Sem.run_bind,run_range_map w t kt et bm _ _ hu hb,Result.andThen_ok,Sem.run_pure];rfl
  unfold Oper.wp;rw [hex];exact ⟨_,C,.obj w.heap.size (bZ bm m.length [])::L,Z,Mem.le.refl _,fun _ x hx=>by simp [hx],St.alloc hw _,Z,_,Z,Z⟩)
  (fun v C' L' _ ⟨e1,b,e2,e3⟩=>by subst e1;subst e2;subst e3;exact h b)

theorem D.zw {b q bm:Nat}{x:Operand}{m:List (κ × Value)}{seen:List Nat}(hc:C bm=some (bf enc m))(hk:k=3)(hd:o.dst=some d)(hg:gOn ds fr o.guard=true)(hop:o.op=.next x false)(hx:ev fr [] x=some (.pointer (some ⟨b,0,none⟩)))
  (hm:L[q]?=some (.obj b (bZ bm m.length seen))) (hp:∀ v,aO n ds ((d,[],v)::fr) d=true)
  (h:∀ (go:Bool)(rest:List Value)(seen':List Nat),(go=false/\seen'=seen/\∀ j,j<m.length->j∈seen)∨(go=true/\∃ j,j<m.length/\j ∉ seen/\seen'=seen++[j]) ->
   D cx R its ((d,[],.tuple ⟨.bool go::rest⟩)::fr) C (.obj b (bZ bm m.length seen')::L.eraseIdx q)):D cx R ((i,k,o)::its) fr C L :=
 D.gF (S:=fun v C' L'=>C'=C/\∃ (go:Bool)(rest:List Value)(seen':List Nat),((go=false/\seen'=seen/\∀ j,j<m.length->j∈seen)∨(go=true/\∃ j,j<m.length/\j ∉ seen/\seen'=seen++[j]))/\v=.tuple ⟨.bool go::rest⟩/\L'=.obj b (bZ bm m.length seen')::L.eraseIdx q) (by subst hk;rfl) hd hg hp (fun a hs w _ hw=>by
  have hw':=St.perm hw (aC hm);have hb:w.heap[b]?=some (bZ bm m.length seen):=hw'.sep.e _ (br ..);have hbm:w.heap[bm]?=some (bf enc m):=hw.sep.c _ _ hc;have e1:execOp a.eval o=(do Pure.pure (.value (<- Instr.next (a.eval x) false 0)):Sem Next):=by unfold execOp;rw [hop];rfl
  have hold:∀ x∈(bp enc m 0).toArray.toList,x.born<m.length:=fun x hx=>by
   obtain ⟨p,h1,_⟩:=sO (show x∈bp enc m 0 by simpa using hx);exact (aJ.1 h1).1
  have hg1:∀ w:World,w.heap[b]?=some (bZ bm m.length seen)->(getObj b).run cx.P w=.ok (bZ bm m.length seen) w:=fun w h=>by
   simp only [getObj,Sem.run,h,bZ]
  have hrun:(∀ j,j<m.length->j∈seen)/\(Instr.next (.pointer (some ⟨b,0,none⟩)) false 0).run cx.P w=.ok (.tuple #[.bool false]) w ∨
    ∃ (j:Nat)(p:κ × Value)(w1:World),m[j]?=some p/\j ∉ seen/\w1.heap=w.heap/\w1.os=w.os/\w1.tape=w.tape/\w1.output=w.output/\w.drawn<=w1.drawn /\
     (Instr.next (.pointer (some ⟨b,0,none⟩)) false 0).run cx.P w=.ok (.tuple #[.bool true,enc p.1,p.2]) { w1 with heap:=w1.heap.setIfInBounds b (bZ bm m.length (seen++[j])) }:=by
   have hnx:(Instr.next (.pointer (some ⟨b,0,none⟩)) false 0).run cx.P w=(do
     let candidates:=(if (leftOf (bp enc m 0).toArray seen.toArray).isEmpty then #[none] else #[])++(leftOf (bp enc m 0).toArray seen.toArray).map some
     match candidates[<- choose (.mapNext candidates.size)]? with
     | some (some e) =>
      setObj b (.mapIter (some bm) m.length (seen.toArray.push e.born) m.length)
      Pure.pure (Value.tuple #[.bool true,e.key,e.val])
     | some none=>Pure.pure (Value.tuple #[.bool false])
     | none => stuck "Next: no such candidate" : Sem Value).run cx.P w := by
    have hmem:∀ x∈(leftOf (bp enc m 0).toArray seen.toArray).toList,x.born<m.length:=fun x hx=>hold x (mem_left hx).1;have f1:(leftOf (bp enc m 0).toArray seen.toArray).filter (fun x=>decide (x.born<m.length))=leftOf (bp enc m 0).toArray seen.toArray:=Array.filter_eq_self.2 (fun x hx=>by simpa using hmem x (by simpa using hx));have f2:(leftOf (bp enc m 0).toArray seen.toArray).filter (fun x=>decide (x.born ≥ m.length))=#[]:=by
     rw [Array.filter_eq_empty_iff];intro x hx;have:=hmem x (by simpa using hx);simp;omega
    unfold Instr.next;simp only [Sem.run_bind,hg1 w hb,Result.andThen_ok,bZ];have hg2:(getObj bm).run cx.P w=.ok (.map (bp enc m 0).toArray m.length) w:=Go.MapKept.run_getObj_map hbm;simp only [Sem.run_bind,hg2,Result.andThen_ok,next_test_false seen.toArray (bp enc m 0).toArray m.length m.length hold (aP _),LG,LZ];unfold leftOf at f1 f2 ⊢;simp only [f1,f2,Array.append_empty];refine congrArg _ (funext fun a=>funext fun w'=>?_);congr 1
   rw [hnx];have hcorr:∀ e∈(leftOf (bp enc m 0).toArray seen.toArray).toList,∃ p,m[e.born]?=some p/\e.born ∉ seen/\e.key=enc p.1/\e.val=p.2:=fun e he=>by
    obtain ⟨h1,h2⟩:=mem_left he;obtain ⟨p,h3,h4,h5⟩:=sO (show e∈bp enc m 0 by simpa using h1);exact ⟨p,h3,by simpa using h2,h4,h5⟩
   have hall:(leftOf (bp enc m 0).toArray seen.toArray)=#[]->∀ j,j<m.length->j∈seen:=fun he j hj=>by
    by_cases hs:j∈seen
    ·exact hs
    ·have:=yr (enc:=enc) (aq hj) hs;rw [he] at this;cases this
   generalize leftOf (bp enc m 0).toArray seen.toArray=F at hcorr hall ⊢;by_cases h0:F.size=0
   ·have:F=#[]:=Array.eq_empty_of_size_eq_zero h0;subst this;left;refine ⟨hall Z, ?_⟩;simp [choose,Sem.run,Question.forced]
   ·right;have hne:F.isEmpty=false:=by simp [Array.isEmpty,h0]
    simp only [hne,LG,LZ,Array.empty_append,Array.size_map];have hch:∃ (j:Nat)(w1:World),j<F.size/\w1.heap=w.heap/\w1.os=w.os/\w1.tape=w.tape/\w1.output=w.output/\w.drawn<=w1.drawn/\(choose (Question.mapNext F.size)).run cx.P w=.ok j w1:=by
     by_cases hf:F.size<=1
     ·exact ⟨0,w,by omega,Z,Z,Z,Z,aP _,by simp [choose,Sem.run,Question.forced,hf]⟩
     ·exact ⟨_,w.drew,K9 _ om_,Z,Z,Z,Z,Ol _,by
       simp only [choose,Sem.run,Question.forced,cH,hf,LZ,Question.cut];rfl⟩
    obtain ⟨j,w1,hj,hh,ho,htp,hou,hdr,hrun⟩:=hch;obtain ⟨p,h1,h2,h3,h4⟩:=hcorr F[j] (by simp);refine ⟨F[j].born,p,w1,h1,h2,hh,ho,htp,hou,hdr, ?_⟩;have hset:(setObj b (.mapIter (some bm) m.length (seen.toArray.push F[j].born) m.length)).run cx.P w1=.ok () { w1 with heap:=w1.heap.setIfInBounds b (bZ bm m.length (seen++[F[j].born])) }:=by
     have hb1:w1.heap[b]?=some (bZ bm m.length seen):=by rw [hh];exact hb
     simp only [setObj,Sem.run,hb1,bZ];simp
    simp only [hrun,Array.getElem?_map,Array.getElem?_eq_getElem hj,MR,Sem.run_bind,Result.andThen_ok,hset,Sem.run_pure,h3,h4]
  rw [show a.eval x=.pointer (some ⟨b,0,none⟩) from hs _ _ hx] at e1;unfold Oper.wp;rw [e1];rcases hrun with ⟨h1,hr⟩ | ⟨j,p,w1,h1,h2,hh,ho,htp,hou,hdr,hr⟩
  ·simp only [Sem.run_bind,hr,Result.andThen_ok,Sem.run_pure];exact ⟨_,C,.obj b (bZ bm m.length seen)::L.eraseIdx q,Z,Mem.le.refl _,fun h2=>by omega,hw',Z,false,[],seen,.inl ⟨Z,Z,h1⟩,Z,Z⟩
  ·simp only [Sem.run_bind,hr,Result.andThen_ok,Sem.run_pure];have hw1:=hw'.same (w':=w1) ho htp hou hh hdr;have hset:=heap_set (o':=bZ bm m.length (seen++[j])) (show w1.heap[b]?=_ from by rw [hh];exact hb);exact ⟨_,C,.obj b (bZ bm m.length (seen++[j]))::L.eraseIdx q,Z,Mem.le.refl _,fun h2=>by omega,St.put hw1 hset.1 hset.2 (by simp) Z Z Z (aP _),Z,true,[enc p.1,p.2],_,
    .inr ⟨rfl,j,(aJ.1 h1).1,h2,rfl⟩,rfl,rfl⟩)
  (fun v C' L' _ ⟨e1,go,rest,seen',h1,e2,e3⟩=>by subst e1;subst e2;subst e3;exact h go rest seen' h1)

theorem D.vt {b bm j:Nat}{x:Operand}{m:List (κ × Value)}{seen:List Nat}{p:κ × Value}(hc:C bm=some (bf enc m))(hj:m[j]?=some p)(hm:Ent.obj b (bZ bm m.length (seen++[j]))∈L)(hk:k=1)(hd:o.dst=some d)(hop:o.op=.entry x)(hg:gOf ds fr o.guard=some g)(hx:ev fr g x=some (.pointer (some ⟨b,0,none⟩)))
  (hp:aO n ds ((d,g,.tuple #[enc p.1,p.2])::fr) d=true) (hwf:wfG ds fr g=true)
  (h:D cx R its ((d,g,.tuple #[enc p.1,p.2])::fr) C L):D cx R ((i,k,o)::its) fr C L :=
 D.gH (by subst hk;rfl) hd hg hp hwf (fun _ a hs κ' hκ w hw=>by
  have hb:w.heap[b]?=some (bZ bm m.length (seen++[j])):=hw.sep.e _ ((hκ hk).2 _ hm);have hbm:w.heap[bm]?=some (bf enc m):=hw.sep.c _ _ ((hκ hk).1 _ _ hc);have hf:(bp enc m 0).toArray.find? (·.born == j)=some ⟨enc p.1,p.2,j⟩:=by
   rw [<- Array.find?_toList];refine find_born ⟨enc p.1,p.2,j⟩ _ (by simpa using ux enc m) ?_;refine ba (i:=j) ?_;simp [jM,hj]
  have hrun:(Instr.entry (.pointer (some ⟨b,0,none⟩))).run cx.P w=.ok (.tuple #[enc p.1,p.2]) w:=by
   have hg2:(getObj bm).run cx.P w=.ok (.map (bp enc m 0).toArray m.length) w:=Go.MapKept.run_getObj_map hbm;have hg1:(getObj b).run cx.P w=.ok (bZ bm m.length (seen++[j])) w:=by simp only [getObj,Sem.run,hb,bZ]
   unfold Instr.entry;simp only [Sem.run_bind,hg1,Result.andThen_ok,bZ];have hbk:(seen++[j]).toArray.back?=some j:=by simp
   simp only [hbk,hg2,Sem.run_bind,Result.andThen_ok,bne_self_eq_false,LG,LZ,hf,Sem.run_pure]
  have hex:(execOp a.eval o).run cx.P w=.ok (.value (.tuple #[enc p.1,p.2])) w:=by
   have e1:execOp a.eval o=(do Pure.pure (.value (<- Instr.entry (a.eval x))):Sem Next):=by unfold execOp;rw [hop]
   rw [e1,hs _ _ hx];simp only [Sem.run_bind,hrun,Result.andThen_ok,Sem.run_pure]
  unfold Oper.quietAt;rw [hex];exact ⟨Z,Z⟩) h
end
end Go.Jog
namespace Go.Jog
open Go Go.MapKept

def nC (p:Int × Int):Value:=.agg ⟨[.int .i64 p.1,.int .i64 p.2]⟩
theorem ru {P:Program}{kt e:TypeId}(hu:P.underlying kt=some (.array 2 e))(he:P.underlying e=some (.int .i64)){i:TypeInfo}(hi:P.info? e=some i)(hs:i.size=1)(p:Int × Int)(em:Bool)(w:World) :
  (Instr.checkKey em 10000 kt (nC p)).run P w=.ok () w:=by
 have hk:∀ z:Int,(Instr.checkKey em (9998+1) e (.int .i64 z)).run P w=.ok () w:=fun z=>run_checkKey he (by simp [IsKey]) em 9998;show (Instr.checkKey em (9999+1) kt (nC p)).run P w=_;unfold Instr.checkKey;simp only [Sem.run_bind,run_underlying hu,Result.andThen_ok,nC];have hpart:∀ (z:Int)(xs:Array Value)(j:Nat),xs[j]?=some (.int .i64 z)->(part e xs j).run P w=.ok (.int .i64 z) w:=fun z xs j h=>by
  unfold part;simp only [Sem.run_bind,eU he rfl w,Result.andThen_ok,LG,LZ,h,Sem.run_pure]
 have hsz:(sizeOf e).run P w=.ok 1 w:=by simp [sizeOf,typeInfo,hi,hs]
 have q0:=hpart p.1 ⟨[.int .i64 p.1,.int .i64 p.2]⟩ 0 rfl;have q1:=hpart p.2 ⟨[.int .i64 p.1,.int .i64 p.2]⟩ 1 rfl;rw [Std.Legacy.Range.forIn_eq_forIn_range'];simp [Std.Legacy.Range.size,List.range',hsz,q0,q1,hk]
theorem r8 {xs:List Value}(h:Instr.sameBits 10000 (.agg ⟨xs⟩) (.agg ⟨xs⟩)=true){P:Program}(w:World):(Instr.keyThatStays (.agg ⟨xs⟩) (.agg ⟨xs⟩)).run P w=.ok (.agg ⟨xs⟩) w:=by
 simp [Instr.keyThatStays,h]
theorem vE {P:Program}{kt:TypeId}(hw:(match P.underlying kt with | some (.array _ _) | some (.struct _)=>true | _=>false)=true)(x:Value)(es:List MapEntry)(w:World):(Instr.findKey kt x es).run P w=(Instr.findAsking kt x es).run P w:=run_findKey_eq w hw x es
def KC {P:Program}{kt e:TypeId}(hu:P.underlying kt=some (.array 2 e))(he:P.underlying e=some (.int .i64))(hi:(P.info? e).map (·.size)=some 1)(ht:uL P kt=true):KeyP P kt (Int × Int) where
 enc:=nC
 check p em w:=by
  obtain ⟨i,h1,h2⟩:=MB.1 hi;exact ru hu he h1 h2 p em w
 ask x es w:=vE (by rw [hu]) x es w
 same a b w:=by
  have h:=ye (P:=P) ht (xs:=[.int .i64 a.1,.int .i64 a.2]) (ys:=[.int .i64 b.1,.int .i64 b.2]) (by unfold KH;rw [hu];show (Nat.beq 2 2 && List.all _ (fun x=>o9 (P.underlying e) x))=true;rw [he];rfl) (b:=decide (a=b)) (by
   obtain ⟨a1,a2⟩:=a;obtain ⟨b1,b2⟩:=b;simp [ii,G6];by_cases h1:a1=b1 <;> by_cases h2:a2=b2 <;> simp [h1,h2]) w
  exact h
 stays a w:=r8 (by simp [Instr.sameBits]) w
def yM (p:List UInt8 × List UInt8):Value:=.agg ⟨[aA p.1,aA p.2]⟩
theorem rr {P : Program} {kt : TypeId} {f0 f1 : Field} (hu : P.underlying kt = some (.struct #[f0, f1])) (h0 : P.underlying f0.type = some .string) (h1 : P.underlying f1.type = some .string) (hn0 : f0.name ≠ "_") (hn1 : f1.name ≠ "_") (ho0 : f0.offset = 0) (ho1 : f1.offset = 1) (p : List UInt8 × List UInt8) (em : Bool) (w : World) :
  (Instr.checkKey em 10000 kt (yM p)).run P w=.ok () w:=by
 have hk:∀ (f:Field)(s:List UInt8),P.underlying f.type=some .string->(Instr.checkKey em (9998+1) f.type (aA s)).run P w=.ok () w:=fun f s h=>run_checkKey h (by simp [IsKey,aA]) em 9998;have hpart:∀ (f:Field)(s:List UInt8)(xs:Array Value)(j:Nat),P.underlying f.type=some .string->xs[j]?=some (aA s)->(part f.type xs j).run P w=.ok (aA s) w:=fun f s xs j hf h=>by
  unfold part;simp only [Sem.run_bind,eU hf rfl w,Result.andThen_ok,LG,LZ,h,Sem.run_pure]
 have q0:=hpart f0 p.1 ⟨[aA p.1,aA p.2]⟩ 0 h0 rfl;have q1:=hpart f1 p.2 ⟨[aA p.1,aA p.2]⟩ 1 h1 rfl;have k0:=hk f0 p.1 h0;have k1:=hk f1 p.2 h1;show (Instr.checkKey em (9999+1) kt (yM p)).run P w=_;unfold Instr.checkKey;simp only [Sem.run_bind,run_underlying hu,Result.andThen_ok,yM];simp [hn0,hn1,ho0,ho1,q0,q1,k0,k1]
def KB {P : Program} {kt : TypeId} {f0 f1 : Field} (hu : P.underlying kt = some (.struct #[f0, f1])) (h0 : P.underlying f0.type = some .string) (h1 : P.underlying f1.type = some .string) (hn0 : f0.name ≠ "_") (hn1 : f1.name ≠ "_") (ho0 : f0.offset = 0) (ho1 : f1.offset = 1) (ht : nt P kt = true) : KeyP P kt (List UInt8 × List UInt8) where
 enc:=yM
 check p em w:=rr hu h0 h1 hn0 hn1 ho0 ho1 p em w
 ask x es w:=vE (by rw [hu]) x es w
 same a b w:=by
  have h:=i7 (P:=P) ht (xs:=[aA a.1,aA a.2]) (ys:=[aA b.1,aA b.2]) (by unfold JI;rw [hu];show Fd P [f0,f1] _=true;unfold Fd;rw [h0];unfold Fd;rw [h1];rfl) (b:=decide (a=b)) (by
   obtain ⟨a1,a2⟩:=a;obtain ⟨b1,b2⟩:=b;simp [ii,G6,aA];by_cases h1:a1=b1 <;> by_cases h2:a2=b2 <;> simp [h1,h2]) w
  exact h
 stays a w:=r8 (by simp [Instr.sameBits,aA,Ah]) w
section
variable {cx:Cx} {n:Nat} {ds:List (Option Nat)} {R:Rg n ds} {its:List It} {fr:Fr} {C:Mem} {L:List Ent} {i k d:Nat} {o:Oper} {g:GL} {v:Value} {κ:Type} [DecidableEq κ]
theorem D.pM {t kt:Nat}(K:KeyP cx.P kt κ)(hk:Nat.ble k 1=false)(hd:o.dst=some d)(hg:gOn ds fr o.guard=true)(hop:o.op=.makeMap t none)(hp:∀ v,aO n ds ((d,[],v)::fr) d=true)
  (h:∀ b,D cx R its ((d,[],.map (some b))::fr) C (.obj b (bf K.enc [])::L)):D cx R ((i,k,o)::its) fr C L :=
 D.me (f:=fun b=>.map (some b)) (ob:=bf K.enc []) hk hd hg hp (fun a _ w=>by
  have e1:execOp a.eval o=(do Pure.pure (.value (<- Instr.makeMap t none)):Sem Next):=by unfold execOp;rw [hop];rfl
  rw [e1];rfl) h
end
end Go.Jog
namespace Go.Jog
open Go

section
variable {F:Fx} {k:List KI} {fr:Fr} {C:Mem} {L:List Ent}
theorem G.tP {cx:Cx}{fn:Func}{n:Nat}{W1:World}{C C':Mem}{L' LA:List Ent}{post:Value->Mem->List Ent->Prop}{W:Cw cx.P}{fr':Fr}{A:Fr->List Ent->Prop}(hs:Has fr fr')(h:A fr' LA) :
  G ⟨cx,fn,n,⟨W1,C,L'⟩,post,W,[],fun e a w'=>e=.normal/\∃ frA LA,A frA LA/\FrOk n [] [] frA a/\St W1 C L' C LA w'⟩ [] .normal fr C' LA:=fun hle _ _ ha hw =>
 ⟨rfl,fr',LA,h,ha.weaken hs.sub,St.less hw (Mem.le.refl _) hle⟩
end
end Go.Jog
namespace Go.Jog
open Go

section
variable {F:Fx} {k:List KI} {fr:Fr} {C:Mem} {L:List Ent}
def IAD (F:Fx)(I:List Deferred->Fr->Mem->List Ent->Nat->Prop)(C:Mem)(m:Nat)(a:Act)(w:World):Prop :=
 ∃ dd fr C' L',C.le C'/\I dd fr C' L' m/\FrOk F.n [] dd fr a/\F.b.cls (C',L') w
theorem G.Ih {c:Code}(I:List Deferred->Fr->Mem->List Ent->Nat->Prop){m:Nat}{fr':Fr}(hs:Has fr fr')(hI:I F.dd fr' C L m)
  (hr:∀ dd fr C' L' m,C.le C'->I dd fr C' L' m->G { F with dd:=dd } (eA 64 (.code c::.inv (fun a w=>∃ m',m'<m/\IAD F I C m' a w)::k)) .normal fr C' L'):G F (.code (.loop c)::k) .normal fr C L:=fun h0 a w ha hw=>by
 simp only [Kq];refine oz F.W (IAD F I C) ⟨F.dd,fr',C,L,Mem.le.refl _,hI,ha.weaken hs.sub,hw⟩ (fun m a w ⟨dd1,fr1,C1,L1,hle,hI1,ha1,hw1⟩=>?_);have h1:=G.bQ 64 (hr dd1 fr1 C1 L1 m hle hI1) (h0.trans hle) a w ha1 hw1;rw [tL] at h1;refine F.W.mono (fun e a w q=>?_) h1;cases e <;> exact q
theorem G.FS {dd:List Deferred}{I:List Deferred->Fr->Mem->List Ent->Nat->Prop}{C0:Mem}{m m':Nat}{fr':Fr}(hlt:m'<m)(hle:C0.le C)(hs:Has fr fr')(hI:I dd fr' C L m') :
  G { F with dd:=dd } (.inv (fun a w=>∃ m',m'<m/\IAD F I C0 m' a w)::k) .normal fr C L:=fun _ _a _w ha hw =>
 ⟨m',hlt,dd,fr',C,L,hle,hI,ha.weaken hs.sub,hw⟩
theorem G.tO {g:Operand}{p0 p1:Nat}{assign body:Code}{gf:FuncId}{lb:Array Value}{vss:List (Value × Value)}(hW:F.W=Cw.plain F.cx.P)
  (hg:ev fr [] g=some (.func (.func gf) #[] lb)) (hen:Enters F.cx.P gf=true) (hseq:Kk F.cx.P gf lb C vss) (I:Nat->List Ent->Prop) (h0:I 0 L) (_hp:fr.all (fun x=>x.2.1.isEmpty)=true)
  (hok:∀ u v,(aO F.n [] ((p0,[],u)::fr) p0 && aO F.n [] ((p1,[],v)::(p0,[],u)::fr) p1)=true) (A:Nat->List Ent->Fr->List Ent->Prop)
  (hassign:∀ l j u v L' W1,I j L'->vss[j]?=some (u,v)->G ⟨F.cx,F.fn,F.n,⟨W1,C,L'⟩,F.post,Cw.round F.cx.P l 1,[],fun e a w'=>e=.normal/\∃ frA LA,A j L' frA LA/\FrOk F.n [] [] frA a/\St W1 C L' C LA w'⟩ (eA 64 [.code assign]) .normal ((p1,[],v)::(p0,[],u)::fr) C L')
  (hbody:∀ l j u v L' frA LA W1,I j L'->vss[j]?=some (u,v)->A j L' frA LA ->
   G ⟨F.cx,F.fn,F.n,⟨W1,C,LA⟩,F.post,Cw.round F.cx.P l 1,[],fun e _ w'=>e=.normal/\∃ L1,I (j+1) L1/\St W1 C LA C L1 w'⟩ (eA 64 [.code body]) .normal frA C LA)
  (hdone:∀ D L',I vss.length L'->G { F with dd:={ target:=.collected D,args:=#[] }::F.dd } (eA 64 k) .normal fr C (.obj D (.deferred (some []))::L')) :
  G F (.code (.rangeFunc g #[p0,p1] assign body)::k) .normal fr C L:=fun hle a w ha hw=>by
 simp only [Kq,hW];show (Code.rangeFunc g #[p0,p1] assign body).wp F.cx.P (Kq F k) a w;refine (wpIn_wide (n:=3)).1 (wpIn_rangeFunc fun fn _=>?_);have hga:a.eval g=.func (.func gf) #[] lb:=bd ha (fun p hp=>by cases hp) hg;obtain ⟨rec,hrec⟩:∃ rec:LoopState->Loop,rec=fun st=>{ state:=st,pending:=none,fn,tmps:=a.tmps,params:=#[p0,p1],assign,body,defers:=w.heap.size }:=⟨_,rfl⟩;obtain ⟨W1,hW1⟩:∃ W1,(w.alloc (.deferred (some []))).alloc (.loop (rec .ready))=W1:=⟨_,rfl⟩;have hS1:St F.b.w0 F.b.C0 F.b.L0 C (.obj (w.heap.size+1) (.loop (rec .ready))::.obj w.heap.size (.deferred (some []))::L) W1:=by
  have:=St.alloc (St.alloc hw (.deferred (some []))) (.loop (rec .ready));rw [World.size_alloc] at this;rw [<- hW1];exact this
 refine ⟨w.heap.size+1,[{ target:=.collected w.heap.size,args:=#[] }],W1,{ target:=.fn (.func gf) lb,args:=#[.func (.yield (w.heap.size+1)) #[] #[]] },W1,gf,
  #[.func (.yield (w.heap.size+1)) #[] #[]]++lb,W1, ?_, ?_,fun _ _=>trivial, ?_,fun _=>by decide, ?_⟩
 ·rw [<- hW1,hrec];exact run_enterLoop_outer _ _ _ _ _
 ·simp only [resolve,hga];simp [go_sem]
 ·simp [invoke,go_sem,fl hen]
 ·refine (hseq (w.heap.size+1) (fun j W=>∃ L',I j L'/\St F.b.w0 F.b.C0 F.b.L0 C (.obj (w.heap.size+1) (.loop (rec .ready))::.obj w.heap.size (.deferred (some []))::L') W) W1
   (fun j W ⟨L',_,hs⟩=>hs.sep.c) (fun j W ⟨L',hi,hs⟩=>⟨L',hi,hs.drew⟩) ?_ ⟨L,h0,hS1⟩).mono ?_
  ·rintro j ⟨u,v⟩ W ⟨L',hi,hs⟩ hj;have hl:W.heap[w.heap.size+1]?=some (.loop (rec .ready)):=hs.sep.e _ (br ..);have hy:=run_yield (P:=F.cx.P) (args:=#[u,v]) hl (by rw [hrec];rfl);rw [hrec] at hy;have hz:(#[p0,p1].zip #[u,v]).foldl (fun tmps (x:Nat × Value)=>match x with | (t,a)=>tmps.setIfInBounds t a) a.tmps=(a.tmps.setIfInBounds p0 u).setIfInBounds p1 v:=by simp
   dsimp only at hy;rw [hz] at hy;refine ⟨fn,_,assign,body,hy,roundIn_of_wpIn trivial ?_⟩;have hfr:FrOk F.n [] [] ((p1,[],v)::(p0,[],u)::fr) { tmps:=(a.tmps.setIfInBounds p0 u).setIfInBounds p1 v,defers:=[] }:=by
    have hk:=hok u v;rw [bL] at hk;have h1:=FrOk.put (u:=u) (FrOk.mk (dd:=F.dd) ha.size ha.defers ha.ent:FrOk F.n [] F.dd fr a) hk.1 ⟨fun _=>rfl,fun hn=>absurd (fun p hp=>by cases hp) hn⟩;have h2:=FrOk.put (u:=v) h1 hk.2 ⟨fun _=>rfl,fun hn=>absurd (fun p hp=>by cases hp) hn⟩;exact ⟨h2.size,Z,h2.ent⟩
   have hA:=G.pJ (hassign (w.heap.size+1) j u v L' W hi hj) (Mem.le.refl _) hfr (St.start hs.drop.drop.sep);refine wpIn_mono hA (fun e a1 W2 q=>?_);obtain ⟨rfl,frA,LA,hAA,hfr1,hs1⟩:=q;have hs2a:=St.call (Lp:=L') (Lr:=[.obj (w.heap.size+1) (.loop (rec .ready)),.obj w.heap.size (.deferred (some []))]) (St.perm hs (Lv (l₁:=[_,_]))) hs1;have hs2:St F.b.w0 F.b.C0 F.b.L0 C (.obj (w.heap.size+1) (.loop (rec .ready))::.obj w.heap.size (.deferred (some []))::LA) W2:=St.perm hs2a (Lv (l₂:=[_,_]));have hl2:W2.heap[w.heap.size+1]?=some (.loop (rec .ready)):=hs2.sep.e _ (br ..);refine ⟨_,run_beginRound hl2 (by rw [hrec]), ?_⟩;have hs3:St F.b.w0 F.b.C0 F.b.L0 C (.obj (w.heap.size+1) (.loop (rec .busy))::.obj w.heap.size (.deferred (some []))::LA) (W2.putObj (w.heap.size+1) (.loop { rec .ready with state:=.busy })):=by
    have:=St.putObj (o':=.loop { rec .ready with state:=.busy }) hs2;rw [hrec] at this ⊢;exact this
   have hB:=G.pJ (hbody (w.heap.size+1) j u v L' frA LA (W2.putObj (w.heap.size+1) (.loop { rec .ready with state:=.busy })) hi hj hAA) (Mem.le.refl _) hfr1 (St.start hs3.drop.drop.sep);refine wpIn_mono hB (fun e a2 W4 q=>?_);obtain ⟨rfl,L1,hi1,hs4⟩:=q;have hs5:=St.call (Lp:=LA) (Lr:=[.obj (w.heap.size+1) (.loop (rec .busy)),.obj w.heap.size (.deferred (some []))]) (St.perm hs3 (Lv (l₁:=[_,_]))) hs4;have hs6:St F.b.w0 F.b.C0 F.b.L0 C (.obj (w.heap.size+1) (.loop (rec .busy))::.obj w.heap.size (.deferred (some []))::L1) W4:=St.perm hs5 (Lv (l₂:=[_,_]));have hl4:W4.heap[w.heap.size+1]?=some (.loop (rec .busy)):=hs6.sep.e _ (br ..);refine ⟨_,_,run_endRound none hl4,Z,L1,hi1, ?_⟩;have:=St.putObj (o':=.loop { rec .busy with state:=if (none:Option Code).isNone then .ready else .done,pending:=none }) hs6;rw [hrec] at this ⊢;exact this
  ·rintro e W2 ⟨⟨v,rfl⟩,L',hi,hs⟩;have hl:W2.heap[w.heap.size+1]?=some (.loop (rec .ready)):=hs.sep.e _ (br ..);refine ⟨none,_,by have:=run_endLoop (P:=F.cx.P) hl (by rw [hrec];simp);rw [hrec] at this;exact this, ?_⟩;have hs2:St F.b.w0 F.b.C0 F.b.L0 C (.obj w.heap.size (.deferred (some []))::L') (W2.putObj (w.heap.size+1) (.loop { rec .ready with state:=.exhausted })):=(St.putObj hs).drop;have:=G.bQ 64 (hdone w.heap.size L' hi) hle { a with defers:=[{ target:=.collected w.heap.size,args:=#[] }]++a.defers } _ ⟨ha.size,by rw [ha.defers];rfl,ha.ent⟩ hs2;rw [tL] at this;rw [hrec] at this;exact this

theorem Jh {cx:Cx}{fn:Func}{n s t b u t2 b2:Nat}{fr:Fr}{C:Mem}{L:List Ent}{dd:List Deferred}{w0:World}{C0:Mem}{L0:List Ent}{tb tb2:TypeId}{fz fz2:Nat × Nat}{cs cs2:List Value}{ti ti2:TI}{y z:Value}(hm:Ent.obj b (.cells ⟨cs⟩ tb fz)∈L)(hm2:Ent.obj b2 (.cells ⟨cs2⟩ tb2 fz2)∈L)(hres:fn.results=#[.cell s t,.cell u t2])
  (hs:ev fr [] (.tmp s)=some (.pointer (some ⟨b,0,none⟩))) (hu:ev fr [] (.tmp u)=some (.pointer (some ⟨b2,0,none⟩))) (ht:cx.T.get t=some ti) (hv:bR ti (cs.take ti.size)=some y) (ht2:cx.T.get t2=some ti2) (hv2:bR ti2 (cs2.take ti2.size)=some z) :
  ∀ a w,FrOk n [] dd fr a->St w0 C0 L0 C L w->(results fn a.tmps).run cx.P w=.ok (.tuple #[y,z]) w:=fun a w ha hw=>by
 have hs':=bd ha (fun p hp=>by cases hp) hs;have hu':=bd ha (fun p hp=>by cases hp) hu;simp only [Act.eval] at hs' hu';have hl:=ed (F:=⟨cx,fn,n,⟨w0,C0,L0⟩,fun _ _ _=>True,Cw.plain cx.P,dd,fun _ _ _=>True⟩) ht (hw.sep.e _ hm) hv;have hl2:=ed (F:=⟨cx,fn,n,⟨w0,C0,L0⟩,fun _ _ _=>True,Cw.plain cx.P,dd,fun _ _ _=>True⟩) ht2 (hw.sep.e _ hm2) hv2;simp only [Le] at hs' hu';simp [results,hres,hs',hu',asAddr,hl,hl2]
def uU (D:Nat):Deferred:={ target:=.collected D,args:=#[] }
def nJ (D:Nat):Ent:=.obj D (.deferred (some []))
theorem G.Ij {cx:Cx}{fn:Func}{n:Nat}{Ds:List Nat}{b:Bs}{post:Value->Mem->List Ent->Prop}{v:Value}
  (hr:∀ a w,FrOk n [] (Ds.map uU) fr a->St b.w0 b.C0 b.L0 C L w->(results fn a.tmps).run cx.P w=.ok v w) (h:post v C []) (hne:Ds≠[]) :
  G ⟨cx,fn,n,b,post,Cw.plain cx.P,Ds.map uU,bodyPostM Fence.wide 3 cx.P fn (lD b post)⟩ [] .ret fr C (Ds.map nJ++L):=fun hle a w ha hw=>by
 show LeavesInM _ _ _ _ _ _ a.defers _ _;have ha':=ha;rw [ha.defers];have key:∀ (Es:List Nat)(w:World),Es≠[]->St b.w0 b.C0 b.L0 C (Es.map nJ++L) w->LeavesInM Fence.wide 3 cx.P fn a.tmps (lD b post) (Es.map uU) .returning w:=by
  intro Es;induction Es with
  | nil=>exact fun _ h0=>absurd rfl h0
  | cons D Es ih =>
   intro w _ hw;have hD:w.heap[D]?=some (.deferred (some [])):=hw.sep.e _ (br ..);have hs:=(St.putObj (o':=.deferred none) hw).drop;cases Es with
   | nil=>exact ⟨by simp,.inl ⟨D,_,rfl,run_takeDeferred hD,v,hr a _ ha' hs,v,C,[],rfl,St.dropAll hs,h⟩⟩
   | cons E Es=>exact ⟨by simp,.inl ⟨D,_,rfl,run_takeDeferred hD,ih _ (by simp) hs⟩⟩
 exact key Ds w hne hw
end
end Go.Jog
namespace Go.Proofs.YtgfiffppookakaaGreatDoor
open Go Go.Jog
set_option maxRecDepth 100000

def mC (t:Tri)(k:Nat):Int × Int:=(zU t k,zU t ((k+1) % 3))
abbrev IJ:=List ((Int × Int) × Value)
def zy (m:IJ)(i:Nat)(t:Tri):Nat->IJ
 | 0=>m
 | k+1=>fo (zy m i t k) (mC t k) (.int .i64 (i:Nat))
def tV (tris:List Tri):Nat->IJ
 | 0=>[]
 | n+1=>zy (tV tris n) n (tris.getD n (0,0,0)) 3
noncomputable def kI2:KeyP cx.P 161 (Int × Int):=KC rfl rfl rfl kr_
theorem Bi (C:Mem)(v1 v2:Value)(tris:List Tri)(h0:tris≠[])(h2:Sl C 3 v2 (tris.map lE))(hd:∀ i t k,tris[i]?=some t->k<3->dS (zy (tV tris i) i t k) (mC t k)=none) :
  Pur cx.P 120 [.agg ⟨[v1,v2]⟩] C fun u D=>∃ b,u=.tuple #[.map (some b),.bool true]/\D b=some (bf nC (tV tris tris.length)):=by
 obtain ⟨A2,c2,rfl,hq3,hq4,_⟩:=id h2;have hmx:maxLen<=9223372036854775807:=by simp [maxLen]
 simp only [aH] at h2 hq3 ⊢;refine Fn.introM kr_ Tryz.func120 Z 36 Z Z (fun w0=>?_);refine G.rg fun R hR=>?_;refine D.aD (fun b1=>?_);refine D.ai (fun b2=>?_);refine D.ai (fun b3=>?_);refine D.e3 1 2 3 hR ?_;refine G.rg fun R hR=>?_;refine D.pM kI2 Z Z Z Z fl_ (fun b11=>?_);refine D.ai (fun b4=>?_);refine D.ae (j:=0) ?_;refine D.e4 1 2 3 4 hR ?_;refine G.rp 1 fun R hR=>?_;refine D.af (.tail _ (.tail _ (.tail _ (.tail _ (.head _))))) ?_;refine D.q6 2 2 3 4 13 14 15 hR ?_;refine G.perm (L':=[.obj b4 (.cells ⟨[.map (some b11)]⟩ 253 (0,0)),.obj b11 (bf nC []),.obj b3 (.cells ⟨[.bool false]⟩ 4 (0,0)),.obj b2 (.cells ⟨[.map none]⟩ 253 (0,0)),.obj b1 (.cells ⟨[v1,.slice A2 tris.length c2]⟩ 37 (0,0))]) (il _) ?_;refine G.Ih (fun dd fr C' L' μ=>∃ (i:Nat)(Ds:List Nat),(i<=tris.length/\Ds.length=i)/\dd=Ds.map uU/\fr=[(2,[],.pointer (some ⟨b2,0,none⟩)),(3,[],.pointer (some ⟨b3,0,none⟩)),(4,[],.pointer (some ⟨b4,0,none⟩)),(13,[],.slice A2 tris.length c2),(14,[],.int .i64 tris.length),(15,[],.int .i64 i)]/\L'=[.obj b4 (.cells ⟨[.map (some b11)]⟩ 253 (0,0)),.obj b11 (bf nC (tV tris i)),.obj b3 (.cells ⟨[.bool false]⟩ 4 (0,0)),.obj b2 (.cells ⟨[.map none]⟩ 253 (0,0)),.obj b1 (.cells ⟨[v1,.slice A2 tris.length c2]⟩ 37 (0,0))]++Ds.map nJ/\μ=tris.length-i) (h_6 2 3 4 13 14 15) ⟨0,[],⟨ch _,Z⟩,Z,Z,Z,Z⟩ (fun dd fr C0' L0' m _ hI=>?_);obtain ⟨i,Ds,⟨hi,hDs⟩,rfl,rfl,rfl,rfl⟩:=hI;refine G.z7 1 2 3 4 13 14 15 16 ?_;refine G.cd (fun h16=>?_) fun h16=>?_
 ·have hil:i<tris.length:=by simpa using h16
  obtain ⟨t,ht⟩:∃ t,tris[i]?=some t:=⟨tris[i],aq hil⟩;refine G.rp 1 fun R hR=>?_;refine D.ak h2.m_ U10 om_ (by rw [bX,ht];rfl:(tris.map lE)[i]?=some (lE t)) fl_ (fun p18 hp18=>?_);refine D.aa hp18 ?_;refine D.ai (fun b5=>?_);refine D.ai (fun b6=>?_);refine D.ae (j:=1) ?_;refine D.ae (j:=1) ?_;refine D.e8 2 3 4 5 6 13 14 15 hR ?_;refine G.rg fun R hR=>?_;refine D.af (.head _) ?_;refine D.az (El _ t) (fun v21 _ _ hq21=>?_);refine D.e8 2 3 4 5 13 14 15 21 hR ?_;obtain ⟨bb,rfl,hbb⟩:=hq21;refine G.tO Z Z kr_ (xZ _ bb _ t hbb) (fun j L'=>∃ (z:Unit),(j<=3)/\L'=[.obj b6 (.cells ⟨lE t⟩ 178 (0,0)),.obj b5 (.cells ⟨[.int .i64 i]⟩ 3 (0,0)),.obj b4 (.cells ⟨[.map (some b11)]⟩ 253 (0,0)),.obj b11 (bf nC (zy (tV tris i) i t j)),.obj b3 (.cells ⟨[.bool false]⟩ 4 (0,0)),.obj b2 (.cells ⟨[.map none]⟩ 253 (0,0)),.obj b1 (.cells ⟨[v1,.slice A2 tris.length c2]⟩ 37 (0,0))]++Ds.map nJ) ⟨(),ch _,Z⟩ Z (fun _ _=>rfl) (fun j L' fr LA=>∃ (b8:Nat),fr=[(2,[],.pointer (some ⟨b2,0,none⟩)),(3,[],.pointer (some ⟨b3,0,none⟩)),(4,[],.pointer (some ⟨b4,0,none⟩)),(5,[],.pointer (some ⟨b5,0,none⟩)),(8,[],.pointer (some ⟨b8,0,none⟩))]/\LA=.obj b8 (.cells ⟨[.int .i64 (mC t j).1,.int .i64 (mC t j).2]⟩ 161 (0,0))::L') (fun l j u v L' W1 hI hj=>?_) (fun l j u v L' frA LA W1 hI hj hA=>?_) (fun bD L' hI=>?_)
  ·obtain ⟨z,hj3,rfl⟩:=hI;have hjl:j<3:=by have:=(aJ.1 hj).1;rwa [kA] at this
   rw [sj hjl] at hj;cases hj
   refine G.rg fun R hR=>?_;refine D.ai (fun b8=>?_);refine D.ae (j:=0) ?_;refine D.e5 2 3 4 5 8 hR ?_;exact G.tP (h_5 2 3 4 5 8) ⟨b8,Z,Z⟩
  ·obtain ⟨z,hj3,rfl⟩:=hI;obtain ⟨b8,rfl,rfl⟩:=hA;have hjl:j<3:=by have:=(aJ.1 hj).1;rwa [kA] at this
   refine G.rg fun R hR=>?_;refine D.af (.tail _ (.tail _ (.tail _ (.head _)))) ?_;refine D.af (.head _) ?_;refine D.pN kI2 (.tail _ (.tail _ (.tail _ (.tail _ (.head _))))) Z Z Z Z Z Z Z Z Z (congrArg (iM _ true) (hd i t j ht hjl)) Z Z ?_;refine D.q6 5 2 3 4 5 8 10 hR ?_;refine G.z6 1 2 3 4 5 8 30 ?_;refine G.cd (fun h30=>?_) fun h30=>?_
   ·exact absurd h30 dc_
   ·refine G.rg fun R hR=>?_;refine D.af (.tail _ (.tail _ (.tail _ (.head _)))) ?_;refine D.af (.head _) ?_;refine D.af (.tail _ (.tail _ (.head _))) ?_;refine D.lB kI2 (j:=4) Z Z Z Z Z Z Z Z Z Z ?_;refine D.bA [] trivial (hR _ _ _ Z ?_);refine G.eF 1 Z ?_;exact G.kZ (R:=fun L'=>∃ (z:Unit),((j+1)<=3)/\L'=[.obj b6 (.cells ⟨lE t⟩ 178 (0,0)),.obj b5 (.cells ⟨[.int .i64 i]⟩ 3 (0,0)),.obj b4 (.cells ⟨[.map (some b11)]⟩ 253 (0,0)),.obj b11 (bf nC (zy (tV tris i) i t (j+1))),.obj b3 (.cells ⟨[.bool false]⟩ 4 (0,0)),.obj b2 (.cells ⟨[.map none]⟩ 253 (0,0)),.obj b1 (.cells ⟨[v1,.slice A2 tris.length c2]⟩ 37 (0,0))]++Ds.map nJ) (List.perm_middle (l₁:=[_,_,_])).symm ⟨(),om_,Z⟩
  ·obtain ⟨z,hj3,rfl⟩:=hI;refine G.rg fun R hR=>?_;refine D.ar _ ?_;refine D.q6 1 2 3 4 13 14 15 hR ?_;refine G.eF 1 Z ?_;refine G.eF 1 Z ?_;refine G.perm (L':=[.obj b4 (.cells ⟨[.map (some b11)]⟩ 253 (0,0)),.obj b11 (bf nC (tV tris (i+1))),.obj b3 (.cells ⟨[.bool false]⟩ 4 (0,0)),.obj b2 (.cells ⟨[.map none]⟩ 253 (0,0)),.obj b1 (.cells ⟨[v1,.slice A2 tris.length c2]⟩ 37 (0,0))]++(bD::Ds).map nJ) (by
    rw [show tV tris (i+1)=zy (tV tris i) i t (sk t).length by rw [kA,tV,aF,ht];rfl];exact (List.perm_middle (l₁:=[_,_,_,_,_])).symm) ?_
   refine G.FS (m':=tris.length-(i+1)) om_ mup (h_6 2 3 4 13 14 15) ⟨i+1,bD::Ds,⟨by omega,by simp [hDs]⟩,Z,Z,Z,Z⟩
 ·have hil:i=tris.length:=by
   have:¬ i<tris.length:=by simpa using h16
   omega
  refine G.rg fun R hR=>?_;refine D.af (.head _) ?_;refine D.ae (j:=3) ?_;refine D.ae (j:=3) ?_;refine D.e2 2 3 hR ?_;refine G.freeze 3 Z (fun Cf hlef hbf=>?_);refine G.perm (L':=Ds.map nJ++[_,_,_,_]) (Lv (l₁:=[_,_,_,_])) ?_;refine G.aB (G.Ij (Jh (.tail _ (.head _)) (.head _) Z Z Z Z Z Z Z) ?_ ?_)
  ·exact ⟨Z,b11,Z,by rw [<- hil];exact hbf⟩
  ·intro e;rw [e] at hDs;have:=K6.2 h0;simp at hDs;omega

theorem Fg (z:Int):iV z 1=(z:Rat):=by
 unfold iV;rw [a7 dc_,show (1:Int).natAbs=1 from rfl];exact (Rat.mkRat_one z)


def F6 (kd a b:Int)(h:Bool):Value:=.agg ⟨[.int .u8 kd,.int .i8 a,.int .i8 b,.bool h]⟩
def jo (h:Bool):Int:=if h then 2 else 1
def lk (a b:Int)(h:Bool)(x y by':Int):Pt:=(iV (x+a.tmod 8*by') (jo h*by'),iV (y+b.tmod 8*by') (jo h*by'))
theorem zW (a:Int):-8<a.tmod 8/\a.tmod 8<8:=by
 have h:(a.tmod 8).natAbs=a.natAbs % 8:=M7 a 8;omega
theorem wk (C:Mem)(hT:Tabs C)(kd a b:Int)(h:Bool)(x y n:Int)(hn:0<n)(hn4:n<=4)(hx:-128<=x/\x<=127)(hy:-128<=y/\y<=127) :
  Gives cx.P 18 [F6 kd a b h,.agg ⟨[.int .i8 x,.int .i8 y]⟩,.int .i64 n] C (ptV (lk a b h x y n)):=by
 have ha:=zW a;have hb:=zW b;have hprod:∀ z:Int, -8<z->z<8->-32<z*n/\z*n<32:=fun z h1 h2=>by
  rcases (by omega:n=1∨n=2∨n=3∨n=4) with e | e | e | e <;> subst e <;> omega
 have hpa:=hprod _ ha.1 ha.2;have hpb:=hprod _ hb.1 hb.2;have hh:jo h=1∨jo h=2:=by cases h <;> simp [jo]
 have hd:0<jo h*n/\jo h*n<=8:=by rcases hh with e | e <;> rw [e] <;> omega
 refine Fn.it kr_ Tryz.func18 53 fun w0=>?_;refine G.rg fun R hR=>?_;refine D.aD (fun b3=>?_);refine D.aD (fun b4=>?_);refine D.ai (fun b6=>?_);refine D.e4 2 3 4 6 hR ?_;refine G.z5 1 2 3 4 6 7 ?_;refine G.rp 1 fun R hR=>?_;refine D.af (.tail _ (.tail _ (.head _))) ?_;refine D.e6 2 3 4 6 7 13 hR ?_;refine G.cut (fun fr C' L' μ=>(True)/\fr=[(2,[],.int .i64 n),(3,[],.pointer (some ⟨b3,0,none⟩)),(4,[],.pointer (some ⟨b4,0,none⟩)),(6,[],.pointer (some ⟨b6,0,none⟩)),(7,[],.int .i64 (jo h))]/\L'=[.obj b6 (.cells ⟨[aA [],aA []]⟩ 97 (0,0)),.obj b4 (.cells ⟨[.int .i8 x,.int .i8 y]⟩ 23 (0,0)),.obj b3 (.cells ⟨[.int .u8 kd,.int .i8 a,.int .i8 b,.bool h]⟩ 25 (0,0))]) ?_ (fun fr _ L13 μ _ hI=>?_)
 ·refine G.cd (fun h13=>?_) fun h13=>?_
  ·have h1:h=true:=h13;subst h1;refine G.z5 1 2 3 4 6 7 ?_;refine G.aK 0 (Mem.le.refl _) (h_5 2 3 4 6 7) ⟨trivial,Z,Z⟩
  ·have h1:h=false:=by simpa using h13
   subst h1;refine G.aK 0 (Mem.le.refl _) (h_5 2 3 4 6 7) ⟨trivial,Z,Z⟩
 ·obtain ⟨_,rfl,rfl⟩:=hI;refine G.rg fun R hR=>?_;refine D.aE (0) U9 (fun _=>⟨by decide,by decide,Z⟩) U2 ?_;refine D.af (.tail _ (.head _)) ?_;refine D.bT (c:=x) U8 (wrap_i64 om_ om_) fl_ ?_;refine D.ac ?_;refine D.aE (1) U9 (fun _=>⟨by decide,by decide,Z⟩) U2 ?_;refine D.af (.tail _ (.tail _ (.head _))) ?_;refine D.dg (a.tmod 8) U6 dc_ U3 ?_;refine D.bT (c:=a.tmod 8) U8 (wrap_i64 om_ om_) fl_ ?_;refine D.ac ?_;refine D.ar _ ?_;refine D.ar _ ?_;refine D.ps 2 ?_;refine D.ar _ ?_;refine D.aj (F8 _ hT.m_ (x+a.tmod 8*n) (jo h*n) om_ om_ om_) U7 fl_ ?_;refine D.q6 5 2 3 4 6 7 8 hR ?_;refine G.rg fun R hR=>?_;refine D.aE (1) U9 (fun _=>⟨by decide,by decide,Z⟩) U2 ?_;refine D.af (.tail _ (.head _)) ?_;refine D.bT (c:=y) U8 (wrap_i64 om_ om_) fl_ ?_;refine D.ac ?_;refine D.aE (2) U9 (fun _=>⟨by decide,by decide,Z⟩) U2 ?_;refine D.af (.tail _ (.tail _ (.head _))) ?_;refine D.dg (b.tmod 8) U6 dc_ U3 ?_;refine D.bT (c:=b.tmod 8) U8 (wrap_i64 om_ om_) fl_ ?_;refine D.ac ?_;refine D.ar _ ?_;refine D.ar _ ?_;refine D.ps 2 ?_;refine D.ar _ ?_;refine D.aj (F8 _ hT.m_ (y+b.tmod 8*n) (jo h*n) om_ om_ om_) U7 fl_ ?_;refine D.q3 5 6 8 10 hR ?_;refine G.rp 2 fun R hR=>?_;refine D.ap (kR (lk a b h x y n)) ?_;refine D.ae (j:=0) ?_;refine D.e1 6 hR ?_;refine G.aB (G.aR (.head _) U4 ?_);exact ⟨Z,Z⟩

end Go.Proofs.YtgfiffppookakaaGreatDoor
namespace Go.Jog
open Go Go.MapKept

section
variable {cx:Cx} {n:Nat} {ds:List (Option Nat)} {R:Rg n ds} {its:List It} {fr:Fr} {C:Mem} {L:List Ent} {i k d:Nat} {o:Oper} {g:GL} {v:Value}
variable {κ:Type} (enc:κ->Value)

theorem yd {P:Program}{T:Tab}(hT:mr P T=true){t kt et:Nat}{ti:TI}(ht:T.get t=some ti)(htk:ti.k=.map kt et){a:Act}{o:Oper}{x:Operand}{b:Nat}{m:List (κ × Value)}(hop:o.op=.call ⟨.builtin .len,#[x],#[t]⟩)(hx:a.eval x=.map (some b)){w:World}(hb:w.heap[b]?=some (bf enc m)) :
  (execOp a.eval o).run P w=.ok (.value (.int .i64 (m.length:Nat))) w:=by
 have hu:=fX hT ht htk;have e1:execOp a.eval o=(do let dd <- resolve a.eval ⟨.builtin .len,#[x],#[t]⟩ o.type;invoke dd.target dd.args:Sem Next):=by unfold execOp;rw [hop]
 have h1:(getObj b).run P w=.ok (.map ⟨bp enc m 0⟩ m.length) w:=Go.MapKept.run_getObj_map hb;have hc:(Builtin.len_ #[t] o.type #[.map (some b)]).run P w=.ok (.int .i64 (m.length:Nat)) w:=by
  simp [Builtin.len_,run_underlying hu,h1,lm,goInt]
 rw [e1];simp only [resolve,invoke,builtin,Sem.run_bind,Sem.run_pure,Result.andThen_ok,MZ,Li,M3,hx,hc]

theorem D.tQ {b t kt et:Nat}{x:Operand}{m:List (κ × Value)}{ti:TI}(hm:Ent.obj b (bf enc m)∈L)(hk:k=1)(hd:o.dst=some d)(hop:o.op=.call ⟨.builtin .len,#[x],#[t]⟩)(hg:gOf ds fr o.guard=some g)(hx:ev fr g x=some (.map (some b)))
  (ht:cx.T.get t=some ti) (htk:ti.k=.map kt et) (hp:aO n ds ((d,g,.int .i64 (m.length:Nat))::fr) d=true) (hwf:wfG ds fr g=true)
  (h:D cx R its ((d,g,.int .i64 (m.length:Nat))::fr) C L):D cx R ((i,k,o)::its) fr C L :=
 D.gH (by subst hk;rfl) hd hg hp hwf (fun _ a hs κ' hκ w hw=>by
  have hb:w.heap[b]?=some (bf enc m):=hw.sep.e _ ((hκ hk).2 _ hm);unfold Oper.quietAt;rw [yd enc cx.hT ht htk hop (hs _ _ hx) hb];exact ⟨Z,Z⟩) h
end
end Go.Jog
namespace Go.Jog
open Go Go.MapKept

def keyZ:KeyT (.int .i64) Int where
 enc z:=.int .i64 z
 isKey _:=rfl
 same a b:=by
  simp only [Instr.sameNow,Mb];congr 1
section
variable {κ β:Type} [DecidableEq κ]
theorem dp:∀ {m:List (κ × β)}{k:κ},dS m k=none ↔ k ∉ m.map (·.1)
 | [],k=>by simp [dS]
 | (k',v)::m,k=>by
  simp only [dS,Li,cI,not_or];by_cases h:k'=k
  ·simp [h]
  ·rw [a7 h,dp (m:=m)];exact ⟨fun h2=>⟨fun e=>h e.symm,h2⟩,fun h2=>h2.2⟩
theorem lT:∀ {m:List (κ × β)}{k:κ}{v:β},dS m k=none->fo m k v=m++[(k,v)]
 | [],k,v,_=>rfl
 | (k',v')::m,k,v,h=>by
  simp only [dS] at h;split at h
  ·cases h
  ·rename_i hne;simp only [fo,a7 hne,LM,lT h]
theorem iz:∀ {m:List (κ × β)}{k:κ}{v:β},dS m k=some v->(k,v)∈m
 | (k',v')::m,k,v,h=>by
  simp only [dS] at h;split at h
  ·rename_i e;cases h;subst e;exact br
  ·exact Ll _ (iz h)
theorem eW:∀ {m:List (κ × β)}{k:κ}{v:β},(m.map (·.1)).Nodup->(k,v)∈m->dS m k=some v
 | (k',v')::m,k,v,hn,h=>by
  simp only [Li,List.nodup_cons] at hn;rcases cI.1 h with h | h
  ·cases h;simp [dS]
  ·have:k'≠k:=fun e=>hn.1 (e ▸ Nf (f:=(·.1)) h);simp only [dS,a7 this];exact eW hn.2 h
theorem By {m m':List (κ × β)}(h:m.Perm m')(hn:(m.map (·.1)).Nodup)(k:κ):dS m k=dS m' k:=by
 have hn':(m'.map (·.1)).Nodup:=(h.map (·.1)).nodup_iff.1 hn;cases hg:dS m k with
 | some v=>exact (eW hn' (h.mem_iff.1 (iz hg))).symm
 | none =>
  cases hg':dS m' k with
  | none=>rfl
  | some v=>rw [eW hn (h.mem_iff.2 (iz hg'))] at hg;cases hg
end
abbrev gB:=Int × Int
def I5 (s:gB):gB:=(s.2,s.1)
def iO (ks:List gB)(s:gB):Bool:=!(decide (I5 s∈ks))
def qE (B:List gB):List (Int × Value):=B.map fun s=>(s.1,.int .i64 s.2)
theorem wv (B:List gB):(qE B).length=B.length:=by simp [qE]
theorem f5 (B:List gB)(p:Int):dS (qE B) p=(dS B p).map (.int .i64):=wB (fun z:Int=>Value.int .i64 z) B p
theorem wt {B:List gB}{p q:Int}(h:dS B p=none):fo (qE B) p (.int .i64 q)=qE (B++[(p,q)]):=by
 rw [lT (by rw [f5,h];rfl)];simp [qE]
def jO (B:List gB)(f:Int):Prop:=(B=[]/\f=-1)∨(0<=f/\f∈B.map (·.1)/\∀ s∈B,f<=s.1)
def Cp (B:List gB):Int:=B.foldl (fun f s=>if f<0∨s.1<f then s.1 else f) (-1)
theorem mZ {B:List gB}{f:Int}(h:jO B f)(s:gB)(hs:0<=s.1):jO (B++[s]) (if f<0∨s.1<f then s.1 else f):=by
 right;rcases h with ⟨rfl,rfl⟩ | ⟨h1,h2,h3⟩
 ·rw [bW (.inl dc_)];exact ⟨hs,by simp,by simp⟩
 ·by_cases hlt:s.1<f
  ·rw [bW (.inr hlt)];refine ⟨hs,by simp,fun t ht=>?_⟩;rcases Lh.1 ht with ht | ht
   ·have:=h3 t ht;omega
   ·rw [K5.1 ht];exact Int.le_refl _
  ·rw [a7 om_];refine ⟨h1,by rw [LC];exact M2 _ h2,fun t ht=>?_⟩;rcases Lh.1 ht with ht | ht
   ·exact h3 t ht
   ·rw [K5.1 ht];omega
theorem sR {B:List gB}(h:∀ s∈B,0<=s.1):jO B (Cp B):=by
 have key:∀ (B2 B1:List gB)(f:Int),(∀ s∈B2,0<=s.1)->jO B1 f->jO (B1++B2) (B2.foldl (fun f s=>if f<0∨s.1<f then s.1 else f) f):=by
  intro B2;induction B2 with
  | nil=>intro B1 f _ h;simpa using h
  | cons s B2 ih =>
   intro B1 f h1 h2;have:=ih (B1++[s]) _ (fun t ht=>h1 t (Ll _ ht)) (mZ h2 s (h1 s br));simpa using this
 exact key B [] (-1) h (.inl ⟨Z,Z⟩)
theorem uA {B B':List gB}{f f':Int}(hp:B.Perm B')(h:jO B f)(h':jO B' f'):f=f':=by
 rcases h with ⟨rfl,rfl⟩ | ⟨h1,h2,h3⟩
 ·rcases h' with ⟨_,rfl⟩ | ⟨_,h5,_⟩
  ·rfl
  ·rw [<- hp.nil_eq] at h5;simp at h5
 ·rcases h' with ⟨rfl,_⟩ | ⟨h4,h5,h6⟩
  ·rw [hp.eq_nil] at h2;simp at h2
  ·obtain ⟨s,hs,rfl⟩:=j5.1 h2;obtain ⟨t,ht,rfl⟩:=j5.1 h5;have a:=h3 t (hp.mem_iff.2 ht);have b:=h6 s (hp.mem_iff.1 hs);omega
def gC (B:List gB)(first:Int):Nat->Int->List Int->Option (List Int)
 | 0,_,out=>some out
 | k+1,p,out=>match dS B p with
  | none=>none
  | some q=>if p=first/\out≠[] then none else gC B first k q (out++[p])
theorem oA {B B':List gB}(hp:B.Perm B')(hn:(B.map (·.1)).Nodup)(first:Int):∀ (k:Nat)(p:Int)(out:List Int),gC B first k p out=gC B' first k p out
 | 0,_,_=>rfl
 | k+1,p,out=>by
  simp only [gC,By hp hn];cases dS B' p with
  | none=>rfl
  | some q=>simp only [oA hp hn first k]
def zz (ks:List gB):Option (List Int) :=
 if ((ks.filter (iO ks)).map (·.1)).Nodup then gC (ks.filter (iO ks)) (Cp (ks.filter (iO ks))) (ks.filter (iO ks)).length (Cp (ks.filter (iO ks))) [] else none
def sE (ks:List gB):List Int:=(zz ks).getD []
theorem yn {ks B:List gB}{s t:gB}(hB:(B++[s]).Nodup)(hsub:∀ x∈B++[s],x∈ks.filter (iO ks))(ht:t∈B)(he:t.1=s.1):zz ks=none:=by
 unfold zz;rw [a7];intro hn;have h1:=hsub s (by simp);have h2:=hsub t (by simp [ht]);have hne:t≠s:=by
  rintro rfl;rw [ME] at hB;exact hB.2.2 t ht t (by simp) Z
 have h3:=eW hn (k:=s.1) (v:=s.2) h1;have h4:=eW hn (k:=t.1) (v:=t.2) h2;rw [he,h3] at h4;exact hne (Prod.ext he (LJ h4).symm)
theorem EG {ks B:List gB}{f:Int}(hp:B.Perm (ks.filter (iO ks)))(hn:(B.map (·.1)).Nodup)(hk:∀ s∈ks,0<=s.1)(hf:jO B f):zz ks=gC B f B.length f []:=by
 unfold zz;rw [bW ((hp.map (·.1)).nodup_iff.1 hn),<- oA hp hn,<- hp.length_eq,<- uA hp hf (sR fun s hs=>hk s (N6.1 hs).1)]
theorem xS {B:List gB}{first:Int}{k:Nat}{p:Int}{out:List Int}(h:dS B p=none∨(p=first/\out≠[])):gC B first (k+1) p out=none:=by
 simp only [gC];rcases h with h | h
 ·rw [h]
 ·cases dS B p with
  | none=>rfl
  | some q=>simp [h]
theorem xR {B:List gB}{first:Int}{k:Nat}{p q:Int}{out:List Int}(h:dS B p=some q)(h2:¬ (p=first/\out≠[])):gC B first (k+1) p out=gC B first k q (out++[p]):=by
 simp only [gC,h];rw [a7 h2]
def eI (ks:List gB)(seen:List Nat):List gB:=(seen.map fun j=>ks.getD j (0,0)).filter (iO ks)
theorem AG {α:Type}{d:α}{seen:List Nat}{ks:List α}(hn:seen.Nodup)(hl:∀ j∈seen,j<ks.length)(hall:∀ j,j<ks.length->j∈seen):(seen.map fun j=>ks.getD j d).Perm ks:=by
 have hp:seen.Perm (List.range ks.length):=(List.perm_ext_iff_of_nodup hn List.nodup_range).2 (fun j=>by
  rw [Md];exact ⟨fun h=>hl j h,fun h=>hall j h⟩)
 refine (hp.map _).trans (List.Perm.of_eq ?_);refine List.ext_getElem? (fun i=>?_);rw [bX];rcases Ld i ks.length with h | h
 ·rw [MW h];simp [aF,aq h]
 ·rw [LF (by simpa using h),LF h];rfl
theorem ya {ks:List gB}{seen:List Nat}{j:Nat}{s:gB}(h:ks[j]?=some s):eI ks (seen++[j])=eI ks seen++if iO ks s then [s] else []:=by
 unfold eI;rw [LC,Od];congr 1;rw [Li,M3,aF,h,List.filter_cons];rfl
theorem AH {ks:List gB}{seen:List Nat}(hl:∀ j∈seen,j<ks.length):∀ x∈eI ks seen,x∈ks.filter (iO ks):=by
 intro x hx;rw [eI,N6] at hx;obtain ⟨j,hj,rfl⟩:=j5.1 hx.1;rw [N6];refine ⟨?_,hx.2⟩;rw [aF,aq (hl j hj)];exact Mv _
theorem ue {ks:List gB}(hk:ks.Nodup):∀ {seen:List Nat},seen.Nodup->(∀ j∈seen,j<ks.length)->(eI ks seen).Nodup:=by
 intro seen hn hl;unfold eI;refine List.Pairwise.filter _ ?_;rw [List.pairwise_map];refine List.Pairwise.imp_of_mem ?_ hn;intro a b ha hb hab e;rw [aF,aF,aq (hl a ha),aq (hl b hb)] at e;exact hab ((List.getElem_inj hk).1 e)
theorem PtrTo.blockT {C:Mem}{b:Nat}{cs:List Value}{t:TypeId}{fz:Nat × Nat}(h:C b=some (.cells ⟨cs⟩ t fz))(off n:Nat):PtrTo C (.pointer (some ⟨b,off,none⟩)) ((cs.drop off).take n) :=
 let ⟨a,h1,h2,h3⟩:=PtrTo.block h off
 ⟨a,h1,h2,fun j v hj=>h3 j v (by
  rw [Ly] at hj;split at hj
  ·exact hj
  ·cases hj)⟩
theorem bkT {C D:Mem}{b:Nat}{cs:List Value}{t:TypeId}{fz:Nat × Nat}(h:C b=some (.cells ⟨cs⟩ t fz))(n:Nat){off:Nat}(hl:C.le D:=by (repeat (first | exact Mem.le.refl _ | assumption | (apply Mem.le.trans;rotate_left;assumption)))):PtrTo D (.pointer (some ⟨b,off,none⟩)) ((cs.drop off).take n):=PtrTo.blockT (Mem.get h hl) off n
theorem mX (z:Value)(o:Option Value):iM z true o=.tuple #[o.getD z,.bool o.isSome]:=by cases o <;> rfl
section
variable {F:Fx} {k:List KI} {fr:Fr} {C:Mem} {L:List Ent}
theorem G.Ii {e:Exit}{v:Value}{t size len:Nat}{xs:List Value}(hm:Ent.arr v t size len xs∈L)(h:∀ A c,v=.slice A len c->xs.length=len*size->len<=c->c<=maxLen->G F k e fr C L):G F k e fr C L :=
 G.form hm fun hf hx=>by
  rcases hf with ⟨h1,h2⟩ | ⟨g,c,h1,h2,h3⟩
  ·exact h none 0 (by rw [h1,h2]) hx om_ (ch _)
  ·exact h _ c h1 hx h2 h3
end
end Go.Jog
