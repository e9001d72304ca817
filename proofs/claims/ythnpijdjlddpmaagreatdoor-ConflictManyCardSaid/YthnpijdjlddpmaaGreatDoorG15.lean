/- Laws that the proofs of this seat share, part 15. -/
import Derived.Test.YthnpijdjlddpmaaGreatDoorG14
import Derived.Test.YthnpijdjlddpmaaGreatDoorShelf
import Derived.Test.YthnpijdjlddpmaaGreatDoorCards
import Derived.Test.YthnpijdjlddpmaaGreatDoorTie
import Derived.Stop.LaidErr
import Derived.Lib.LaidTab
import Derived.Carry
import Derived.Deep.Strs
import Derived.Laws.IdiomArrays
set_option maxHeartbeats 4000000
namespace Go.Proofs.YthnpijdjlddpmaaGreatDoor
open Go Go.Jog
set_option maxRecDepth 100000
variable {vs:List Value}
theorem FR {C:Mem}{a:List (List Nat)}(h:OutL C vs a)(j:Nat):∃ A c,vs.getD j (.slice none 0 0)=.slice A (a.getD j []).length c/\Sl C 1 (.slice A (a.getD j []).length c) ((a.getD j []).map aU):=by
 by_cases b:j<vs.length
 ·have d:j<a.length:=by rw [<- h.1];exact b
  have h1:vs[j]?=some (vs.getD j (.slice none 0 0)):=by rw [ak,aj b];rfl
  have h2:a[j]?=some (a.getD j []):=by rw [ak,aj d];rfl
  have hs:=h.2 j _ _ h1 h2;obtain ⟨A,c,e,_⟩:=id hs;rw [ax] at e;rw [e] at hs;exact ⟨A,c,e,hs⟩
 ·have d:¬ j<a.length:=by rw [<- h.1];exact b
  refine ⟨none,0, ?_, ?_⟩
  ·rw [ak,LX om_,ak,LX om_];rfl
  ·rw [ak,LX om_];exact Sl.nil _ _
theorem Kf {k:Nat}{w:Value}(a:k<vs.length)(h:vs.getD k (.slice none 0 0)=w):(vs.map fun x=>[x])[k]?=some [w]:=by
 rw [LU,aj a];rw [ak,aj a] at h;cases h
 rfl
theorem xT {c:Nat}(a:c<256):([[.int .u8 (c:Int)]]:List (List Value))=(([UInt8.ofNat c]:Str).map fun b=>[.int .u8 b.toNat]):=by
 simp only [Mp,NQ,OY];rw [show c % 2 ^ 8=c by omega]
theorem Lz (C:Mem)(b:Tabs C)(a:Value)(k:Nat)(d:BookIn C a (mB k))(g:k<6∨10<k)(i:0<k)(f:k<=12) :
  Pur cx.P 20 [a] C fun u _=>∃ (A:Option Addr)(m c:Nat)(e:Int),u=.tuple #[.slice A m c,.int .i64 e]/\((10<k/\m=0/\e=4)∨(k<6/\e=0/\m=k*(k-1) / 2)):=by
 rcases g with h | h
 ·refine Fn.mono (KY C b a (mB k) pFs mR d (kZ k f) (by rw [eZ];exact h)) fun u D j _ ⟨h1,v,h2,h3⟩=>⟨h1, ?_⟩;rw [eZ,Dg h] at h3;obtain ⟨vs,l,hs⟩:=h3;obtain ⟨A,c,rfl,_⟩:=id hs;exact ⟨A,_,c,0,h2,.inr ⟨h,Z,by rw [ax,l.1,ax];exact (De k h i).1⟩⟩
 ·exact Fn.mono (JA C b a (mB k) pFs mR d (kZ k f) (by rw [eZ];exact h)) fun u D j _ ⟨h1,h2⟩=>⟨h2,none,0,0,4,h1,.inl ⟨h,Z,Z⟩⟩
theorem IM (C:Mem)(g:Tabs C)(f:Value)(k:Nat)(i:BookIn C f (mB k))(l:k<6∨10<k)(n:0<k)(j:k<=12) :
  Pur cx.P 21 [f] C fun u D=>∃ (A:Option Addr)(m c:Nat)(b:Bool)(e:Int),u=.tuple #[.slice A m c,.bool b,.int .i64 e]/\((10<k/\m=0/\b=false/\e=4)∨(k<6/\e=0/\b=decide (1<k)/\m<=2/\(1<k->Sl D 1 (.slice A m c) (([0,1]:List Nat).map aU)))):=by
 rcases l with h | h
 ·refine Fn.mono (oS C g f (mB k) pFs mR i (kZ k j) (by rw [eZ];exact h)) fun u D o _ ⟨h1,h2⟩=>⟨h1, ?_⟩;rw [eZ,Dg h] at h2;have a:=(De k h n).2.1;cases h2 with
  | none e =>
   rw [e] at a;have d:¬ 1<k:=fun h=>by rw [aI h] at a;cases a
   exact ⟨none,0,0,false,0,Z,.inr ⟨h,Z,(Mk d).symm,LV _,fun h=>absurd h d⟩⟩
  | some x v e hs =>
   rw [e] at a;by_cases d:1<k
   ·rw [aI d] at a;cases a
    have p:bY 3=[0,1]:=by decide +kernel
    rw [p] at hs;obtain ⟨A,c,rfl,_⟩:=id hs;exact ⟨A,_,c,true,0,Z,.inr ⟨h,Z,(Mc d).symm,LP _,fun _=>hs⟩⟩
   ·rw [aC d] at a;cases a
 ·exact Fn.mono (uZ C g f (mB k) pFs mR i (kZ k j) (by rw [eZ];exact h)) fun u D o _ ⟨h1,h2⟩=>⟨h2,none,0,0,false,4,h1,.inl ⟨h,Z,Z,Z⟩⟩
theorem Df (C:Mem)(b:Tabs C)(a:Value)(k:Nat)(d:BookIn C a (mB k))(i:k<6∨10<k)(j:0<k)(f:k<=12) :
  Pur cx.P 13 [a] C fun u D=>∃ (A:Option Addr)(m c:Nat)(e:Int),u=.tuple #[.slice A m c,.int .i64 e]/\((10<k/\m=0/\e=4)∨(k<6/\e=0/\m=k/\∃ outs:List (List Nat),outs.length=k/\(∀ x∈outs,x.length=k-1)/\OutsIn D (.slice A m c) outs)):=by
 rcases i with h | h
 ·refine Fn.mono (qS C b a (mB k) pFs mR d (kZ k f) (by rw [eZ];exact h)) fun u D l _ ⟨h1,v,h2,h3⟩=>⟨h1, ?_⟩;rw [eZ,Kn h] at h3;obtain ⟨_,_,g,n⟩:=De k h j;obtain ⟨vs,o,hs⟩:=id h3;obtain ⟨A,c,rfl,_⟩:=id hs;refine ⟨A,_,c,0,h2,.inr ⟨h,Z, ?_,_, ?_, ?_,h3⟩⟩
  ·rw [ax,o.1,ax];exact g
  ·rw [ax];exact g
  ·intro x hm;obtain ⟨y,hy,rfl⟩:=L4.1 hm;exact n y hy
 ·exact Fn.mono (wC C b a (mB k) pFs mR d (kZ k f) (by rw [eZ];exact h)) fun u D l _ ⟨h1,h2⟩=>⟨h2,none,0,0,4,h1,.inl ⟨h,Z,Z⟩⟩
theorem F6 (C:Mem)(z:Tabs C)(n:Nat)(_aG:n<256):Gives cx.P 4 [.int .u8 n] C (.bool true):=by
 have aH:maxLen<=9223372036854775807:=by simp [maxLen]
 refine Ph Tryz.func4 162 U3 fun w0=>C6 1 [0] Z<|Pb fun R a=>Pn (Dl _ z.m_) U7<|C4 1 [0,17] a Z<|O9 (fun V=>?_) fun V=>?_
 ·exact absurd V dc_
 ·refine Pb fun R a=>PK (CH _ z.m_) U7 (fun aJ _ _ ag=>?_);obtain ⟨v1,v2,tv,cv,ov,rfl,W,X,Y,g4,g5⟩:=id ag;obtain ⟨l,o,rfl,_⟩:=id W;obtain ⟨p,q,rfl,_⟩:=id X;obtain ⟨s,t,rfl,_⟩:=id Y;obtain ⟨v,x,rfl,_⟩:=id g4;obtain ⟨B5,d5,rfl,_⟩:=id g5;refine Pq U5 fun f=>Pg (j:=0) U12<|Pd [0,3] a Z<|O7 1 Z fun R a=>P6 (n) (12) U6 om_ U2<|PS (c:=((n % 12:Nat):Int)) U8 (wrap_i64 om_ om_) fl_<|Pi _ U7<|C4 1 [3,4] a Z ?_;obtain ⟨k,hk⟩:∃ k,1+n % 12=k:=⟨_,rfl⟩;rw [show (1+((n % 12:Nat):Int))=(k:Int) by omega];have J:k<=12:=by omega
  refine O7 5 Z fun R a=>Pz U8<|Pd [3,4,28] a Z<|O9 (fun aa=>?_) fun aa=>?_
  ·exact C6 1 [2] Z<|Pf U2<|⟨Z,Z⟩
  ·have K:k<6∨10<k:=by
    by_cases h5:5<k
    ·by_cases aK:k<11
     ·refine absurd (show (decide ((k:Int) > 5) && decide ((k:Int)<11))=true from Oj.2 ⟨Mc om_,Mc om_⟩) (by rw [aa];decide)
     ·exact .inr om_
    ·exact .inl om_
   have D:0<k:=by omega
   refine O7 1 Z fun R a=>Pe (.head _) U9<|Pm g5.m_ U10 om_ Z fl_ fun aL ah=>O8 ah U8<|Pq U5 fun g=>Pg (j:=0) U12<|Pd [3,4,5] a Z<|O7 1 Z fun R a=>Pg (j:=1) U12<|Pd [3,4,5] a Z<|C6 1 [3,4,5,6] Z<|G.nilArr 62 10<|G.perm (L':=[.obj f (.cells ⟨[.slice l 3 o,.slice p 1 q,.slice s 3 t,.slice v 2 x,.slice none 0 0]⟩ 42 (0,0)),.obj g (.cells ⟨mE pO1⟩ 62 (0,0)),.arr (.slice none 0 0) 62 10 0 []]) (pkL [1,1,0] Z)<|G.loop (fun fr C' e A=>∃ (i:Nat)(w:Value),(i<=k)/\fr=[(3,[],.pointer (some ⟨f,0,none⟩)),(4,[],.int .i64 k),(5,[],.pointer (some ⟨g,0,none⟩)),(6,[],.int .i64 i)]/\e=[.obj f (.cells ⟨[.slice l 3 o,.slice p 1 q,.slice s 3 t,.slice v 2 x,w]⟩ 42 (0,0)),.obj g (.cells ⟨mE pO1⟩ 62 (0,0)),.arr w 62 10 i (((List.range i).map mO).map mE).flatten]/\A=k-i) (hn_ [3,4,5,6] Z) ⟨0,.slice none 0 0,LV _,Z,Z,Z⟩ (fun fr aM aN m _ B=>?_);obtain ⟨i,w,hi,rfl,rfl,rfl⟩:=B;refine C6 3 [3,4,5,6,36] Z<|O9 (fun L=>?_) fun L=>?_
   ·have ab:i<k:=by
     have:=K5 L;omega
    have ai:(((List.range (i+1)).map mO).map mE).flatten=(((List.range i).map mO).map mE).flatten++mE (mO i):=by
     rw [MU,My,My,MK];rfl
    refine Pb fun R a=>Pe (.tail _ (.head _)) U9<|Pq U5 fun E=>Pg (j:=0) U12<|Pd [3,4,5,6,7] a Z<|O7 1 Z fun R a=>Pi _ U7<|PS (c:=((97+i:Nat):Int)) U8 (by rw [show (97+(i:Int))=((97+i:Nat):Int) by omega];exact wrap_u8 om_ om_) fl_<|Ps [[.int .u8 ((97+i:Nat):Int)]] U12 fun aO _ _ al=>Qx (show Sl _ 1 _ (([UInt8.ofNat (97+i)]:Str).map fun b=>[.int .u8 b.toNat]) from by rw [<- xT om_];exact al.mono mup) U11 fl_<|Pa U6<|Pg (j:=0) U12<|Pd [3,4,5,6,7] a Z<|O7 1 Z fun R a=>P6 (i) (9) U6 om_ U2<|Pi _ U7<|PS (c:=((49+i % 9:Nat):Int)) U8 (by rw [show (49+((i % 9:Nat):Int))=((49+i % 9:Nat):Int) by omega];exact wrap_u8 om_ om_) fl_<|Ps [[.int .u8 ((49+i % 9:Nat):Int)]] U12 fun aP _ _ am=>Qx (show Sl _ 1 _ (([UInt8.ofNat (49+i % 9)]:Str).map fun b=>[.int .u8 b.toNat]) from by rw [<- xT om_];exact am.mono mup) U11 fl_<|Pa U6<|Pg (j:=0) U12<|Pd [3,4,5,6,7] a Z<|C6 2 [3,4,5,6,7,54] Z<|G.cut (fun fr C' e A=>∃ (u:Nat),(True)/\fr=[(3,[],.pointer (some ⟨f,0,none⟩)),(4,[],.int .i64 k),(5,[],.pointer (some ⟨g,0,none⟩)),(6,[],.int .i64 i),(7,[],.pointer (some ⟨E,0,none⟩))]/\e=[.obj E (.cells ⟨mE (mO i)⟩ 62 (0,0)),.obj f (.cells ⟨[.slice l 3 o,.slice p 1 q,.slice s 3 t,.slice v 2 x,w]⟩ 42 (0,0)),.obj g (.cells ⟨mE pO1⟩ 62 (0,0)),.arr w 62 10 i (((List.range i).map mO).map mE).flatten]) ?_ (fun fr _ aQ A _ B=>?_)
    ·refine O9 (fun M=>?_) fun M=>?_
     ·have F:¬ i<9:=by
       have:=K5 M;omega
      refine O7 1 Z fun R a=>Pg (j:=0) U12<|Pd [3,4,5,6,7] a Z<|O7 1 Z fun R a=>Pi _ U7 ?_;rw [show ((i:Int)-9)=((i-9:Nat):Int) by omega];refine Pp (tk _ z.m_ 0 ((i-9:Nat):Int) dc_ om_) U7 fl_<|Pa U6<|Pg (j:=0) U12<|Pd [3,4,5,6,7] a Z<|Po (L':=[.obj E (.cells ⟨mE (mO i)⟩ 62 (0,0)),.obj f (.cells ⟨[.slice l 3 o,.slice p 1 q,.slice s 3 t,.slice v 2 x,w]⟩ 42 (0,0)),.obj g (.cells ⟨mE pO1⟩ 62 (0,0)),.arr w 62 10 i (((List.range i).map mO).map mE).flatten]) (by unfold mO mP mX;simp only [aC F];rfl)<|Pj 0 mup (hn_ [3,4,5,6,7] Z) ⟨0,trivial,Z,Z⟩
     ·have F:i<9:=by
       have:=LS M;omega
      refine Po (L':=[.obj E (.cells ⟨mE (mO i)⟩ 62 (0,0)),.obj f (.cells ⟨[.slice l 3 o,.slice p 1 q,.slice s 3 t,.slice v 2 x,w]⟩ 42 (0,0)),.obj g (.cells ⟨mE pO1⟩ 62 (0,0)),.arr w 62 10 i (((List.range i).map mO).map mE).flatten]) (by unfold mO mP mX;simp only [aI F,NX F];rfl)<|Pj 0 mup (hn_ [3,4,5,6,7] Z) ⟨0,trivial,Z,Z⟩
    ·obtain ⟨u,aR,rfl,rfl⟩:=B;refine O7 1 Z fun R a=>Pe (.tail _ (.head _)) U9<|Pe (.head _) U9<|Ps [mE (mO i)] U12 fun aS _ _ an=>Pu (j:=3) U11 an Z (by simp only [aE,maxLen];omega) (by show (i+1)*152<=_;omega) fl_ fun N O Q=>Pa U6<|Pg (j:=2) U12<|Pd [3,4,5,6] a Z<|O7 1 Z fun R a=>Pi _ U7<|C4 1 [3,4,5,6] a Z<|PQ 2 Z<|G.perm _ (List.Perm.cons _ (.swap _ _ _))<|Po (L':=[.obj f (.cells ⟨[.slice l 3 o,.slice p 1 q,.slice s 3 t,.slice v 2 x,.slice N O Q]⟩ 42 (0,0)),.obj g (.cells ⟨mE pO1⟩ 62 (0,0)),.arr (.slice N O Q) 62 10 (i+1) (((List.range (i+1)).map mO).map mE).flatten]) (by rw [ai];rfl)<|Pk (m':=k-(i+1)) om_ mup (hn_ [3,4,5,6] Z) ⟨i+1,.slice N O Q,om_,Z,Z,Z⟩
   ·have ab:i=k:=by
     have:=LS L;omega
    subst ab;refine G.freezeArr 2 (((List.range i).map mO).map mE) rfl rfl (by intro r hr;obtain ⟨y,_,rfl⟩:=L4.1 hr;rfl) (by simp) fun Cg hg S=>G.freeze 0 Z (fun C5 _ H=>?_);obtain ⟨Aw,cw,rfl,_⟩:=id S;rw [ax,ax,MJ] at H;simp only [ax,MJ] at S;have T:BookIn C5 (.agg ⟨[.slice l 3 o,.slice p 1 q,.slice s 3 t,.slice v 2 x,.slice Aw i cw]⟩) (mB i):=⟨_,_,_,_,_,rfl,W.mono mup,X.mono mup,Y.mono mup,g4.mono mup,S.mono mup⟩;refine Pb fun R a=>O8 (bkT H 5) U8<|PK (Lz _ z.m_ _ i T.m_ K D J) U7 (fun aT _ _ ao=>?_);obtain ⟨Aa,ma,ca,ea,rfl,ha⟩:=ao;refine C4 5 [3,4,8,9] a Z<|Pb fun R a=>O8 (bkT H 5) U8<|PK (IM _ z.m_ _ i T.m_ K D J) U7 (fun aU _ _ ap=>?_);obtain ⟨As,ms,cs,aV,es,rfl,hs⟩:=ap;refine C4 7 [3,4,8,9,10,11,12] a Z<|Pb fun R a=>O8 (bkT H 5) U8<|PK (Df _ z.m_ _ i T.m_ K D J) U7 (fun aW _ _ aq=>?_);obtain ⟨Ar,d,cr,er,rfl,hr⟩:=aq;refine C4 5 [4,8,9,10,11,12,13,14] a Z<|C6 2 [4,8,9,10,11,12,13,14,83] Z<|O9 (fun U=>?_) fun U=>?_
    ·have I:10<i:=by
      have:=K5 U;omega
     obtain ⟨_,rfl,rfl⟩:=ha.resolve_right (fun h=>by have:=h.1;omega);obtain ⟨_,rfl,rfl,rfl⟩:=hs.resolve_right (fun h=>by have:=h.1;omega);obtain ⟨_,rfl,rfl⟩:=hr.resolve_right (fun h=>by have:=h.1;omega);exact O7 4 Z fun R a=>Pi _ U7<|Pc 2 Z<|Pi _ U7<|Pc 4 Z<|Pz U8<|Pc 3 Z<|Pz U8<|Pc 3 Z<|Pz U8<|Pc 3 Z<|Pz U8<|C4 1 [2] a Z<|Pf U2<|⟨Z,Z⟩
    ·have I:¬ 10<i:=by
      have:=LS U;omega
     obtain ⟨h6,rfl,rfl⟩:=ha.resolve_left (fun h=>I h.1);obtain ⟨_,rfl,rfl,aX,ar⟩:=hs.resolve_left (fun h=>I h.1);obtain ⟨_,rfl,rfl,outs,au,av,hO⟩:=hr.resolve_left (fun h=>I h.1);have hq:∀ i:Nat,i<6->0<i->i*(i-1) / 2<=10/\i*(i-1)<=20/\(i:Int)*((i:Int)-1)=((i*(i-1):Nat):Int):=by decide
     obtain ⟨aY,aZ,aw⟩:=hq d h6 D;refine O7 5 Z fun R a=>PD U8<|Pc 3 Z<|PD U8<|Pc 5 Z<|Pi _ U7<|Pi _ U7 ?_;rw [aw];refine P5 ((d*(d-1))) (2) U6 om_ (.inl ⟨Z,by omega⟩) U2<|Pa U6<|PD U8<|Pc 5 Z<|PD U8<|Pc 5 Z<|PD U8<|Pd [4,10,11,13,140] a Z<|O9 (fun ac=>?_) fun ac=>?_
     ·refine absurd ac ?_;simp;omega
     ·refine C6 1 [4,10,11,13,15] Z<|G.dropAll<|G.loop (fun fr C' e A=>∃ (j:Nat),(j<=d)/\fr=[(4,[],.int .i64 d),(10,[],.slice As ms cs),(11,[],.bool (decide (1<d))),(13,[],.slice Ar d cr),(15,[],.int .i64 j)]/\e=[]/\A=d-j) (hn_ [4,10,11,13,15] Z) ⟨0,LV _,Z,Z,Z⟩ (fun fr a0 a1 m ay B=>?_);obtain ⟨j,hj,rfl,rfl,rfl⟩:=B;refine C6 4 [4,10,11,13,15,144] Z<|O9 (fun ad=>?_) fun ad=>?_
      ·have a2:j<d:=by
        have:=K5 ad;omega
       obtain ⟨vO,ae,az⟩:=id hO;obtain ⟨a3,a4,aA,a5⟩:=FR ae j;have aB:(outs.getD j []).length=d-1:=by
        rw [ak,aj om_];exact av _ (MP _)
       have a6:vO.length=d:=by rw [ae.1];exact au
       refine O7 2 Z fun R a=>Pm az.m_ U10 om_ (Kf om_ aA) fl_ fun a7 aD=>O8 aD U8<|Pc 2 Z<|Pi _ U7<|C4 1 [4,10,11,13,15,154] a Z<|O9 (fun af=>?_) fun af=>?_
       ·refine absurd af ?_;rw [aB];simp;omega
       ·refine O7 1 Z fun R a=>Pi _ U7<|C4 1 [4,10,11,13,15] a Z<|Pk (m':=d-(j+1)) om_ ay (hn_ [4,10,11,13,15] Z) ⟨j+1,om_,Z,Z,Z⟩
      ·refine O7 4 Z fun R a=>Qj [[.int .i64 0],[.int .i64 1]] U12 fl_ U2 fun a8 _ _ aF=>Pw (fun hG=>oh _ _ _ [0,1] [0,1] ((ar (by have h:(!decide (1<d))=false:=hG.1;simpa using h)).mono mup) ((aF (by exact hG)).mono mup)) U9<|PD U8<|C4 1 [2] a Z<|Pf U2 ?_;exact ⟨by cases decide (1<d) <;> rfl,Z⟩
open Go Go.Jog Go.ChangeShapes Go.WideShapes Go.ChangeAt Go.RowKit
set_option maxRecDepth 100000
theorem own:ownKnob Tryz.prog.godebug=none:=by kernel_rfl
section
variable {H:Type} {enc:TypeId × Value->H} {W:World} {spare:Nat->Bool} {held:Bool}
theorem K8 {n:Nat}{c:Value}{y:DataW H × List MemPlace}(h:DataW.trod enc Tryz.prog W 0 spare held n 5 [c]=some y):∃ b:UInt8,c=.int .u8 b.toNat:=by
 obtain ⟨m,h1,_,h3⟩:=DataW.trod_int Tryz.underlying5 h;simp only [List.cons.injEq,and_true] at h1;subst h1;have a:0<=m/\m<256:=by
  simp [Lit.wf,IntKind.min,IntKind.max,IntKind.signed,IntKind.bits] at h3;omega
 refine ⟨UInt8.ofNat m.toNat, ?_⟩;congr 1;simp only [OY];omega
end
def kp (cs:Array Value):Obj->Obj
 | .cells _ t frozen=>.cells cs t frozen
 | o=>o
def D6:Array Value:=(Lib.deBruijn32tab.map fun z:Nat=>Value.int .u8 (z:Int)).toArray
def D5:Array Value:=(Lib.deBruijn64tab.map fun z:Nat=>Value.int .u8 (z:Int)).toArray
def zz:Array Value:=(Lib.pow10Tab.map fun z=>Value.int .u64 z).toArray
def Cc:ByteArray:=⟨#[118,97,108,117,101,32,111,117,116,32,111,102,32,114,97,110,103,101]⟩
def yZ:ByteArray:=⟨#[105,110,118,97,108,105,100,32,115,121,110,116,97,120]⟩
noncomputable def low:Nat:=(World.holding Tryz.prog default ⟨#[],#[],[]⟩).heap.size
noncomputable def oo (os:Os):World :=
 let w0:=World.holding Tryz.prog os ⟨#[.cells #[.string Cc] 412,.cells #[.string yZ] 412],#[],[]⟩
 { w0 with heap:=((((w0.heap.modify 0 (kp D6)).modify 1 (kp D5)).modify 3 (kp zz)).modify 5 (kp #[.iface 410 (.pointer (some ⟨low,0,none⟩))])).modify 4 (kp #[.iface 410 (.pointer (some ⟨low+1,0,none⟩))]) }
theorem HX {W : World} (h : laidMet Tryz.prog [("math/bits.deBruijn32tab", Rows.laid_math_bits_deBruijn32tab), ("math/bits.deBruijn64tab", Rows.laid_math_bits_deBruijn64tab), ("internal/strconv.uint64pow10", Rows.laid_internal_strconv_uint64pow10), ("strconv.ErrRange", Rows.laid_strconv_ErrRange), ("strconv.ErrSyntax", Rows.laid_strconv_ErrSyntax)] W) : Tabs (Da W) := by
 have h1:=h.tail;have h2:=h1.tail;have b:(Rows.laid_math_bits_deBruijn64tab:DataW Unit)=Lib.tabData .u8 (Lib.deBruijn64tab.map fun z:Nat=>(z:Int)):=by rfl
 rw [b] at h1;have a:=Lib.tabIs_of_head (g:=1) (t:=265) (e:=5) (n:=64) kr_ kr_ Tryz.underlying265 Tryz.underlying5 kr_ kr_ h1;have c:(Rows.laid_internal_strconv_uint64pow10:DataW Unit)=Lib.tabData .u64 Lib.pow10Tab:=by rfl
 rw [c] at h2;have d:=Lib.tabIs_of_head (g:=3) (t:=386) (e:=160) (n:=20) kr_ kr_ Tryz.underlying386 Tryz.underlying160 kr_ kr_ h2;refine ⟨VarC.ofWorld d, ?_⟩;unfold Lib.TabIs at a;rw [ME] at a;exact VarC.ofWorld a
theorem Ge:laidOutB Tryz.prog=true:=by kernel_rfl
end Go.Proofs.YthnpijdjlddpmaaGreatDoor
