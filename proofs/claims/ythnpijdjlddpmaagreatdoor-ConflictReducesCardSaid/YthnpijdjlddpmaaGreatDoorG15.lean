/- Laws that the proofs of this seat share, part 15. -/
import Derived.Test.YthnpijdjlddpmaaGreatDoorG14
import Derived.Test.YthnpijdjlddpmaaGreatDoorShelf
set_option maxHeartbeats 4000000
namespace Go.Proofs.YthnpijdjlddpmaaGreatDoor
open Go Go.Jog
set_option maxRecDepth 100000
theorem Dl (C:Mem)(i:Tabs C)(pv:Value)(S:Sht)(H:Hts)(l:List Sgt)(b:Nat)(hb:b<256)(hP:CE C pv S H l)(an:PlanR S H l) :
  Gives cx.P 7 [pv,.int .u8 b] C (.bool true):=by
 obtain ⟨A,c,rfl,aQ⟩:=id hP;have bg:maxLen<=9223372036854775807:=by simp [maxLen]
 refine UD Tryz.func7 125 U3 fun w0=>Uz fun R d=>UQ U6 fun b2=>C4 1 [1,2] d Z<|G.freeze 0 Z fun _ _ aR=>Uz fun R d=>UI (GJ _ i.m_) U7<|C4 1 [1,2,24] d Z<|Ux (fun ao=>?_) fun ao=>?_
 ·exact absurd ao dc_
 refine Uz fun R d=>Uw (bkT aR 12) U8<|Ve (Oe _ i.m_ _ S H l ⟨_,_,Z,aQ.mono mup⟩ an) U7 (fun bh _ _ aS=>?_);obtain ⟨bv,rfl,f⟩:=aS;have V:=Ek S H (l.take 3) (fun s hs=>an.s s (List.take_subset _ _ hs));have ap:(cC S H (l.take 3)).obs.length<=3:=by
  show (rb S (l.take 3)).length<=3;rw [jH,Q5];omega
 obtain ⟨RO,aT⟩:∃ RO,roK S H (l.take 3)=RO:=⟨_,rfl⟩;obtain ⟨fs,aU⟩:∃ fs,fsK (cE (S.kd % 8) S.a S.b S.h).length H=fs:=⟨_,rfl⟩;obtain ⟨B,aq⟩:∃ B,cC S H (l.take 3)=B:=⟨_,rfl⟩;rw [aT,aU,aq] at V;rw [aq] at f ap;obtain ⟨m4,aX⟩:∃ m,(cE (S.kd % 8) S.a S.b S.h).length=m:=⟨_,rfl⟩;rw [aX] at V ⊢;obtain ⟨v1,v2,tv,cv,ov,rfl,g1,g2,g3,g4,g5⟩:=id f;obtain ⟨B1,d1,rfl,_⟩:=id g1;obtain ⟨B2,d2,rfl,_⟩:=id g2;obtain ⟨B3,d3,rfl,_⟩:=id g3;obtain ⟨B4,d4,rfl,_⟩:=id g4;obtain ⟨B5,d5,rfl,_⟩:=id g5;obtain ⟨n,W⟩:∃ n,B.obs.length=n:=⟨_,rfl⟩;simp only [al,W] at f ap ⊢;refine UB 3 Z<|UP U5 fun b5=>UG (j:=0) U12<|C4 1 [1,5,6] d Z<|Uu 2 [1,5,31] Z<|Ux (fun ar=>?_) fun ar=>?_
 ·exact Uu 1 [4] Z<|UC U2<|⟨Z,Z⟩
 have h:=V (by simpa using ar);refine G.freeze 0 Z fun _ _ u=>Uv 2 Z fun R d=>Uw (bkT u 1) U8<|Uy U6<|U0 (NC _ b n hb om_) U7 fl_ (fun bi _ _ N=>?_);obtain ⟨s,hs⟩:∃ s,b % 2 ^ n=s:=⟨_,rfl⟩;have X:s<2 ^ n:=by rw [<- hs];exact Ry _ (Nat.two_pow_pos n)
 rw [hs] at N;obtain ⟨E,F,rfl,av,bj,_⟩:=id N;have v:AscIn B.obs.length (aV s):=by rw [W];exact zt om_ X
 have Y:=Kg (B:=B) (RO:=RO) (n:=n) om_ X;have aa:=CB (n:=n) (s:=s) om_ X (l:=eB (hS B RO) (bQ n)) (fun x O=>Cd O);obtain ⟨ls,aw⟩:∃ ls,aV s=ls:=⟨_,rfl⟩;rw [aw] at v Y aa N av;have k:=N;have bk:ls.length<=12:=Rb v.set.len h.ob;rw [aw,al];rw [al] at k av;obtain ⟨cs,ay⟩:∃ cs,eB (hS B RO) (bQ n)=cs:=⟨_,rfl⟩;rw [ay] at Y aa;refine C4 1 [5,7] d Z<|Uz fun R d=>Uw (bkT u 5) U8<|Uy U6<|UI (Px _ i.m_ _ _ B fs RO ls f.m_ h v k.m_) U7<|C4 5 [5,7,8,9] d Z<|Uz fun R d=>Uw (bkT u 5) U8<|Uy U6<|Ve (FI _ i.m_ _ _ B fs RO ls f.m_ h v k.m_) U7 (fun bl _ _ aY=>?_);obtain ⟨Ar,nr,cr,rfl,aZ,a0⟩:=O7 aY;refine C4 7 [5,7,8,9,10,11,12] d Z<|Uv 5 Z fun R d=>U1 U8<|UA [5,7,8,10,11,55] d Z<|Ux (fun aA=>?_) fun aA=>?_
 ·exact absurd aA dc_
 refine Uz fun R d=>Uw (bkT u 5) U8<|Uy U6<|UI (pT _ i.m_ _ _ B fs RO ls f.m_ h v.set k.m_) U7<|UA [5,7,8,10,11,58] d Z<|Ux (fun ab=>?_) fun ab=>?_
 ·have hh:bT B RO ls=true:=ab;refine Uv 5 Z fun R d=>UU U8<|UB 4 Z<|UU U8<|C4 1 [4] d Z<|UC U2 ?_;have e:BM B RO ls=false:=by unfold BM;rw [hh];rfl
  refine ⟨?_,Z⟩;rw [aZ hh,e,hh];rfl
 have aB:bT B RO ls=false:=ab;have ac:=a0 aB;obtain ⟨_,_,a1,_⟩:=id ac;cases a1
 rw [al] at ac ⊢;refine Uz fun R d=>VA [] U12 fl_ fun bm=>Uy U6<|UZ (j:=0) U11 k.m_ (by simp [aM,lH]) (by simp only [al,Q7,maxLen];omega) (by simp only [al,Q7];omega) fl_ fun a2 a3 a4=>C4 1 [5,7,8,10,11,13] d Z<|UN (L':=[.arr (.slice a2 a3 a4) 3 1 ls.length (ls.map aM).flatten]) am<|G.freezeArr 0 (ls.map aM) Z Z (fc _) (al _) fun _ _ a5=>Uu 3 [5,7,8,10,11,13,73,74,75] Z<|G.loop (fun fr C' g I=>∃ (j:Nat)(K:List Nat)(Q:Value),(j<=ls.length/\tV (bT B RO) K (ls.drop j)=tV (bT B RO) [] ls/\AscIn B.obs.length (K++ls.drop j)/\Sl C' 1 Q ((K++ls.drop j).map aM))/\fr=[(5,[],.pointer (some ⟨b5,0,none⟩)),(7,[],.slice E ls.length F),(8,[],.bool (BM B RO ls)),(10,[],.slice Ar (tV (bT B RO) [] ls).length cr),(11,[],.bool (!bT B RO ls)),(13,[],Q),(73,[],.slice E ls.length F),(74,[],.int .i64 ls.length),(75,[],.int .i64 j)]/\g=[]/\I=ls.length-j) (hn_ [5,7,8,10,11,13,73,74,75] Z) ⟨0,[],_,⟨QT _,Z,v,a5⟩,Z,Z,Z⟩ (fun fr bn bo m _ J=>?_);obtain ⟨j,K,Q,⟨hj,L,M,o⟩,rfl,rfl,rfl⟩:=J;refine Uu 1 [5,7,8,10,11,13,73,74,75,76] Z<|Ux (fun ad=>?_) fun ad=>?_
 ·have T:j<ls.length:=by
   have:=aJ ad;omega
  obtain ⟨x,O⟩:∃ x,ls[j]?=some x:=⟨ls[j],aj T⟩;have aC:ls.drop j=x::ls.drop (j+1):=by rw [Rh T,(aD.1 O).2]
  obtain ⟨r,hr⟩:∃ r,ls.drop (j+1)=r:=⟨_,rfl⟩;rw [hr] at aC;rw [aC] at L M o;have a6:(K++x::r).eraseIdx K.length=K++r:=by rw [List.eraseIdx_append_of_length_le (QO _),SZ];rfl
  have aE:AscIn B.obs.length (K++r):=by rw [<- a6];exact M.erase _
  have bp:(K++x::r).length<=12:=Rb M.set.len h.ob;have a7:=PF M.set.nd;obtain ⟨Al,cl,rfl,a8,bq,_⟩:=id o;rw [al] at o a8 ⊢;refine Uz fun R d=>UK k.m_ U10 om_ (gm O) fl_ fun br a9=>Uw a9 U8<|C4 1 [5,7,8,10,11,13,15,73,74,75] d Z<|Uu 1 [5,7,8,10,11,13,15,16,73,74,75] Z<|Uu 3 [5,7,8,10,11,13,15,16,73,74,75,79,80,81] Z<|G.nilArr 3 1<|G.loop (fun fr C' g I=>∃ (q:Nat)(z:Option Addr)(n1 D:Nat),(q<=(K++x::r).length)/\fr=[(5,[],.pointer (some ⟨b5,0,none⟩)),(7,[],.slice E ls.length F),(8,[],.bool (BM B RO ls)),(10,[],.slice Ar (tV (bT B RO) [] ls).length cr),(11,[],.bool (!bT B RO ls)),(13,[],.slice Al (K++x::r).length cl),(15,[],.int .i64 (x:Nat)),(16,[],.slice z n1 D),(73,[],.slice E ls.length F),(74,[],.int .i64 ls.length),(75,[],.int .i64 j),(79,[],.slice Al (K++x::r).length cl),(80,[],.int .i64 (K++x::r).length),(81,[],.int .i64 q)]/\g=[.arr (.slice z n1 D) 3 1 (((K++x::r).take q).filter fun y=>y != x).length ((((K++x::r).take q).filter fun y=>y != x).map aM).flatten]/\I=(K++x::r).length-q) (hn_ [5,7,8,10,11,13,15,16,73,74,75,79,80,81] Z) ⟨0,none,0,0,QT _,Z,Z,Z⟩ (fun fr bs bt m _ J=>?_);obtain ⟨q,z,n1,D,hq,rfl,rfl,rfl⟩:=J;refine Uu 1 [5,7,8,10,11,13,15,16,73,74,75,79,80,81,82] Z<|Ux (fun ae=>?_) fun ae=>?_
  ·have t:q<(K++x::r).length:=by
    have:=aJ ae;omega
   obtain ⟨y,hy⟩:∃ y,(K++x::r)[q]?=some y:=⟨_,aj t⟩;have U:=Hl (p:=fun y=>y != x) hy;have bu:(((K++x::r).take q).filter fun y=>y != x).length<=q:=Rb (R5 _ _) (List.length_take_le _ _);refine Uz fun R d=>UK o.m_ U10 om_ (gm hy) fl_ fun bw ba=>Uw ba U8<|C4 1 [5,7,8,10,11,13,15,16,18,73,74,75,79,80,81] d Z<|Uu 3 [5,7,8,10,11,13,15,16,18,73,74,75,79,80,81,87] Z<|Ux (fun af=>?_) fun af=>?_
   ·have ag:(y != x)=true:=by
     have h2:(!((y:Int) == (x:Int)))=true:=af;rw [kL] at h2;exact h2
    rw [aW ag] at U;refine Uv 2 Z fun R d=>UR [[.int .i64 (y:Nat)]] U12 fun bx _ _ bb=>UZ (j:=0) U11 bb Z ax (by show ((((K++x::r).take q).filter fun y=>y != x).length+1)*8<=_;omega) fl_ fun aF aG aH=>C4 1 [5,7,8,10,11,13,15,16,73,74,75,79,80,81] d Z<|Uz fun R d=>UF _ U7<|C4 1 [5,7,8,10,11,13,15,16,73,74,75,79,80,81] d Z<|UN (L':=[.arr (.slice aF aG aH) 3 1 (((K++x::r).take (q+1)).filter fun y=>y != x).length ((((K++x::r).take (q+1)).filter fun y=>y != x).map aM).flatten]) (by rw [U,Ru,Rz,QV];rfl)<|UH (m':=(K++x::r).length-(q+1)) om_ mup (hn_ [5,7,8,10,11,13,15,16,73,74,75,79,80,81] Z) ⟨q+1,aF,aG,aH,om_,Z,Z,Z⟩
   have ag:¬ (y != x)=true:=by
    have h2:(!((y:Int) == (x:Int)))=false:=af;rw [kL] at h2;exact Bool.eq_false_iff.1 h2
   rw [az ag,Rf] at U;refine Uz fun R d=>UF _ U7<|C4 1 [5,7,8,10,11,13,15,16,73,74,75,79,80,81] d Z<|UN (L':=[.arr (.slice z n1 D) 3 1 (((K++x::r).take (q+1)).filter fun y=>y != x).length ((((K++x::r).take (q+1)).filter fun y=>y != x).map aM).flatten]) (by rw [U])<|UH (m':=(K++x::r).length-(q+1)) om_ mup (hn_ [5,7,8,10,11,13,15,16,73,74,75,79,80,81] Z) ⟨q+1,z,n1,D,om_,Z,Z,Z⟩
  have t:(K++x::r).length=q:=by
   have:=QS ae;omega
  subst t;rw [Q2,a7];refine G.freezeArr 0 ((K++r).map aM) Z Z (fc _) (al _) fun _ _ aI=>Uz fun R d=>Uw (bkT u 5) U8<|Uy U6<|UI (pT _ i.m_ _ _ B fs RO (K++r) f.m_ h aE.set aI.m_) U7<|C4 1 [5,7,8,10,11,13,16,73,74,75,96] d Z<|Ux (fun ah=>?_) fun ah=>?_
  ·have h2:¬ bT B RO (K++r)=true:=by
    have:bT B RO (K++r)=false:=by simpa using ah
    rw [this];decide
   refine Uu 2 [5,7,8,10,11,13,73,74,75] Z<|Uz fun R d=>UF _ U7<|C4 1 [5,7,8,10,11,13,73,74,75] d Z<|UH (m':=ls.length-(j+1)) om_ mup (hn_ [5,7,8,10,11,13,73,74,75] Z) ⟨j+1,K,(.slice z n1 D),⟨by omega,by rw [hr,<- L];simp only [tV,az h2],by rw [hr];exact aE,by rw [hr];exact aI.mono mup⟩,Z,Z,Z⟩
  have h2:bT B RO (K++r)=true:=by simpa using ah
  refine Uz fun R d=>UF _ U7<|C4 1 [5,7,8,10,11,13,73,74,75] d Z<|UH (m':=ls.length-(j+1)) om_ mup (hn_ [5,7,8,10,11,13,73,74,75] Z) ⟨j+1,K++[x],(.slice Al (K++x::r).length cl),⟨by omega,by rw [hr,<- L];simp only [tV,aW h2],by rw [hr,Rk];exact M,by rw [hr,Rk];exact o.mono mup⟩,Z,Z,Z⟩
 have T:j=ls.length:=by
  have:=QS ad;omega
 subst T;rw [RM,Rf] at o;rw [RM] at L;have bc:K=tV (bT B RO) [] ls:=by rw [<- L];simp only [tV]
 subst bc;refine Uz fun R d=>Uw (bkT u 5) U8<|U0 (GY _ i.m_ _ B fs RO f.m_ h om_) U7 fl_ (fun bz _ _ aL=>?_);rw [W,ay] at aL;obtain ⟨vs,aN,ai⟩:=id aL;obtain ⟨AW,cW,rfl,bd,bA,_⟩:=id ai;have bB:vs.length=cs.length:=by rw [aN.1,al]
 rw [al] at ai bd ⊢;refine C4 1 [7,8,10,11,13,19] d Z<|Uu 1 [7,8,10,11,13,19,20] Z<|Uu 3 [7,8,10,11,13,20,101,102,103] Z<|G.loop (fun fr C' g I=>∃ (q:Nat),(q<=vs.length)/\fr=[(7,[],.slice E ls.length F),(8,[],.bool (BM B RO ls)),(10,[],.slice Ar (tV (bT B RO) [] ls).length cr),(11,[],.bool (!bT B RO ls)),(13,[],Q),(20,[],.bool (((cs.map aV).take q).any fun c=>decide (c=ls))),(101,[],.slice AW vs.length cW),(102,[],.int .i64 vs.length),(103,[],.int .i64 q)]/\g=[]/\I=vs.length-q) (hn_ [7,8,10,11,13,20,101,102,103] Z) ⟨0,QT _,Z,Z,Z⟩ (fun fr bC bD m _ J=>?_);obtain ⟨q,hq,rfl,rfl,rfl⟩:=J;refine Uu 1 [7,8,10,11,13,20,101,102,103,104] Z<|Ux (fun ak=>?_) fun ak=>?_
 ·have t:q<vs.length:=by
   have:=aJ ak;omega
  obtain ⟨w,hw⟩:∃ w,(cs.map aV)[q]?=some w:=⟨_,aj (by rw [al];omega)⟩;obtain ⟨Aw,cw,aO,aP⟩:=nW aN q;have be:(cs.map aV).getD q []=w:=by rw [au,hw];rfl
  rw [be] at aO aP;refine Uz fun R d=>UK ai.m_ U10 om_ (Bt t aO) fl_ fun bE bf=>Uw bf U8<|C4 1 [7,8,10,11,13,20,22,101,102,103] d Z<|Uv 4 Z fun R d=>Vb (fun _=>(lQ _ _ _ w ls aP.m_ k.m_)) U9<|U1 U8<|C4 1 [7,8,10,11,13,20,101,102,103] d Z ?_;rw [show ((((cs.map aV).take q).any fun c=>decide (c=ls)) || decide (w=ls))=((cs.map aV).take (q+1)).any (fun c=>decide (c=ls)) from by rw [Rm,hw,List.any_append];simp];refine Uz fun R d=>UF _ U7<|C4 1 [7,8,10,11,13,20,101,102,103] d Z<|UH (m':=vs.length-(q+1)) om_ mup (hn_ [7,8,10,11,13,20,101,102,103] Z) ⟨q+1,om_,Z,Z,Z⟩
 have t:q=vs.length:=by
  have:=QS ak;omega
 subst t;rw [Re (by rw [al];omega),aa];refine Uv 4 Z fun R d=>UT (fun hg=>(by exact lQ _ _ _ (tV (bT B RO) [] ls) (tV (bT B RO) [] ls) ac.m_ o.m_)) U9<|UU U8<|UB 4 Z<|UU U8<|C4 1 [4] d Z<|UC U2<|⟨?_,Z⟩;rw [aB,Y];simp
end Go.Proofs.YthnpijdjlddpmaaGreatDoor
