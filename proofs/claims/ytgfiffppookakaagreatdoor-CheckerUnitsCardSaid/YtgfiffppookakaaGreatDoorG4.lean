/- Laws that the proofs of this seat share, part 4. -/
import Derived.Test.YtgfiffppookakaaGreatDoorG3
import Derived.Test.YtgfiffppookakaaGreatDoorShelf
import Derived.RangeFuncBox
import Derived.RangeFuncLeaves
import Derived.Shelf.Abstract
import Derived.WalkKit
import Derived.OwnWalkIn
import Derived.TacticsInMore
import Derived.LoopNIn
import Derived.LoopIn
import Derived.Test.YtgfiffppookakaaGreatDoorProg
set_option maxHeartbeats 4000000
namespace Go.Proofs.YtgfiffppookakaaGreatDoor
open Go Go.Jog
set_option maxRecDepth 100000

theorem sZ {l:List Nat}{i:Nat}(h:i<l.length):l[i]?=some (g9 l i):=by rw [aq h,uJ (aq h)]
theorem ig {l:List Nat}{i:Nat}(h:i<l.length):(l.map bU)[i]?=some (bU (g9 l i)):=by rw [bX,sZ h];rfl
theorem Gn {l:List Nat}{i:Nat}(h:l.length<=i):g9 l i=0:=by
 unfold g9;rw [aF,LF h];rfl
theorem B9v:B9=1000000000:=rfl
theorem Hb (C:Mem)(va vb:Value)(a b:List Nat)(ha:Sl C 1 va (a.map bU))(hb:Sl C 1 vb (b.map bU))(hda:Dig9 a)(hdb:Dig9 b)(hla:a.length<=10000000)(hlb:b.length<=10000000) :
  Pur cx.P 283 [va,vb] C fun u C'=>NineC C' u (bc a+bc b):=by
 obtain ⟨A0,c0,rfl,_⟩:=id ha;obtain ⟨B0,d0,rfl,_⟩:=id hb;simp only [aH] at ha hb ⊢;have hB:=B9v;refine Fn.it kr_ Tryz.func283 53 fun w0=>?_;refine G.z2 1 0 1 ?_;refine G.z3 5 0 1 13 ?_;refine G.cut (fun fr C' L' μ=>∃ (la lb:List Nat)(A:Option Addr)(c:Nat)(B:Option Addr)(d:Nat),(Sl C' 1 (.slice A la.length c) (la.map bU)/\Sl C' 1 (.slice B lb.length d) (lb.map bU)/\lb.length<=la.length/\bc la+bc lb=bc a+bc b/\Dig9 la/\Dig9 lb/\la.length<=10000000)/\fr=[(0,[],.slice A la.length c),(1,[],.slice B lb.length d)]/\L'=[]) ?_ (fun fr _ L13 μ _ hI=>?_)
 ·refine G.cd (fun h13=>?_) fun h13=>?_
  ·have h13':a.length<b.length:=by
    have:(a.length:Int)<b.length:=by simpa using h13
    omega
   refine G.z2 4 0 1 ?_;refine G.aK 0 (Mem.le.refl _) (h_2 0 1) ⟨b,a,_,_,_,_,⟨hb.mono mup,ha.mono mup,by omega,by omega,hdb,hda,hlb⟩,Z,Z⟩
  ·have h13':¬ a.length<b.length:=fun h=>by
    have:(a.length:Int)<b.length:=by omega
    simp [this] at h13
   refine G.aK 0 (Mem.le.refl _) (h_2 0 1) ⟨a,b,_,_,_,_,⟨ha.mono mup,hb.mono mup,by omega,Z,hda,hdb,hla⟩,Z,Z⟩
 ·obtain ⟨la ,lb ,A ,c ,B ,d,⟨hsa,hsb,hll,hvv,hdla,hdlb,hla8⟩,rfl,rfl⟩:=hI;refine G.rp 2 fun R hR=>?_;refine D.ar _ ?_;refine D.bK U9 (ch _) (by show 8*(la.length+1)<=281474976710656;omega) (by simp only [maxLen];omega) fl_ (fun b19=>?_);refine D.q3 1 0 1 5 hR ?_;clear hR R;refine G.z4 1 0 1 5 6 ?_;refine G.z6 3 1 5 6 20 21 22 ?_;refine G.loop (fun fr C' L' μ=>∃ (i:Nat)(out:List Nat)(cy:Nat)(w:Value),(i<=la.length/\out.length=i/\Dig9 out/\cy<=1/\bc out+B9 ^ i*cy=bc (la.take i)+bc (lb.take i))/\fr=[(1,[],.slice B lb.length d),(5,[],w),(6,[],.int .u64 cy),(20,[],.slice A la.length c),(21,[],.int .i64 la.length),(22,[],.int .i64 i)]/\L'=[.arr w 284 1 i (out.map bU).flatten]/\μ=la.length-i) (h_6 1 5 6 20 21 22) ⟨0,[],0,_,⟨ch _,Z,(fun x hx=>(by cases hx)),by omega,Z⟩,Z,Z,Z⟩ (fun fr C0' L0' m _ hI=>?_);obtain ⟨i,out,cy,w,⟨hi,hol,hod,hcy,hval⟩,rfl,rfl,rfl⟩:=hI;refine G.z7 1 1 5 6 20 21 22 23 ?_;refine G.cd (fun h23=>?_) fun h23=>?_
  ·have hil:i<la.length:=by simpa using h23
   have hga:=jp hdla i;have hgb:=jp hdlb i;refine G.rp 1 fun R hR=>?_;refine D.ak hsa.m_ U10 om_ (ig (i:=i) hil) fl_ (fun p25 hp25=>?_);refine D.aa hp25 ?_;refine D.q8 2 1 5 6 7 8 20 21 22 hR ?_;clear hR R;refine G.rp 2 fun R hR=>?_;refine D.int (((cy+g9 la i:Nat):Int)) U4 (by rw [IntKind.wrap_u64];omega) U2 ?_;refine D.q7 1 1 5 6 7 20 21 22 hR ?_;clear hR R;refine G.z8 4 1 5 6 7 20 21 22 33 ?_;refine G.cut (fun fr C' L' μ=>(True)/\fr=[(1,[],.slice B lb.length d),(5,[],w),(6,[],.int .u64 ((cy+g9 la i+g9 lb i:Nat):Int)),(20,[],.slice A la.length c),(21,[],.int .i64 la.length),(22,[],.int .i64 i)]/\L'=[.arr w 284 1 i (out.map bU).flatten]) ?_ (fun fr _ L33 μ _ hI=>?_)
   ·refine G.cd (fun h33=>?_) fun h33=>?_
    ·have hib:i<lb.length:=by simpa using h33
     refine G.rp 3 fun R hR=>?_;refine D.ak hsb.m_ U10 om_ (ig (i:=i) hib) fl_ (fun p37 hp37=>?_);refine D.aa hp37 ?_;refine D.int (((cy+g9 la i+g9 lb i:Nat):Int)) U4 (by rw [IntKind.wrap_u64];omega) U2 ?_;refine D.q6 1 1 5 6 20 21 22 hR ?_;clear hR R;refine G.aK 0 (Mem.le.refl _) (h_6 1 5 6 20 21 22) ⟨trivial,Z,Z⟩
    ·have hz:g9 lb i=0:=Gn (by have h:¬ i<lb.length:=(by simpa using h33);omega);refine G.aK 0 (Mem.le.refl _) (h_6 1 5 6 20 21 22) ⟨trivial,by rw [hz];rfl,Z⟩
   ·obtain ⟨htr,rfl,rfl⟩:=hI;refine G.rp 2 fun R hR=>?_;refine D.dV (cy+g9 la i+g9 lb i) (B9) U6 om_ U2 ?_;refine D.ah [bU ((cy+g9 la i+g9 lb i) % B9)] (fun p43 _ _ hs43=>?_);refine D.append (j:=0) U11 hs43 Z (by simp only [bz,maxLen];omega) (by show (i+1)*8<=_;omega) fl_ (fun v44=>?_);refine D.q6 1 1 5 6 20 21 22 hR ?_;clear hR R;refine G.rp 1 fun R hR=>?_;refine D.iZ (cy+g9 la i+g9 lb i) (B9) U6 om_ (.inr ⟨Z,by omega⟩) U2 ?_;refine D.q6 1 1 5 6 20 21 22 hR ?_;clear hR R;refine G.rg fun R hR=>?_;refine D.ar _ ?_;refine D.q6 1 1 5 6 20 21 22 hR ?_;clear hR R;have ecy:cy+g9 la i+g9 lb i=g9 la i+g9 lb i+cy:=by omega
    refine G.be (L':=[.arr v44 284 1 (i+1) ((out++[(g9 la i+g9 lb i+cy) % B9]).map bU).flatten]) (by rw [ecy];simp [bU]) ?_;rw [ecy];refine G.ax (m':=la.length-(i+1)) om_ mup (h_6 1 5 6 20 21 22) ⟨i+1,out++[(g9 la i+g9 lb i+cy) % B9],(g9 la i+g9 lb i+cy) / B9,v44,⟨by omega,by simp [hol],hod.snoc (K9 _ dc_),Df hga hgb hcy,DB hol hval⟩,Z,Z,Z⟩
  ·have hil:i=la.length:=by
    have:¬ i<la.length:=by simpa using h23
    omega
   refine G.aY [(4,3)] Z (fun R hR=>?_);refine D.ps 2 ?_;refine D.ah [bU cy] (fun p50 _ _ hs50=>?_);refine D.append (j:=0) U11 hs50 Z (by simp only [bz,maxLen];omega) (by show (i+1)*8<=_;omega) fl_ (fun v51=>?_);refine D.call (fH _ _ (out++[cy]) (n:=i+1) (by simp [hol])) Z (.inr dc_) U6 (by rw [LC,LK];exact il _) fl_ (fun v52 _ L52 _ hq52=>?_);obtain ⟨rfl,hu⟩:=hq52;refine D.q1 1 4 hR ?_;clear hR R;refine G.rf ?_;refine ⟨Z,zA (out++[cy]),gk (hod.snoc (DS hcy dc_)), ?_,hu⟩;rw [gj,gU,hol,hval,hil,cK,gG hll,hvv]
theorem ER (C:Mem)(va vb:Value)(a b:List Nat)(ha:Sl C 1 va (a.map bU))(hb:Sl C 1 vb (b.map bU))(hda:Dig9 a)(hdb:Dig9 b)(hla:a.length<=10000000)(hlb:b.length<=a.length)(hle:bc b<=bc a) :
  Pur cx.P 284 [va,vb] C fun u C'=>NineC C' u (bc a-bc b):=by
 obtain ⟨A0,c0,rfl,_⟩:=id ha;obtain ⟨B0,d0,rfl,_⟩:=id hb;simp only [aH] at ha hb ⊢;have hB:=B9v;refine Fn.it kr_ Tryz.func284 45 fun w0=>?_;refine G.z2 1 0 1 ?_;refine G.rp 2 fun R hR=>?_;refine D.bK U9 (ch _) (by show 8*a.length<=281474976710656;omega) (by simp only [maxLen];omega) fl_ (fun b12=>?_);refine D.q3 1 0 1 5 hR ?_;clear hR R;refine G.z4 1 0 1 5 6 ?_;refine G.z6 3 1 5 6 13 14 15 ?_;refine G.loop (fun fr C' L' μ=>∃ (i:Nat)(out:List Nat)(cy:Nat)(w:Value),(i<=a.length/\out.length=i/\Dig9 out/\cy<=1/\bc out+bc (b.take i)=bc (a.take i)+B9 ^ i*cy)/\fr=[(1,[],.slice B0 b.length d0),(5,[],w),(6,[],.int .u64 cy),(13,[],.slice A0 a.length c0),(14,[],.int .i64 a.length),(15,[],.int .i64 i)]/\L'=[.arr w 284 1 i (out.map bU).flatten]/\μ=a.length-i) (h_6 1 5 6 13 14 15) ⟨0,[],0,_,⟨ch _,Z,(fun x hx=>(by cases hx)),by omega,Z⟩,Z,Z,Z⟩ (fun fr C0' L0' m _ hI=>?_);obtain ⟨i,out,cy,w,⟨hi,hol,hod,hcy,hval⟩,rfl,rfl,rfl⟩:=hI;refine G.z7 1 1 5 6 13 14 15 16 ?_;refine G.cd (fun h16=>?_) fun h16=>?_
 ·have hil:i<a.length:=by simpa using h16
  have hga:=jp hda i;have hgb:=jp hdb i;refine G.rp 1 fun R hR=>?_;refine D.ak ha.m_ U10 om_ (ig (i:=i) hil) fl_ (fun p18 hp18=>?_);refine D.aa hp18 ?_;refine D.q8 2 1 5 6 7 8 13 14 15 hR ?_;clear hR R;refine G.z8 2 1 5 7 8 9 13 14 15 ?_;refine G.z9 4 1 5 7 8 9 13 14 15 24 ?_;refine G.cut (fun fr C' L' μ=>(True)/\fr=[(1,[],.slice B0 b.length d0),(5,[],w),(8,[],.int .u64 (g9 a i)),(9,[],.int .u64 ((cy+g9 b i:Nat):Int)),(13,[],.slice A0 a.length c0),(14,[],.int .i64 a.length),(15,[],.int .i64 i)]/\L'=[.arr w 284 1 i (out.map bU).flatten]) ?_ (fun fr _ L24 μ _ hI=>?_)
  ·refine G.cd (fun h24=>?_) fun h24=>?_
   ·have hib:i<b.length:=by simpa using h24
    refine G.rp 3 fun R hR=>?_;refine D.ak hb.m_ U10 om_ (ig (i:=i) hib) fl_ (fun p28 hp28=>?_);refine D.aa hp28 ?_;refine D.int (((cy+g9 b i:Nat):Int)) U4 (by rw [IntKind.wrap_u64];omega) U2 ?_;refine D.q7 1 1 5 8 9 13 14 15 hR ?_;clear hR R;refine G.aK 0 (Mem.le.refl _) (h_7 1 5 8 9 13 14 15) ⟨trivial,Z,Z⟩
   ·have hz:g9 b i=0:=Gn (by have h:¬ i<b.length:=(by simpa using h24);omega);refine G.aK 0 (Mem.le.refl _) (h_7 1 5 8 9 13 14 15) ⟨trivial,by rw [hz];rfl,Z⟩
  ·obtain ⟨htr,rfl,rfl⟩:=hI;refine G.z8 1 1 5 6 8 9 13 14 15 ?_;refine G.z9 3 1 5 6 8 9 13 14 15 33 ?_;refine G.cut (fun fr C' L' μ=>(True)/\fr=[(1,[],.slice B0 b.length d0),(5,[],w),(6,[],.int .u64 ((rN (g9 a i) (g9 b i) cy:Nat):Int)),(8,[],.int .u64 ((g9 a i+B9*rN (g9 a i) (g9 b i) cy:Nat):Int)),(9,[],.int .u64 ((cy+g9 b i:Nat):Int)),(13,[],.slice A0 a.length c0),(14,[],.int .i64 a.length),(15,[],.int .i64 i)]/\L'=[.arr w 284 1 i (out.map bU).flatten]) ?_ (fun fr _ L33 μ _ hI=>?_)
   ·refine G.cd (fun h33=>?_) fun h33=>?_
    ·have hbo:rN (g9 a i) (g9 b i) cy=1:=by
      have:(g9 a i:Int)<((cy+g9 b i:Nat):Int):=by simpa using h33
      unfold rN;rw [bW om_]
     refine G.rp 1 fun R hR=>?_;refine D.int (((g9 a i+B9*1:Nat):Int)) U4 (by rw [IntKind.wrap_u64];omega) U2 ?_;refine D.q8 2 1 5 6 8 9 13 14 15 hR ?_;clear hR R;refine G.aK 0 (Mem.le.refl _) (h_8 1 5 6 8 9 13 14 15) ⟨trivial,by rw [hbo];rfl,Z⟩
    ·have hbo:rN (g9 a i) (g9 b i) cy=0:=by
      have:¬ (g9 a i:Int)<((cy+g9 b i:Nat):Int):=by simpa using h33
      unfold rN;rw [a7 om_]
     refine G.aK 0 (Mem.le.refl _) (h_8 1 5 6 8 9 13 14 15) ⟨trivial,by rw [hbo];rfl,Z⟩
   ·obtain ⟨htr2,rfl,rfl⟩:=hI;refine G.rp 3 fun R hR=>?_;have hbl:rN (g9 a i) (g9 b i) cy<=1:=Di _ _ _;have hbs:cy+g9 b i<=g9 a i+B9*rN (g9 a i) (g9 b i) cy:=by
     unfold rN;split <;> omega
    refine D.int (((CL (g9 a i) (g9 b i) cy:Nat):Int)) U4 (by rw [IntKind.wrap_u64];unfold CL;rw [hB] at hbs ⊢;omega) U2 ?_;refine D.ah [bU (CL (g9 a i) (g9 b i) cy)] (fun p40 _ _ hs40=>?_);refine D.append (j:=0) U11 hs40 Z (by simp only [bz,maxLen];omega) (by show (i+1)*8<=_;omega) fl_ (fun v41=>?_);refine D.q6 1 1 5 6 13 14 15 hR ?_;clear hR R;refine G.rg fun R hR=>?_;refine D.ar _ ?_;refine D.q6 1 1 5 6 13 14 15 hR ?_;clear hR R;refine G.be (L':=[.arr v41 284 1 (i+1) ((out++[CL (g9 a i) (g9 b i) cy]).map bU).flatten]) (by simp [bU]) ?_;refine G.ax (m':=a.length-(i+1)) om_ mup (h_6 1 5 6 13 14 15) ⟨i+1,out++[CL (g9 a i) (g9 b i) cy],rN (g9 a i) (g9 b i) cy,v41,⟨by omega,by simp [hol],hod.snoc (HU hga hgb hcy),Di _ _ _,Ag hdb hcy hol hval⟩,Z,Z,Z⟩
 ·have hil:i=a.length:=by
   have:¬ i<a.length:=by simpa using h16
   omega
  refine G.aY [(1,3)] Z (fun R hR=>?_);refine D.ac ?_;refine D.call (fH _ _ out (n:=i) hol) Z (.inr dc_) U6 (il _) fl_ (fun v44 _ L44 _ hq44=>?_);obtain ⟨rfl,hu⟩:=hq44;refine D.q1 1 4 hR ?_;clear hR R;refine G.rf ?_;refine ⟨Z,zA out,gk hod, ?_,hu⟩;rw [hil,cK,gG hlb] at hval;have h0:=gV hod;rw [hol,hil] at h0;have hc0:cy=0:=by
   rcases Mx.1 hcy with h | h
   ·exact h
   ·rw [h,Nl] at hval;omega
  rw [hc0,N9] at hval;rw [gj];omega

abbrev qU (g c n:Nat):Value:=.slice (some ⟨g,0,none⟩) n c
theorem zC (n:Nat):nY ([.int .u64 0]:List Value) n=((List.replicate n 0).map bU).flatten:=by
 rw [dM,Ob];rfl
theorem nj {l:List Nat}{i j z:Nat}(h:i≠j):g9 (l.set i z) j=g9 l j:=by
 unfold g9;rw [aF,aF,ND h]
theorem wN (n j:Nat):g9 (List.replicate n 0) j=0:=by
 unfold g9;rw [aF,NJ];split <;> rfl
theorem Eb (C:Mem)(va vb:Value)(a b:List Nat)(ha:Sl C 1 va (a.map bU))(hb:Sl C 1 vb (b.map bU))(hda:Dig9 a)(hdb:Dig9 b)(hla:a.length<=1000000)(hlb:b.length<=1000000) :
  Pur cx.P 269 [va,vb] C fun u C'=>NineC C' u (bc a*bc b):=by
 obtain ⟨A0,c0,rfl,_⟩:=id ha;obtain ⟨B0,d0,rfl,_⟩:=id hb;simp only [aH] at ha hb ⊢;have hB:=B9v;obtain ⟨N,hN⟩:∃ N,a.length+b.length+1=N:=⟨_,rfl⟩;refine Fn.it kr_ Tryz.func269 79 fun w0=>?_;refine G.z2 1 0 1 ?_;refine G.rp 4 fun R hR=>?_;refine D.cf (((a.length+b.length:Nat):Int)) U4 om_ om_ om_ U2 ?_;refine D.cf (((N:Nat):Int)) U4 om_ om_ om_ U2 ?_;refine D.bK U9 (aP _) (by show 8*N<=281474976710656;omega) (by simp only [maxLen];omega) fl_ (fun b18=>?_);refine D.q3 1 0 1 5 hR ?_;clear hR R;refine G.z5 3 1 5 19 20 21 ?_;refine G.be (L':=[.arr (qU b18 N N) 284 1 N ((List.replicate N 0).map bU).flatten]) (by rw [<- zC];rfl) ?_;refine G.loop (fun fr C' L' μ=>∃ (i:Nat)(o:List Nat),(i<=a.length/\o.length=N/\Dig9 o/\bc o=bc (a.take i)*bc b/\∀ j,i+b.length<=j->g9 o j=0)/\fr=[(1,[],.slice B0 b.length d0),(5,[],qU b18 N N),(19,[],.slice A0 a.length c0),(20,[],.int .i64 a.length),(21,[],.int .i64 i)]/\L'=[.arr (qU b18 N N) 284 1 N (o.map bU).flatten]/\μ=a.length-i) (h_5 1 5 19 20 21) ⟨0,List.replicate N 0,⟨ch _,LW,(fun x hx=>by rw [LH hx];decide),by rw [oC (fun x hx=>LH hx)];simp [bc],fun j _=>wN _ j⟩,Z,Z,Z⟩ (fun fr C0' L0' m _ hI=>?_);obtain ⟨i,o,⟨hi,hol,hod,hval,hz⟩,rfl,rfl,rfl⟩:=hI;refine G.z6 1 1 5 19 20 21 22 ?_;refine G.cd (fun h22=>?_) fun h22=>?_
 ·have hil:i<a.length:=by simpa using h22
  have hx:=jp hda i;refine G.rp 1 fun R hR=>?_;refine D.ak ha.m_ U10 om_ (ig (i:=i) hil) fl_ (fun p24 hp24=>?_);refine D.aa hp24 ?_;refine D.q7 2 1 5 6 7 19 20 21 hR ?_;clear hR R;refine G.z8 1 1 5 6 7 8 19 20 21 ?_;refine G.tM 3 1 5 6 7 8 19 20 21 26 27 28 ?_;refine G.loop (fun fr C' L' μ=>∃ (k:Nat)(q:List Nat)(c:Nat),(k<=b.length/\q.length=N/\Dig9 q/\c<B9/\bc q+B9 ^ (i+k)*c=bc o+B9 ^ i*(g9 a i*bc (b.take k))/\∀ j,i+b.length<=j->g9 q j=0)/\fr=[(1,[],.slice B0 b.length d0),(5,[],qU b18 N N),(6,[],.int .i64 i),(7,[],.int .u64 (g9 a i)),(8,[],.int .u64 c),(19,[],.slice A0 a.length c0),(20,[],.int .i64 a.length),(21,[],.int .i64 i),(26,[],.slice B0 b.length d0),(27,[],.int .i64 b.length),(28,[],.int .i64 k)]/\L'=[.arr (qU b18 N N) 284 1 N (q.map bU).flatten]/\μ=b.length-k) (h_11 1 5 6 7 8 19 20 21 26 27 28) ⟨0,o,0,⟨ch _,hol,hod,by decide,by simp [bc],hz⟩,Z,Z,Z⟩ (fun fr C1' L1' m _ hI=>?_);obtain ⟨k,q,c,⟨hk,hql,hqd,hc,hqv,hqz⟩,rfl,rfl,rfl⟩:=hI;refine G.FL 1 1 5 6 7 8 19 20 21 26 27 28 29 ?_;refine G.cd (fun h29=>?_) fun h29=>?_
  ·have hkl:k<b.length:=by simpa using h29
   have hy:=jp hdb k;have ho:=jp hqd (i+k);have hget:q[i+k]?=some (g9 q (i+k)):=sZ om_;have hbound:=o1 hc hx hy ho;rw [show B9*B9=1000000000000000000 from rfl] at hbound;refine G.rp 1 fun R hR=>?_;refine D.ak hb.m_ U10 om_ (ig (i:=k) hkl) fl_ (fun p31 hp31=>?_);refine D.aa hp31 ?_;refine D.zq 2 1 5 6 7 8 9 10 19 20 21 26 27 28 hR ?_;clear hR R;refine G.rp 4 fun R hR=>?_;refine D.cf (((i+k:Nat):Int)) U4 om_ om_ om_ U2 ?_;refine D.bu ((i+k)*1) U10 (fun _=>⟨by omega,by omega,Z⟩) U2 ?_;refine D.er (.head _) U6 (fun _=>(by rw [fm dT hget];rfl)) U2 ?_;refine D.ps 2 ?_;refine D.int (((g9 a i*g9 b k:Nat):Int)) U4 (by rw [<- La,IntKind.wrap_u64];omega) U2 ?_;refine D.int (((g9 q (i+k)+g9 a i*g9 b k:Nat):Int)) U4 (by rw [IntKind.wrap_u64];omega) U2 ?_;refine D.int (((c+g9 a i*g9 b k+g9 q (i+k):Nat):Int)) U4 (by rw [IntKind.wrap_u64];omega) U2 ?_;refine D.q12 1 1 5 6 7 8 9 19 20 21 26 27 28 hR ?_;clear hR R;refine G.rp 3 fun R hR=>?_;refine D.cf (((i+k:Nat):Int)) U4 om_ om_ om_ U2 ?_;refine D.ac ?_;refine D.dV (c+g9 a i*g9 b k+g9 q (i+k)) (B9) U6 om_ U2 ?_;refine D.bu ((i+k)*1) U10 (fun _=>⟨by omega,by omega,Z⟩) U2 ?_;refine D.bE (j:=0) U11 (by show (i+k)*1+1<=_;rw [cX dT,hql];omega) ?_;refine D.nX 1 5 6 7 8 19 20 21 26 27 28 hR ?_;clear hR R;refine G.rp 1 fun R hR=>?_;refine D.iZ (c+g9 a i*g9 b k+g9 q (i+k)) (B9) U6 om_ (.inr ⟨Z,by omega⟩) U2 ?_;refine D.lF 1 1 5 6 7 8 19 20 21 26 27 28 hR ?_;clear hR R;refine G.rg fun R hR=>?_;refine D.ar _ ?_;refine D.lF 1 1 5 6 7 8 19 20 21 26 27 28 hR ?_;clear hR R;refine G.be (L':=[.arr (qU b18 N N) 284 1 N ((q.set (i+k) ((c+g9 a i*g9 b k+g9 q (i+k)) % B9)).map bU).flatten]) (by rw [<- bV dT _ (by omega:i+k<q.length)];rfl) ?_;refine G.ax (m':=b.length-(k+1)) om_ mup (h_11 1 5 6 7 8 19 20 21 26 27 28) ⟨k+1,q.set (i+k) ((c+g9 a i*g9 b k+g9 q (i+k)) % B9),(c+g9 a i*g9 b k+g9 q (i+k)) / B9,⟨by omega,by simp [hql],hqd.set (K9 _ dc_),De hc hx hy ho,Bu hget Z hqv,fun j hj=>by rw [nj om_];exact hqz j hj⟩,Z,Z,Z⟩
  ·have hkl:k=b.length:=by
    have:¬ k<b.length:=by simpa using h29
    omega
   refine G.rp 3 fun R hR=>?_;refine D.cf (((i+b.length:Nat):Int)) U4 om_ om_ om_ U2 ?_;refine D.q7 1 1 5 8 11 19 20 21 hR ?_;clear hR R;refine G.loop (fun fr C' L' μ=>∃ (m:Nat)(q2:List Nat)(c2:Nat),(i+b.length<=m/\m<=i+b.length+1/\q2.length=N/\Dig9 q2/\c2<B9/\(m=i+b.length+1->c2=0)/\(m=i+b.length->g9 q2 m=0)/\bc q2+B9 ^ m*c2=bc o+B9 ^ i*(g9 a i*bc b)/\∀ j,i+b.length+1<=j->g9 q2 j=0)/\fr=[(1,[],.slice B0 b.length d0),(5,[],qU b18 N N),(8,[],.int .u64 c2),(11,[],.int .i64 m),(19,[],.slice A0 a.length c0),(20,[],.int .i64 a.length),(21,[],.int .i64 i)]/\L'=[.arr (qU b18 N N) 284 1 N (q2.map bU).flatten]/\μ=2-(m-(i+b.length))) (h_7 1 5 8 11 19 20 21) ⟨i+b.length,q,c,⟨aP _,by omega,hql,hqd,hc,fun h=>by omega,fun _=>hqz _ (aP _),by rw [hkl,cK] at hqv;exact hqv,fun j hj=>hqz j om_⟩,Z,Z,Z⟩ (fun fr C2' L2' m _ hI=>?_);obtain ⟨m,q2,c2,⟨hm1,hm2,hql2,hqd2,hc2,hcz,hqm,hqv2,hqz2⟩,rfl,rfl,rfl⟩:=hI;refine G.z8 2 1 5 8 11 19 20 21 60 ?_;refine G.cd (fun h60=>?_) fun h60=>?_
   ·have hc0:0<c2:=by
     have:(0:Int)<(c2:Int):=by simpa using h60
     omega
    have hm3:m=i+b.length:=by
     rcases Ld m (i+b.length+1) with h | h
     ·omega
     ·have:=hcz om_;omega
    have hg0:=hqm hm3;have hget2:q2[m]?=some (g9 q2 m):=sZ om_;refine G.rp 3 fun R hR=>?_;refine D.bu (m*1) U10 (fun _=>⟨by omega,by omega,Z⟩) U2 ?_;refine D.er (.head _) U6 (fun _=>(by rw [fm dT hget2];rfl)) U2 ?_;refine D.int (((c2+g9 q2 m:Nat):Int)) U4 (by rw [IntKind.wrap_u64];omega) U2 ?_;refine D.q7 1 1 5 8 11 19 20 21 hR ?_;clear hR R;refine G.rp 3 fun R hR=>?_;refine D.dV (c2+g9 q2 m) (B9) U6 om_ U2 ?_;refine D.bu (m*1) U10 (fun _=>⟨by omega,by omega,Z⟩) U2 ?_;refine D.bE (j:=0) U11 (by show m*1+1<=_;rw [cX dT,hql2];omega) ?_;refine D.e7 1 5 8 11 19 20 21 hR ?_;clear hR R;refine G.rp 1 fun R hR=>?_;refine D.iZ (c2+g9 q2 m) (B9) U6 om_ (.inr ⟨Z,by omega⟩) U2 ?_;refine D.q7 1 1 5 8 11 19 20 21 hR ?_;clear hR R;refine G.rp 1 fun R hR=>?_;refine D.ar _ ?_;refine D.q7 1 1 5 8 11 19 20 21 hR ?_;clear hR R;have hcm:(c2+g9 q2 m) % B9=c2:=by rw [hg0,Mc];exact Mw hc2
    have hcd:(c2+g9 q2 m) / B9=0:=by rw [hg0,Mc];exact Mr hc2
    refine G.be (L':=[.arr (qU b18 N N) 284 1 N ((q2.set m c2).map bU).flatten]) (by rw [hcm,<- bV dT _ (by omega:m<q2.length)];rfl) ?_;rw [hcd];refine G.ax (m':=2-(m+1-(i+b.length))) om_ mup (h_7 1 5 8 11 19 20 21) ⟨m+1,q2.set m c2,0,⟨by omega,by omega,by simp [hql2],hqd2.set hc2,by decide,fun _=>rfl,fun h=>by omega,by
     have h1:=pV (z:=c2) hget2;rw [hg0] at h1;omega,fun j hj=>by rw [nj om_];exact hqz2 j hj⟩,rfl,rfl,rfl⟩
   ·have hc0:c2=0:=by
     have:¬ (0:Int)<(c2:Int):=by simpa using h60
     omega
    refine G.rg fun R hR=>?_;refine D.ar _ ?_;refine D.q5 1 1 5 19 20 21 hR ?_;clear hR R;refine G.ax (m':=a.length-(i+1)) om_ mup (h_5 1 5 19 20 21) ⟨i+1,q2,⟨by omega,hql2,hqd2,by
     rw [hc0,N9,Mc] at hqv2;rw [kh,L9,<- hval,K7];exact hqv2,fun j hj=>hqz2 j om_⟩,Z,Z,Z⟩
 ·have hil:i=a.length:=by
   have:¬ i<a.length:=by simpa using h22
   omega
  refine G.aY [(1,3)] Z (fun R hR=>?_);refine D.ac ?_;refine D.call (fH _ _ o hol) Z (.inr dc_) U6 (il _) fl_ (fun v78 _ L78 _ hq78=>?_);obtain ⟨rfl,hu⟩:=hq78;refine D.q1 1 4 hR ?_;clear hR R;refine G.rf ?_;refine ⟨Z,zA o,gk hod, ?_,hu⟩;rw [gj,hval,hil,cK]

theorem pA {l:List Nat}(h:tU l){m:Nat}(hv:bc l<B9 ^ m):l.length<=m:=by
 rcases Ld m l.length with h1 | h1
 ·have h2:=rz h om_;have h3:B9 ^ m<=B9 ^ (l.length-1):=gr dc_ om_;omega
 ·exact h1
theorem NineC.get {C:Mem}{v:Value}{n:Nat}(h:NineC C v n){m:Nat}(hn:n<B9 ^ m):∃ l,tU l/\bc l=n/\l.length<=m/\Sl C 1 v (l.map bU):=by
 obtain ⟨l,h1,h2,h3⟩:=h;exact ⟨l,h1,h2,pA h1 (by rw [h2];exact hn),h3⟩
theorem NineC.zero (C:Mem):NineC C (.slice none 0 0) 0:=⟨[],⟨(fun x hx=>(by cases hx)),by simp⟩,rfl,Sl.nil C 1⟩
theorem NineC.form {C:Mem}{v:Value}{n:Nat}(h:NineC C v n):∃ A m c,v=.slice A m c:=by
 obtain ⟨l,_,_,A,c,h,_⟩:=h;exact ⟨A,_,c,h⟩
theorem da {m n k:Nat}(h:m<B9 ^ n)(hk:n<=k):m<B9 ^ k:=K4 h (gr dc_ hk)
theorem mO (C:Mem){u v:Value}{m n:Nat}(hu:NineC C u m)(hv:NineC C v n):Gives cx.P 300 [u,v] C (.int .i64 (iw m n)):=by
 obtain ⟨a,h1,h2,h3⟩:=hu;obtain ⟨b,h4,h5,h6⟩:=hv;rw [<- h2,<- h5];exact Bj C u v a b h3 h6 h1 h4
theorem Ge (C:Mem){u v:Value}{m n k:Nat}(hu:NineC C u m)(hv:NineC C v n)(hm:m<B9 ^ k)(hn:n<B9 ^ k)(hk:k<=1000000):Pur cx.P 283 [u,v] C fun w D=>NineC D w (m+n):=by
 obtain ⟨a,h1,h2,h3,h4⟩:=hu.get hm;obtain ⟨b,h5,h6,h7,h8⟩:=hv.get hn;rw [<- h2,<- h6];exact Hb C u v a b h4 h8 h1.1 h5.1 om_ om_
theorem qI (C:Mem){u v:Value}{m n k:Nat}(hu:NineC C u m)(hv:NineC C v n)(hm:m<B9 ^ k)(hle:n<=m)(hk:k<=1000000):Pur cx.P 284 [u,v] C fun w D=>NineC D w (m-n):=by
 obtain ⟨a,h1,h2,h3,h4⟩:=hu.get hm;obtain ⟨b,h5,h6,h7⟩:=hv;rw [<- h2,<- h6];refine ER C u v a b h4 h7 h1.1 h5.1 om_ ?_ om_;rcases Ld a.length b.length with h | h
 ·have:=qL h1.1 h5 h;omega
 ·exact h
theorem zX (C:Mem){u v:Value}{m n k:Nat}(hu:NineC C u m)(hv:NineC C v n)(hm:m<B9 ^ k)(hn:n<B9 ^ k)(hk:k<=1000000):Pur cx.P 269 [u,v] C fun w D=>NineC D w (m*n):=by
 obtain ⟨a,h1,h2,h3,h4⟩:=hu.get hm;obtain ⟨b,h5,h6,h7,h8⟩:=hv.get hn;rw [<- h2,<- h6];exact Eb C u v a b h4 h8 h1.1 h5.1 om_ om_
theorem r3 (C:Mem){u:Value}{l:List Nat}(hd:Dig9 l)(hu:Sl C 1 u (l.map bU)):Pur cx.P 304 [u] C fun w D=>NineC D w (bc l) :=
 (vL C u l hu).mono fun _w _D _L' _ ⟨h1,h2⟩=>⟨h1,zA l,gk hd,gj l,h2⟩
theorem t6 (C:Mem){u:Value}{m d k:Nat}(hu:NineC C u m)(hm:m<B9 ^ k)(hd:d<B9)(hk:k<=999999):Pur cx.P 310 [u,.int .u64 d] C fun w D=>NineC D w (m*d):=by
 obtain ⟨A,n,c,rfl⟩:=hu.form;refine Fn.it kr_ Tryz.func310 10 fun w0=>?_;refine G.z2 1 0 1 ?_;refine G.rp 2 fun R hR=>?_;refine D.ah [bU d] (fun p7 _ _ hs7=>?_);refine D.au (r3 _ (l:=[d]) (fun x hx=>by rw [K5.1 hx];exact hd) hs7) U7 fl_ (fun v8 _ _ hq8=>?_);refine D.au (zX (k:=k+1) _ hu.m_ hq8 (da hm om_) (by show d+B9*0<_;rw [Lb];have:0<B9 ^ k:=Mz dc_;have h2:=Lm B9 this;omega) om_) U7 fl_ (fun v9 _ _ hq9=>?_);refine D.q1 1 4 hR ?_;refine G.rf ?_;refine ⟨Z, ?_⟩;have e:bc [d]=d:=by show d+B9*0=d;omega
 rw [e] at hq9;exact hq9
open Go Go.Jog Go.RowKit Go.Shelf
attribute [local go_sem] Oper.semAt_some

set_option maxRecDepth 100000 in
theorem FE (l Bs b off len cap:Nat)(zs:Nat->Int)(hlen:len<1000000)(J:Nat->World->Prop)
  (hJ:∀ k W,J k W->W.cell? ⟨Bs,0,none⟩=some (.slice (some ⟨b,off,none⟩) len cap)/\∀ j,j<len->W.cell? ⟨b,off+j,none⟩=some (.int .u64 (zs j)))
  (hY:∀ k W,J k W->k<len->YieldAt Fence.wide 1 Tryz.prog l #[.int .i64 ((len-1-k:Nat):Int),.int .u64 (zs (len-1-k))] W fun e W'=>e=.returned (.bool true)/\J (k+1) W')
  (W:World) (h0:J 0 W) :
  CallsIn Fence.wide 2 Tryz.prog 325 #[.func (.yield l) #[] #[],.pointer (some ⟨Bs,0,none⟩)] W fun e W'=>(∃ v,e=.returned v)/\J len W':=by
 refine callsIn_of_wp Tryz.func325 Z trivial ?_ Z;simp only [Tryz.ntmps325,MQ,fh,J8,Nat.reduceAdd,Nat.reduceSub,OG,OH,List.push_toArray,List.append_toArray,MS,LM];have hBs:=(hJ 0 W h0).1
 gi_wp2
 gi_loopw [3] (fun i wr=>∃ k:Nat,k<=len/\i=.int .i64 ((len:Int)-1-k)/\J k wr) (fun i _=>(intOf i+1).toNat)
 case atStart=>exact ⟨0,ch _,by simp,h0⟩
 case round =>
  obtain ⟨k,hk,rfl,hJs⟩:=hrel;obtain ⟨hB2,hcx⟩:=hJ k wr hJs;by_cases hlt:k<len
  ·obtain ⟨fn,tmps,assign,body,hy,hR⟩:=hY k wr hJs hlt;have hcx':=hcx (len-1-k) om_;have e1:((len-1-k:Nat):Int)=(len:Int)-1-k:=by omega
   rw [e1] at hy
   gi_wp2
   refine hR.mono ?_;rintro e W3 ⟨rfl,hJ3⟩
   gi_wp2
   go_roundw
   case rel=>exact ⟨k+1,by omega,by congr 1;omega,hJ3⟩
   case measure=>simp [intOf];omega
  ·obtain rfl:k=len:=by omega
   gi_wp2
   go_end0
   exact ⟨⟨_,Z⟩,hJs⟩

set_option maxRecDepth 100000 in
theorem tH (l Bs:Nat)(A:Option Addr)(cap:Nat)(J:Nat->World->Prop)(W:World)(hBs:W.cell? ⟨Bs,0,none⟩=some (.slice A 0 cap))(h0:J 0 W) :
  CallsIn Fence.wide 2 Tryz.prog 325 #[.func (.yield l) #[] #[],.pointer (some ⟨Bs,0,none⟩)] W fun e W'=>(∃ v,e=.returned v)/\J 0 W':=by
 refine callsIn_of_wp Tryz.func325 Z trivial ?_ Z;simp only [Tryz.ntmps325,MQ,fh,J8,Nat.reduceAdd,Nat.reduceSub,OG,OH,List.push_toArray,List.append_toArray,MS,LM]
 gi_wp2
 gi_loopw [3] (fun i wr=>i=.int .i64 (-1)/\J 0 wr) (fun _ _=>0)
 case atStart=>exact ⟨rfl,h0⟩
 case round =>
  obtain ⟨rfl,hJs⟩:=hrel
  gi_wp2
  go_end0
  exact ⟨⟨_,Z⟩,hJs⟩

def Dp (xs:List Nat):List (Value × Value):=(List.range xs.length).map fun k=>(.int .i64 ((xs.length-1-k:Nat):Int),.int .u64 ((xs.getD (xs.length-1-k) 0:Nat):Int))
theorem ff (xs:List Nat):(Dp xs).length=xs.length:=by simp [Dp]
theorem rB {xs:List Nat}{k:Nat}(h:k<xs.length):(Dp xs)[k]?=some (.int .i64 ((xs.length-1-k:Nat):Int),.int .u64 ((xs.getD (xs.length-1-k) 0:Nat):Int)):=by
 simp [Dp,h]
theorem pB (C:Mem)(b t:Nat)(v:Value)(xs:List Nat)(hb:C b=some (.cells ⟨[v]⟩ t (0,0)))(hv:Sl C 1 v (xs.map fun n:Nat=>[Value.int .u64 (n:Int)]))(hl:xs.length<1000000) :
  Kk Tryz.prog 325 #[.pointer (some ⟨b,0,none⟩)] C (Dp xs):=by
 intro l J W hC hD hY h0;obtain ⟨A,cap,rfl,hlc,_,_,hcells⟩:=hv;rw [aH] at *;have hcell:∀ {W:World}{k:Nat},J k W->W.cell? ⟨b,0,none⟩=some (.slice A xs.length cap):=fun {W k} hj=>by
  simp [World.cell?,hC k W hj b _ hb]
 rw [ff];rcases LV xs.length with h | h
 ·have h1:=hcell h0;rw [h] at h1 ⊢;exact tH l b A cap J W h1 h0
 ·obtain ⟨ad,rfl,hsp,_⟩:=hcells 0 _ (aq (by simpa using h));obtain ⟨ab,ao,asp⟩:=ad;simp only at hsp;subst hsp;refine FE l b ab ao xs.length cap (fun j=>((xs.getD j 0:Nat):Int)) hl J (fun k W hj=>⟨hcell hj,fun j hj2=>?_⟩) (fun k W hj hk=>hY k _ W hj (rB hk)) W h0;have h3:(xs.map fun n:Nat=>[Value.int .u64 (n:Int)])[j]?=some [Value.int .u64 ((xs.getD j 0:Nat):Int)]:=by
   simp [hj2]
  obtain ⟨a2,h4,_,h5⟩:=hcells j _ h3;cases h4
  have h6:=h5 0 _ rfl;rw [Addr.add_lit] at h6;obtain ⟨_,blk,t2,fz,h7,h8⟩:=h6;simp only at h7;simp only [World.cell?,hC k W hj ab _ h7];simpa using h8

theorem xj (C:Mem)(A:Option Addr)(n c:Nat):Pur cx.P 306 [.slice A n c] C fun r C'=>∃ b,r=.func (.func 325) #[] #[.pointer (some ⟨b,0,none⟩)]/\C' b=some (.cells ⟨[.slice A n c]⟩ 367 (0,0)):=by
 refine Fn.it kr_ Tryz.func306 4 fun w0=>?_;refine G.rg fun R hR=>?_;refine D.aD (fun b1=>?_);refine D.q1 1 1 hR ?_;refine G.z1 2 2 ?_;refine G.freeze 0 Z (fun Cf hf hb1=>?_);refine G.rf ?_;exact ⟨Z,_,Z,hb1⟩


def cY (x:Nat):List Value:=[.int .u32 x]
theorem dr (x:Nat):(cY x).length=1:=rfl
def NatC (C:Mem)(v:Value)(n:Nat):Prop:=∃ l,FZ l/\bh l=n/\Sl C 1 v (l.map cY)
theorem NatC.mono {C D:Mem}{v:Value}{n:Nat}(h:NatC C v n)(hl:C.le D):NatC D v n:=by
 obtain ⟨l,h1,h2,h3⟩:=h;exact ⟨l,h1,h2,h3.mono hl⟩
theorem NatC.m_ {C D:Mem}{v:Value}{n:Nat}(h:NatC C v n)(hl:C.le D:=by exact mup):NatC D v n:=NatC.mono h hl
theorem zS (C:Mem)(v:Value)(l:List Nat)(hv:Sl C 1 v (l.map cY)):Pur cx.P 146 [v] C fun u C'=>Sl C' 1 u ((mq l).map cY):=by
 obtain ⟨A0,c0,rfl,hlc,_⟩:=id hv;simp only [aH] at hv hlc ⊢;refine Fn.it kr_ Tryz.func146 21 fun w0=>?_;refine G.z1 1 0 ?_;refine G.loop (fun fr C' L' μ=>∃ (k:Nat)(A:Option Addr)(c:Nat),(k<=l.length/\Sl C' 1 (.slice A k c) ((l.take k).map cY)/\ku l l.length=ku l k)/\fr=[(0,[],.slice A k c)]/\L'=[]/\μ=k+1) (h_1 0) ⟨l.length,A0,c0,⟨aP _,by rw [cK];exact hv,Z⟩,Z,Z,Z⟩ (fun fr C0' L0' m _ hI=>?_);obtain ⟨k,A,c,⟨hk,hs,ht⟩,rfl,rfl,rfl⟩:=hI;obtain ⟨_,c9,hqe,hkc,_⟩:=id hs;have hmx:maxLen<=9223372036854775807:=by simp [maxLen]
 have hkc2:k<=c:=by
  rw [aH,eB] at hkc;injection hqe with h1 h2 h3;omega
 have hrow:0<k->((l.take k).map cY)[((k:Int)-1).toNat]?=some (cY (gD l (k-1))):=fun h=>by
  rw [show ((k:Int)-1).toNat=k-1 by omega,bX,Ly,bW om_,aq (by omega:k-1<l.length)];unfold gD;rw [aF,aq (by omega:k-1<l.length)];rfl
 refine G.rp 7 fun R hR=>?_;refine D.ar _ ?_;refine D.index U10 (fun hg=>⟨hs,(by have h:decide ((0:Int)<(k:Int))=true:=hg.1;simp at h;omega),hrow (by have h:decide ((0:Int)<(k:Int))=true:=hg.1;simp at h;omega)⟩) fl_ Z (fun p11 hp11=>?_);refine D.aN U6 hp11 U3 ?_;refine D.ac ?_;refine D.aw ?_;refine D.e2 0 14 hR ?_;refine G.cd (fun h14=>?_) fun h14=>?_
 ·have hk0:0<k/\gD l (k-1)=0:=by
   have:(0:Int)<(k:Int)/\((gD l (k-1):Nat):Int)=0:=by simpa using h14
   omega
  refine G.rp 3 fun R hR=>?_;refine D.cf (((k-1:Nat):Int)) U4 om_ om_ om_ U2 ?_;refine D.fp 0 (k-1) c U12 (fun _=>⟨.inl ⟨Z,Z⟩,.inr ⟨_,Z⟩,.inl ⟨Z,Z⟩,by omega,by omega,aP _⟩) U2 ?_;refine D.q1 1 0 hR ?_;have hsub:=Sl.sub hs (l:=0) (h:=k-1) (m:=c) (ch _) (by simp;omega) om_ (aP _);have esub:(((l.take k).map cY).take (k-1)).drop 0=(l.take (k-1)).map cY:=by
   rw [LR,<- Ov,NR,Lt om_]
  rw [esub] at hsub;have etr:ku l l.length=ku l (k-1):=by
   rw [ht];obtain ⟨j,rfl⟩:∃ j,k=j+1:=⟨k-1,by omega⟩;simp only [M1] at hk0 ⊢;rw [ku,bW];unfold gD at hk0;rw [aF,aq om_] at hk0;rw [aq om_];exact congrArg some hk0.2
  refine G.ax (m':=k-1+1) om_ mup (h_1 0) ⟨k-1,_,c,⟨by omega,hsub.mono mup,etr⟩,Z,Z,Z⟩
 ·have hk0:¬ (0<k/\gD l (k-1)=0):=fun hh=>by
   have h1:(decide ((0:Int)<(k:Int)) && (((gD l (k-1):Nat):Int) == 0))=true:=by
    rw [hh.2];simp;omega
   rw [h1] at h14;cases h14
  refine G.z1 2 2 ?_;refine G.rf ?_;refine ⟨Z, ?_⟩;have e:ku l k=k:=by
   cases k with
   | zero=>rfl
   | succ j =>
    simp only [M1] at hk0;rw [ku,a7];intro h;refine hk0 ⟨by omega, ?_⟩;unfold gD;rw [aF,h];rfl
  unfold mq;rw [ht,e];exact hs
def xQ (m n:Nat)(z:Int):Prop:=(z<0 ↔ m<n)/\(0<z ↔ n<m)/\-9223372036854775808<=z/\z<=9223372036854775807
theorem y5 (C:Mem)(va vb:Value)(a b:List Nat)(ha:Sl C 1 va (a.map cY))(hb:Sl C 1 vb (b.map cY))(hca:FZ a)(hcb:FZ b):Pur cx.P 81 [va,vb] C fun u _=>∃ z:Int,u=.int .i64 z/\xQ (bh a) (bh b) z:=by
 have hmx:maxLen<=9223372036854775807:=by simp [maxLen]
 obtain ⟨A0,c0,rfl,hla,hla2,_⟩:=id ha;obtain ⟨B0,d0,rfl,hlb,hlb2,_⟩:=id hb;simp only [aH] at ha hb hla hlb ⊢;refine Fn.it kr_ Tryz.func81 43 fun w0=>?_;refine G.z2 1 0 1 ?_;refine G.z3 5 0 1 10 ?_;refine G.cd (fun h10=>?_) fun h10=>?_
 ·have hne:a.length≠b.length:=fun e=>by
   rw [e] at h10;simp at h10
  refine G.rp 4 fun R hR=>?_;refine D.ar _ ?_;refine D.q1 1 4 hR ?_;refine G.rf ?_;refine ⟨Z,_,Z, ?_⟩;rcases Ld a.length b.length with h | h
  ·have:=BF hca.1 hcb h;refine ⟨?_, ?_, ?_, ?_⟩ <;> omega
  ·have:=BF hcb.1 hca om_;refine ⟨?_, ?_, ?_, ?_⟩ <;> omega
 ·have hlen:a.length=b.length:=by
   have:(a.length:Int)=b.length:=by simpa using h10
   omega
  refine G.rp 2 fun R hR=>?_;refine D.ar _ ?_;refine D.q3 1 0 1 5 hR ?_;refine G.loop (fun fr C' L' μ=>∃ (k:Nat),(k<=a.length/\a.drop k=b.drop k)/\fr=[(0,[],.slice A0 a.length c0),(1,[],.slice B0 b.length d0),(5,[],.int .i64 ((k:Int)-1))]/\L'=[]/\μ=k+1) (h_3 0 1 5) ⟨a.length,⟨aP _,by rw [LI,hlen,LI]⟩,Z,Z,Z⟩ (fun fr C0' L0' m _ hI=>?_);obtain ⟨k,⟨hk,he⟩,rfl,rfl,rfl⟩:=hI;refine G.z4 2 0 1 5 20 ?_;refine G.cd (fun h20=>?_) fun h20=>?_
  ·have hk0:0<k:=by
    have:(0:Int)<=(k:Int)-1:=by simpa using h20
    omega
   obtain ⟨j,rfl⟩:∃ j,k=j+1:=⟨k-1,by omega⟩;obtain ⟨x,hx⟩:∃ x,a[j]?=some x:=⟨a[j],aq om_⟩;obtain ⟨y,hy⟩:∃ y,b[j]?=some y:=⟨b[j],aq om_⟩;have hrx:(a.map cY)[(((j+1:Nat):Int)-1).toNat]?=some (cY x):=by
    rw [show (((j+1:Nat):Int)-1).toNat=j by omega,bX,hx];rfl
   have hry:(b.map cY)[(((j+1:Nat):Int)-1).toNat]?=some (cY y):=by
    rw [show (((j+1:Nat):Int)-1).toNat=j by omega,bX,hy];rfl
   refine G.aG [0,1,2,3,4,5,6,7,8,9] [] Z kr_ (fun R hB hR=>?_);refine D.ps 2 ?_;refine D.ak ha.m_ U10 om_ hrx fl_ (fun p26 hp26=>?_);refine D.aa hp26 ?_;refine D.ps 2 ?_;refine D.ak hb.m_ U10 om_ hry fl_ (fun p30 hp30=>?_);refine D.aa hp30 ?_;refine D.q4 2 0 1 5 23 hR ?_;refine G.cd (fun h23=>?_) fun h23=>?_
   ·have hxy:x<y:=by
     have:(x:Int)<y:=by simpa using h23
     omega
    refine G.z1 1 4 ?_;refine G.rf ?_;refine ⟨Z,_,Z, ?_⟩;have:=JT hca.1 hlen hx hy hxy he;refine ⟨?_, ?_, ?_, ?_⟩ <;> omega
   ·have hxy:¬ x<y:=fun h=>by
     have:(x:Int)<y:=by omega
     simp [this] at h23
    refine G.aG [0,1,2,3,4,5,6,7,8,9] [] Z kr_ (fun R hB hR=>?_);refine D.ps 2 ?_;refine D.ak ha.m_ U10 om_ hrx fl_ (fun p36 hp36=>?_);refine D.aa hp36 ?_;refine D.ps 2 ?_;refine D.ak hb.m_ U10 om_ hry fl_ (fun p40 hp40=>?_);refine D.aa hp40 ?_;refine D.q4 2 0 1 5 33 hR ?_;refine G.cd (fun h33=>?_) fun h33=>?_
    ·have hyx:y<x:=by
      have:(y:Int)<x:=by simpa using h33
      omega
     refine G.z1 1 4 ?_;refine G.rf ?_;refine ⟨Z,_,Z, ?_⟩;have:=JT hcb.1 hlen.symm hy hx hyx he.symm;refine ⟨?_, ?_, ?_, ?_⟩ <;> omega
    ·have hyx:¬ y<x:=fun h=>by
      have:(y:Int)<x:=by omega
      simp [this] at h33
     refine G.rp 1 fun R hR=>?_;refine D.ar _ ?_;refine D.q3 1 0 1 5 hR ?_;rw [show ((j+1:Nat):Int)-1-1=(j:Int)-1 by omega];refine G.ax (m':=j+1) om_ mup (h_3 0 1 5) ⟨j,⟨by omega,by
      have hxy2:x=y:=by omega
      rw [K2 (by omega:j<a.length),K2 (by omega:j<b.length),he,(aJ.1 hx).2,(aJ.1 hy).2,hxy2]⟩,rfl,rfl,rfl⟩
  ·have hk0:k=0:=by
    have:¬ (0:Int)<=(k:Int)-1:=by simpa using h20
    omega
   subst hk0;refine G.z1 1 4 ?_;refine G.rf ?_;refine ⟨Z,_,Z, ?_⟩;have:a=b:=by simpa using he
   subst this;refine ⟨?_, ?_, ?_, ?_⟩ <;> omega

theorem FI (C:Mem)(x y c:Nat)(hx:x<B32)(hy:y<B32)(hc:c<=1):Gives cx.P 151 [.int .u32 x,.int .u32 y,.int .u32 c] C (.tuple #[.int .u32 ((x+y+c) % B32:Nat),.int .u32 ((x+y+c) / B32:Nat)]):=by
 have hB:B32=4294967296:=rfl;refine Fn.it kr_ Tryz.func151 22 fun w0=>?_;refine G.z3 2 0 1 2 ?_;refine G.rp 1 fun R hR=>?_;refine D.bT (c:=(x:Int)) U8 (by rw [IntKind.wrap_u64];omega) fl_ ?_;refine D.ac ?_;refine D.bT (c:=(y:Int)) U8 (by rw [IntKind.wrap_u64];omega) fl_ ?_;refine D.int (((x+y:Nat):Int)) U4 (by rw [IntKind.wrap_u64];omega) U2 ?_;refine D.ac ?_;refine D.bT (c:=(c:Int)) U8 (by rw [IntKind.wrap_u64];omega) fl_ ?_;refine D.int (((x+y+c:Nat):Int)) U4 (by rw [IntKind.wrap_u64];omega) U2 ?_;refine D.q1 1 8 hR ?_;clear hR R;refine G.rp 1 fun R hR=>?_;refine D.bT (c:=(((x+y+c) % B32:Nat):Int)) U8 (by rw [IntKind.wrap_u32];show _=(((x+y+c) % 4294967296:Nat):Int);omega) fl_ ?_;refine D.q2 1 6 8 hR ?_;clear hR R;refine G.rp 1 fun R hR=>?_;refine D.GJ ((x+y+c)) (32) Z Z Z Z Z Z Z Z om_ Z Z ?_;refine D.bT (c:=(((x+y+c) / B32:Nat):Int)) U8 (by rw [IntKind.wrap_u32,show (2:Nat) ^ 32=4294967296 from rfl];show _=(((x+y+c) / 4294967296:Nat):Int);omega) fl_ ?_;refine D.q2 1 6 7 hR ?_;clear hR R;refine G.aB (G.dropAll (G.a8 U3 ?_));exact ⟨Z,Z⟩
theorem jz (C:Mem)(v:Value)(l:List Nat){n:Nat}(hn:l.length=n):Jog.Fn cx.P 146 [v] C [.arr v 217 1 n (l.map cY).flatten] fun u C' L'=>L'=[]/\Sl C' 1 u ((mq l).map cY) :=
 Jog.Fn.give (l.map cY) kr_ (by intro r hr;obtain ⟨y,_,rfl⟩:=j5.1 hr;rfl) (by rw [aH,hn]) (fun C' _ hs=>zS C' v l hs)
theorem Hq (C:Mem)(va vb:Value)(a b:List Nat)(ha:Sl C 1 va (a.map cY))(hb:Sl C 1 vb (b.map cY))(hda:DigD a)(hdb:DigD b)(hla:a.length<=100000000)(hlb:b.length<=100000000) :
  Pur cx.P 88 [va,vb] C fun u C'=>NatC C' u (bh a+bh b):=by
 obtain ⟨A0,c0,rfl,_⟩:=id ha;obtain ⟨B0,d0,rfl,_⟩:=id hb;simp only [aH] at ha hb ⊢;refine Fn.it kr_ Tryz.func88 54 fun w0=>?_;refine G.z2 1 0 1 ?_;refine G.z3 5 0 1 15 ?_;refine G.cut (fun fr C' L' μ=>∃ (la lb:List Nat)(A:Option Addr)(c:Nat)(B:Option Addr)(d:Nat),(Sl C' 1 (.slice A la.length c) (la.map cY)/\Sl C' 1 (.slice B lb.length d) (lb.map cY)/\lb.length<=la.length/\bh la+bh lb=bh a+bh b/\DigD la/\DigD lb/\la.length<=100000000)/\fr=[(0,[],.slice A la.length c),(1,[],.slice B lb.length d)]/\L'=[]) ?_ (fun fr _ L15 μ _ hI=>?_)
 ·refine G.cd (fun h15=>?_) fun h15=>?_
  ·have h15':a.length<b.length:=by
    have:(a.length:Int)<b.length:=by simpa using h15
    omega
   refine G.z2 4 0 1 ?_;refine G.aK 0 (Mem.le.refl _) (h_2 0 1) ⟨b,a,_,_,_,_,⟨hb.mono mup,ha.mono mup,by omega,by omega,hdb,hda,hlb⟩,Z,Z⟩
  ·have h15':¬ a.length<b.length:=fun h=>by
    have:(a.length:Int)<b.length:=by omega
    simp [this] at h15
   refine G.aK 0 (Mem.le.refl _) (h_2 0 1) ⟨a,b,_,_,_,_,⟨ha.mono mup,hb.mono mup,by omega,Z,hda,hdb,hla⟩,Z,Z⟩
 ·obtain ⟨la ,lb ,A ,c ,B ,d,⟨hsa,hsb,hll,hvv,hdla,hdlb,hla8⟩,rfl,rfl⟩:=hI;refine G.rp 2 fun R hR=>?_;refine D.ar _ ?_;refine D.bK U9 (ch _) (by show 4*(la.length+1)<=281474976710656;omega) (by simp only [maxLen];omega) fl_ (fun b21=>?_);refine D.q3 1 0 1 5 hR ?_;refine G.z4 1 0 1 5 6 ?_;refine G.z6 3 1 5 6 22 23 24 ?_;refine G.loop (fun fr C' L' μ=>∃ (i:Nat)(out:List Nat)(cy:Nat)(w:Value),(i<=la.length/\out.length=i/\DigD out/\cy<=1/\bh out+B32 ^ i*cy=bh (la.take i)+bh (lb.take i))/\fr=[(1,[],.slice B lb.length d),(5,[],w),(6,[],.int .u32 cy),(22,[],.slice A la.length c),(23,[],.int .i64 la.length),(24,[],.int .i64 i)]/\L'=[.arr w 217 1 i (out.map cY).flatten]/\μ=la.length-i) (h_6 1 5 6 22 23 24) ⟨0,[],0,_,⟨ch _,Z,(fun x hx=>(by cases hx)),by omega,Z⟩,Z,Z,Z⟩ (fun fr C0' L0' m _ hI=>?_);obtain ⟨i,out,cy,w,⟨hi,hol,hod,hcy,hval⟩,rfl,rfl,rfl⟩:=hI;refine G.z7 1 1 5 6 22 23 24 25 ?_;refine G.cd (fun h25=>?_) fun h25=>?_
  ·have hil:i<la.length:=by simpa using h25
   have hra:(la.map cY)[i]?=some (cY (gD la i)):=by rw [bX,aq hil,fa (aq hil)];rfl
   refine G.rp 1 fun R hR=>?_;refine D.ak hsa.m_ U10 om_ hra fl_ (fun p27 hp27=>?_);refine D.aa hp27 ?_;refine D.q8 2 1 5 6 7 8 22 23 24 hR ?_;refine G.z9 1 1 5 6 7 8 9 22 23 24 ?_;refine G.FM 4 1 5 6 7 8 9 22 23 24 32 ?_;refine G.cut (fun fr C' L' μ=>(True)/\fr=[(1,[],.slice B lb.length d),(5,[],w),(6,[],.int .u32 cy),(8,[],.int .u32 (gD la i)),(9,[],.int .u32 (gD lb i)),(22,[],.slice A la.length c),(23,[],.int .i64 la.length),(24,[],.int .i64 i)]/\L'=[.arr w 217 1 i (out.map cY).flatten]) ?_ (fun fr _ L32 μ _ hI=>?_)
   ·refine G.cd (fun h32=>?_) fun h32=>?_
    ·have hib:i<lb.length:=by simpa using h32
     have hrb:(lb.map cY)[i]?=some (cY (gD lb i)):=by rw [bX,aq hib,fa (aq hib)];rfl
     refine G.rp 2 fun R hR=>?_;refine D.ak hsb.m_ U10 om_ hrb fl_ (fun p35 hp35=>?_);refine D.aa hp35 ?_;refine D.q8 1 1 5 6 8 9 22 23 24 hR ?_;refine G.aK 0 (Mem.le.refl _) (h_8 1 5 6 8 9 22 23 24) ⟨trivial,Z,Z⟩
    ·have hz:gD lb i=0:=by
      have h:¬ i<lb.length:=by simpa using h32
      unfold gD;rw [aF,LF om_];rfl
     refine G.aK 0 (Mem.le.refl _) (h_8 1 5 6 8 9 22 23 24) ⟨trivial,by rw [hz];rfl,Z⟩
   ·obtain ⟨htr,rfl,rfl⟩:=hI;refine G.z8 1 1 5 6 8 9 22 23 24 ?_;refine G.rp 3 fun R hR=>?_;refine D.ag (FI _ (gD la i) (gD lb i) cy (ie hdla i) (ie hdlb i) hcy) ?_;refine D.q7 5 1 5 6 10 22 23 24 hR ?_;refine G.rp 2 fun R hR=>?_;refine D.ah [cY ((gD la i+gD lb i+cy) % B32)] (fun p46 _ _ hs46=>?_);refine D.append (j:=0) U11 hs46 Z (by simp only [bz,maxLen];omega) (by show (i+1)*4<=_;omega) fl_ (fun v47=>?_);refine D.q6 1 1 5 6 22 23 24 hR ?_;refine G.rg fun R hR=>?_;refine D.ar _ ?_;refine D.q6 1 1 5 6 22 23 24 hR ?_;refine G.be (L':=[.arr v47 217 1 (i+1) ((out++[(gD la i+gD lb i+cy) % B32]).map cY).flatten]) (by simp [cY]) ?_;refine G.ax (m':=la.length-(i+1)) om_ mup (h_6 1 5 6 22 23 24) ⟨i+1,out++[(gD la i+gD lb i+cy) % B32],(gD la i+gD lb i+cy) / B32,v47,⟨by omega,by simp [hol],hod.snoc (K9 _ dc_),FB (ie hdla i) (ie hdlb i) hcy,FH hol hval⟩,Z,Z,Z⟩
  ·have hil:i=la.length:=by
    have:¬ i<la.length:=by simpa using h25
    omega
   refine G.aY [(4,3)] Z (fun R hR=>?_);refine D.ps 2 ?_;refine D.ah [cY cy] (fun p51 _ _ hs51=>?_);refine D.append (j:=0) U11 hs51 Z (by simp only [bz,maxLen];omega) (by show (i+1)*4<=_;omega) fl_ (fun v52=>?_);refine D.call (jz _ _ (out++[cy]) (n:=i+1) (by simp [hol])) Z (.inr dc_) U6 (by rw [LC,LK];exact il _) fl_ (fun v53 _ L53 _ hq53=>?_);obtain ⟨rfl,hu⟩:=hq53;refine D.q1 1 4 hR ?_;refine G.rf ?_;refine ⟨Z,mq (out++[cy]),fG (hod.snoc (DS hcy dc_)), ?_,hu⟩;rw [fF,gS,hol,hval,hil,cK,gG hll,hvv]

theorem D7 (l:List Nat):bh l % 2=gD l 0 % 2:=by
 cases l with
 | nil=>rfl
 | cons x l =>
  show (x+4294967296*bh l) % 2=x % 2;omega
theorem Jq (C:Mem)(v:Value)(l:List Nat)(hv:Sl C 1 v (l.map cY))(hd:DigD l):Gives cx.P 147 [v] C (.bool (decide (bh l % 2=1))):=by
 obtain ⟨A0,c0,rfl,_⟩:=id hv;simp only [aH] at hv ⊢;have hg0:=ie hd 0;have hB:B32=4294967296:=rfl;have hrow:0<l.length->(l.map cY)[(0:Int).toNat]?=some (cY (gD l 0)):=fun h=>by
  rw [show (0:Int).toNat=0 from rfl,bX,aq h,fa (aq h)];rfl
 refine Fn.it kr_ Tryz.func147 13 fun w0=>?_;refine G.z1 1 0 ?_;refine G.rp 5 fun R hR=>?_;refine D.index U10 (fun hg=>⟨hv,(by have h:decide ((0:Int)<(l.length:Int))=true:=hg.1;simp at h;omega),hrow (by have h:decide ((0:Int)<(l.length:Int))=true:=hg.1;simp at h;omega)⟩) fl_ Z (fun p8 hp8=>?_);refine D.aN U6 hp8 U3 ?_;refine D.xP ((gD l 0)) (1) U8 om_ om_ U2 ?_;refine D.ac ?_;refine D.aw ?_;refine D.q1 1 2 hR ?_;clear hR R;refine G.rf ?_;refine ⟨?_,Z⟩;rw [D7,Nat.and_one_is_mod];cases l with
 | nil=>rfl
 | cons x l =>
  have h1:decide ((0:Int)<((x::l).length:Nat))=true:=by simp
  rw [h1,NL];congr 1;rw [Mq,Lg,cH];omega

abbrev qW (b n c:Nat):Value:=.slice (some ⟨b,0,none⟩) n c
theorem HE {x y:Nat}(hx:x<4294967296):x / 2 ^ 1 ||| y*2 ^ 31 % 4294967296=x / 2+y % 2*2147483648:=by
 have e:y*2 ^ 31 % 4294967296=2 ^ 31*(y % 2):=by omega
 rw [e,Nat.or_comm,<- Nat.two_pow_add_eq_or_of_lt om_];omega
theorem zB (n:Nat):nY [Value.int .u32 0] n=((List.replicate n 0).map cY).flatten:=by
 rw [dM,Ob];rfl
theorem vQ {l:List Nat}{i z:Nat}(h:i<l.length):(l.set i z).take (i+1)=l.take i++[z]:=by
 rw [xO,List.take_set_of_le (aP _),Nn h];rfl
theorem HF (C:Mem)(v:Value)(l:List Nat)(hv:Sl C 1 v (l.map cY))(hd:DigD l)(hl:l.length<=100000000):Pur cx.P 148 [v] C fun u C'=>NatC C' u (bh l / 2):=by
 obtain ⟨A0,c0,rfl,_⟩:=id hv;simp only [aH] at hv ⊢;have hB:B32=4294967296:=rfl;refine Fn.it kr_ Tryz.func148 41 fun w0=>?_;refine G.z1 1 0 ?_;refine G.rp 2 fun R hR=>?_;refine D.bK U9 (aP _) (by show 4*l.length<=281474976710656;omega) (by simp only [maxLen];omega) fl_ (fun b8=>?_);refine D.q2 1 0 3 hR ?_;clear hR R;refine G.z5 3 0 3 9 10 11 ?_;refine G.be (L':=[.arr (qW b8 l.length l.length) 217 1 l.length ((List.replicate l.length 0).map cY).flatten]) (by rw [<- zB];rfl) ?_;refine G.loop (fun fr C' L' μ=>∃ (i:Nat)(o:List Nat),(i<=l.length/\o.length=l.length/\DigD o/\2*bh (o.take i)+gD l 0 % 2=bh (l.take i)+B32 ^ i*(gD l i % 2))/\fr=[(0,[],.slice A0 l.length c0),(3,[],qW b8 l.length l.length),(9,[],.slice A0 l.length c0),(10,[],.int .i64 l.length),(11,[],.int .i64 i)]/\L'=[.arr (qW b8 l.length l.length) 217 1 l.length (o.map cY).flatten]/\μ=l.length-i) (h_5 0 3 9 10 11) ⟨0,List.replicate l.length 0,⟨ch _,LW,(fun x hx=>by rw [LH hx];decide),by simp [bh]⟩,Z,Z,Z⟩ (fun fr C0' L0' m _ hI=>?_);obtain ⟨i,o,⟨hi,hol,hod,hval⟩,rfl,rfl,rfl⟩:=hI;refine G.z6 1 0 3 9 10 11 12 ?_;refine G.cd (fun h12=>?_) fun h12=>?_
 ·have hil:i<l.length:=by simpa using h12
  have hra:(l.map cY)[i]?=some (cY (gD l i)):=by rw [bX,aq hil,fa (aq hil)];rfl
  have hx:=ie hd i;have hy:=ie hd (i+1);refine G.rp 1 fun R hR=>?_;refine D.ak hv.m_ U10 om_ hra fl_ (fun p14 hp14=>?_);refine D.aa hp14 ?_;refine D.q7 2 0 3 4 5 9 10 11 hR ?_;clear hR R;refine G.rp 3 fun R hR=>?_;refine D.DR ((gD l i)) (1) U8 om_ U2 ?_;refine D.bu (i*1) U10 (fun _=>⟨by omega,by omega,Z⟩) U2 ?_;refine D.bE (j:=0) U11 (by show i*1+1<=_;rw [cX dr,hol];omega) ?_;refine D.e6 0 3 4 9 10 11 hR ?_;clear hR R;refine G.be (L':=[.arr (qW b8 l.length l.length) 217 1 l.length ((o.set i (gD l i / 2 ^ 1)).map cY).flatten]) (by rw [<- bV dr _ (by omega:i<o.length)];rfl) ?_;refine G.rp 1 fun R hR=>?_;refine D.ar _ ?_;refine D.q7 3 0 3 4 9 10 11 25 hR ?_;clear hR R;refine G.cd (fun h25=>?_) fun h25=>?_
  ·have hil2:i+1<l.length:=by
    have:(i:Int)+1<l.length:=by simpa using h25
    omega
   have hrb:(l.map cY)[((i:Int)+1).toNat]?=some (cY (gD l (i+1))):=by
    rw [show ((i:Int)+1).toNat=i+1 by omega,bX,aq hil2,fa (aq hil2)];rfl
   have hz:(o.set i (gD l i / 2 ^ 1))[i]?=some (gD l i / 2 ^ 1):=Nn om_;refine G.aG [0,1,2,3,4,5,6,7,8,9,10,11,12] [] Z kr_ (fun R hB hR=>?_);refine D.ps 2 ?_;refine D.bu (i*1) U10 (fun _=>⟨by omega,by omega,Z⟩) U2 ?_;refine D.er (.head _) U6 (fun _=>(by rw [fm dr hz];rfl)) U2 ?_;refine D.ps 2 ?_;refine D.ar _ ?_;refine D.ak hv.m_ U10 om_ hrb fl_ (fun p33 hp33=>?_);refine D.aa hp33 ?_;refine D.GK ((gD l (i+1))) (31) Z Z Z Z Z Z Z Z om_ Z Z ?_;refine D.Ip ((gD l i / 2 ^ 1)) ((gD l (i+1)*2 ^ 31 % 4294967296)) U8 om_ om_ U2 ?_;refine D.bu (i*1) U10 (fun _=>⟨by omega,by omega,Z⟩) U2 ?_;refine D.bE (j:=0) U11 (by show i*1+1<=_;rw [cX dr,Nx,hol];omega) ?_;refine D.e5 0 3 9 10 11 hR ?_;clear hR hB R;refine G.rg fun R hR=>?_;refine D.ar _ ?_;refine D.q5 1 0 3 9 10 11 hR ?_;clear hR R;rw [HE hx];refine G.be (L':=[.arr (qW b8 l.length l.length) 217 1 l.length (((o.set i (gD l i / 2 ^ 1)).set i (gD l i / 2+gD l (i+1) % 2*2147483648)).map cY).flatten]) (by rw [<- bV dr (l:=o.set i (gD l i / 2 ^ 1)) (i:=i) (gD l i / 2+gD l (i+1) % 2*2147483648) (by simp;omega)];rfl) ?_;rw [List.set_set];refine G.ax (m':=l.length-(i+1)) om_ mup (h_5 0 3 9 10 11) ⟨i+1,o.set i (gD l i / 2+gD l (i+1) % 2*2147483648),⟨by omega,by simp [hol],hod.set om_,by rw [vQ om_];exact sV (by rw [eB];omega) hval⟩,Z,Z,Z⟩
  ·have hz:gD l (i+1)=0:=by
    have h:¬ (i:Int)+1<l.length:=by simpa using h25
    unfold gD;rw [aF,LF om_];rfl
   refine G.rg fun R hR=>?_;refine D.ar _ ?_;refine D.q5 1 0 3 9 10 11 hR ?_;clear hR R;rw [show gD l i / 2 ^ 1=gD l i / 2+gD l (i+1) % 2*2147483648 by rw [hz];simp];refine G.ax (m':=l.length-(i+1)) om_ mup (h_5 0 3 9 10 11) ⟨i+1,o.set i (gD l i / 2+gD l (i+1) % 2*2147483648),⟨by omega,by simp [hol],hod.set om_,by rw [vQ om_];exact sV (by rw [eB];omega) hval⟩,Z,Z,Z⟩
 ·have hil:i=l.length:=by
   have:¬ i<l.length:=by simpa using h12
   omega
  refine G.aY [(1,3)] Z (fun R hR=>?_);refine D.ac ?_;refine D.call (jz _ _ o hol) Z (.inr dc_) U6 (il _) fl_ (fun v40 _ L40 _ hq40=>?_);obtain ⟨rfl,hu⟩:=hq40;refine D.q1 1 2 hR ?_;clear hR R;refine G.rf ?_;refine ⟨Z,mq o,fG hod, ?_,hu⟩;have hg:gD l l.length=0:=by
   unfold gD;rw [aF,LF (aP _)];rfl
  rw [hil,cK,gG om_,hg] at hval;rw [fF];simp at hval;omega

theorem Ee (C:Mem)(x y c:Nat)(hx:x<B32)(hy:y<B32)(hc:c<=1):Gives cx.P 152 [.int .u32 x,.int .u32 y,.int .u32 c] C (.tuple #[.int .u32 (oa x y c:Nat),.int .u32 (xh x y c:Nat)]):=by
 have hB:B32=4294967296:=rfl;have hd:=uP hx hy hc;have hxy:x ^^^ y<2 ^ 32:=Nat.xor_lt_two_pow (show x<2 ^ 32 from hx) (show y<2 ^ 32 from hy);have hx1:4294967295-x<2 ^ 32:=by omega
 have hx2:4294967295-(x ^^^ y)<2 ^ 32:=by omega
 have ha1:(4294967295-x) &&& y<2 ^ 32:=Nat.and_lt_two_pow _ (show y<2 ^ 32 from hy);have ha2:(4294967295-(x ^^^ y)) &&& oa x y c<2 ^ 32:=Nat.and_lt_two_pow _ (show oa x y c<2 ^ 32 from hd);refine Fn.it kr_ Tryz.func152 25 fun w0=>?_;refine G.z3 2 0 1 2 ?_;refine G.rp 2 fun R hR=>?_;refine D.int ((((x+4294967296-y) % 4294967296:Nat):Int)) U4 (by rw [IntKind.wrap_u32];omega) U2 ?_;refine D.ac ?_;refine D.int (((oa x y c:Nat):Int)) U4 (by rw [IntKind.wrap_u32];unfold oa xh;split <;> omega) U2 ?_;refine D.q3 1 0 1 6 hR ?_;clear hR R;refine G.rp 1 fun R hR=>?_;refine D.GM (x) Z Z Z Z Z Z om_ Z Z ?_;refine D.ac ?_;refine D.xP ((4294967295-x)) (y) U8 om_ om_ U2 ?_;refine D.ps 2 ?_;refine D.J6 (x) (y) Z Z Z Z Z Z Z Z om_ om_ Z Z ?_;refine D.GM ((x ^^^ y)) Z Z Z Z Z Z om_ Z Z ?_;refine D.ac ?_;refine D.xP ((4294967295-(x ^^^ y))) ((oa x y c)) U8 om_ om_ U2 ?_;refine D.Ip (((4294967295-x) &&& y)) (((4294967295-(x ^^^ y)) &&& oa x y c)) U8 om_ om_ U2 ?_;refine D.DR ((((4294967295-x) &&& y) ||| ((4294967295-(x ^^^ y)) &&& oa x y c))) (31) U8 om_ U2 ?_;refine D.q2 1 6 7 hR ?_;clear hR R;refine G.aB (G.dropAll (G.a8 U3 ?_));exact ⟨by rw [za hx hy hc],Z⟩
theorem Hh (C:Mem)(va vb:Value)(a b:List Nat)(ha:Sl C 1 va (a.map cY))(hb:Sl C 1 vb (b.map cY))(hda:DigD a)(hdb:DigD b)(hla:a.length<=100000000)(hlb:b.length<=a.length)(hle:bh b<=bh a) :
  Pur cx.P 89 [va,vb] C fun u C'=>NatC C' u (bh a-bh b):=by
 obtain ⟨A0,c0,rfl,_⟩:=id ha;obtain ⟨B0,d0,rfl,_⟩:=id hb;simp only [aH] at ha hb ⊢;refine Fn.it kr_ Tryz.func89 43 fun w0=>?_;refine G.z2 1 0 1 ?_;refine G.rp 2 fun R hR=>?_;refine D.bK U9 (ch _) (by show 4*a.length<=281474976710656;omega) (by simp only [maxLen];omega) fl_ (fun b13=>?_);refine D.q3 1 0 1 5 hR ?_;refine G.z4 1 0 1 5 6 ?_;refine G.z6 3 1 5 6 14 15 16 ?_;refine G.loop (fun fr C' L' μ=>∃ (i:Nat)(out:List Nat)(cy:Nat)(w:Value),(i<=a.length/\out.length=i/\DigD out/\cy<=1/\bh out+bh (b.take i)=bh (a.take i)+B32 ^ i*cy)/\fr=[(1,[],.slice B0 b.length d0),(5,[],w),(6,[],.int .u32 cy),(14,[],.slice A0 a.length c0),(15,[],.int .i64 a.length),(16,[],.int .i64 i)]/\L'=[.arr w 217 1 i (out.map cY).flatten]/\μ=a.length-i) (h_6 1 5 6 14 15 16) ⟨0,[],0,_,⟨ch _,Z,(fun x hx=>(by cases hx)),by omega,Z⟩,Z,Z,Z⟩ (fun fr C0' L0' m _ hI=>?_);obtain ⟨i,out,cy,w,⟨hi,hol,hod,hcy,hval⟩,rfl,rfl,rfl⟩:=hI;refine G.z7 1 1 5 6 14 15 16 17 ?_;refine G.cd (fun h17=>?_) fun h17=>?_
 ·have hil:i<a.length:=by simpa using h17
  have hra:(a.map cY)[i]?=some (cY (gD a i)):=by rw [bX,aq hil,fa (aq hil)];rfl
  refine G.rp 1 fun R hR=>?_;refine D.ak ha.m_ U10 om_ hra fl_ (fun p19 hp19=>?_);refine D.aa hp19 ?_;refine D.q8 2 1 5 6 7 8 14 15 16 hR ?_;refine G.z9 1 1 5 6 7 8 9 14 15 16 ?_;refine G.FM 4 1 5 6 7 8 9 14 15 16 24 ?_;refine G.cut (fun fr C' L' μ=>(True)/\fr=[(1,[],.slice B0 b.length d0),(5,[],w),(6,[],.int .u32 cy),(8,[],.int .u32 (gD a i)),(9,[],.int .u32 (gD b i)),(14,[],.slice A0 a.length c0),(15,[],.int .i64 a.length),(16,[],.int .i64 i)]/\L'=[.arr w 217 1 i (out.map cY).flatten]) ?_ (fun fr _ L24 μ _ hI=>?_)
  ·refine G.cd (fun h24=>?_) fun h24=>?_
   ·have hib:i<b.length:=by simpa using h24
    have hrb:(b.map cY)[i]?=some (cY (gD b i)):=by rw [bX,aq hib,fa (aq hib)];rfl
    refine G.rp 2 fun R hR=>?_;refine D.ak hb.m_ U10 om_ hrb fl_ (fun p27 hp27=>?_);refine D.aa hp27 ?_;refine D.q8 1 1 5 6 8 9 14 15 16 hR ?_;refine G.aK 0 (Mem.le.refl _) (h_8 1 5 6 8 9 14 15 16) ⟨trivial,Z,Z⟩
   ·have hz:gD b i=0:=by
     have h:¬ i<b.length:=by simpa using h24
     unfold gD;rw [aF,LF om_];rfl
    refine G.aK 0 (Mem.le.refl _) (h_8 1 5 6 8 9 14 15 16) ⟨trivial,by rw [hz];rfl,Z⟩
  ·obtain ⟨htr,rfl,rfl⟩:=hI;refine G.z8 1 1 5 6 8 9 14 15 16 ?_;refine G.rp 3 fun R hR=>?_;refine D.ag (Ee _ (gD a i) (gD b i) cy (ie hda i) (ie hdb i) hcy) ?_;refine D.q7 5 1 5 6 10 14 15 16 hR ?_;refine G.rp 2 fun R hR=>?_;refine D.ah [cY (oa (gD a i) (gD b i) cy)] (fun p38 _ _ hs38=>?_);refine D.append (j:=0) U11 hs38 Z (by simp only [bz,maxLen];omega) (by show (i+1)*4<=_;omega) fl_ (fun v39=>?_);refine D.q6 1 1 5 6 14 15 16 hR ?_;refine G.rg fun R hR=>?_;refine D.ar _ ?_;refine D.q6 1 1 5 6 14 15 16 hR ?_;refine G.be (L':=[.arr v39 217 1 (i+1) ((out++[oa (gD a i) (gD b i) cy]).map cY).flatten]) (by simp [cY]) ?_;refine G.ax (m':=a.length-(i+1)) om_ mup (h_6 1 5 6 14 15 16) ⟨i+1,out++[oa (gD a i) (gD b i) cy],xh (gD a i) (gD b i) cy,v39,⟨by omega,by simp [hol],hod.snoc (uP (ie hda i) (ie hdb i) hcy),H8 _ _ _,Ed hdb hcy hol hval⟩,Z,Z,Z⟩
 ·have hil:i=a.length:=by
   have:¬ i<a.length:=by simpa using h17
   omega
  refine G.aY [(1,3)] Z (fun R hR=>?_);refine D.ac ?_;refine D.call (jz _ _ out (n:=i) hol) Z (.inr dc_) U6 (il _) fl_ (fun v42 _ L42 _ hq42=>?_);obtain ⟨rfl,hu⟩:=hq42;refine D.q1 1 4 hR ?_;refine G.rf ?_;refine ⟨Z,mq out,fG hod, ?_,hu⟩;rw [hil,cK,gG hlb] at hval;have h0:=kg hod;rw [hol,hil] at h0;have hc0:cy=0:=by
   rcases Mx.1 hcy with h | h
   ·exact h
   ·rw [h,Nl] at hval;omega
  rw [hc0,N9] at hval;rw [fF];omega

theorem sY {l:List Nat}{i j z:Nat}(h:i≠j):gD (l.set i z) j=gD l j:=by
 unfold gD;rw [aF,aF,ND h]
theorem wM {l:List Nat}{i:Nat}(h:i<l.length):l[i]?=some (gD l i):=by rw [aq h,fa (aq h)]
theorem E8 (n j:Nat):gD (List.replicate n 0) j=0:=by
 unfold gD;rw [aF,NJ];split <;> rfl
theorem Hl (C:Mem)(va vb:Value)(a b:List Nat)(ha:Sl C 1 va (a.map cY))(hb:Sl C 1 vb (b.map cY))(hda:DigD a)(hdb:DigD b)(hla:a.length<=10000000)(hlb:b.length<=10000000) :
  Pur cx.P 86 [va,vb] C fun u C'=>NatC C' u (bh a*bh b):=by
 obtain ⟨A0,c0,rfl,_⟩:=id ha;obtain ⟨B0,d0,rfl,_⟩:=id hb;simp only [aH] at ha hb ⊢;have hB:B32=4294967296:=rfl;refine Fn.it kr_ Tryz.func86 67 fun w0=>?_;refine G.z2 1 0 1 ?_;refine G.rp 4 fun R hR=>?_;refine D.cf (((a.length+b.length:Nat):Int)) U4 om_ om_ om_ U2 ?_;refine D.bK U9 (aP _) (by show 4*(a.length+b.length)<=281474976710656;omega) (by simp only [maxLen];omega) fl_ (fun b16=>?_);refine D.q3 1 0 1 5 hR ?_;clear hR R;refine G.z5 3 1 5 17 18 19 ?_;refine G.be (L':=[.arr (qW b16 (a.length+b.length) (a.length+b.length)) 217 1 (a.length+b.length) ((List.replicate (a.length+b.length) 0).map cY).flatten]) (by rw [<- zB];rfl) ?_;refine G.loop (fun fr C' L' μ=>∃ (i:Nat)(o:List Nat),(i<=a.length/\o.length=a.length+b.length/\DigD o/\bh o=bh (a.take i)*bh b/\∀ j,i+b.length<=j->gD o j=0)/\fr=[(1,[],.slice B0 b.length d0),(5,[],qW b16 (a.length+b.length) (a.length+b.length)),(17,[],.slice A0 a.length c0),(18,[],.int .i64 a.length),(19,[],.int .i64 i)]/\L'=[.arr (qW b16 (a.length+b.length) (a.length+b.length)) 217 1 (a.length+b.length) (o.map cY).flatten]/\μ=a.length-i) (h_5 1 5 17 18 19) ⟨0,List.replicate (a.length+b.length) 0,⟨ch _,LW,(fun x hx=>by rw [LH hx];decide),by rw [kf (fun x hx=>LH hx)];simp [bh],fun j _=>E8 _ j⟩,Z,Z,Z⟩ (fun fr C0' L0' m _ hI=>?_);obtain ⟨i,o,⟨hi,hol,hod,hval,hz⟩,rfl,rfl,rfl⟩:=hI;refine G.z6 1 1 5 17 18 19 20 ?_;refine G.cd (fun h20=>?_) fun h20=>?_
 ·have hil:i<a.length:=by simpa using h20
  have hra:(a.map cY)[i]?=some (cY (gD a i)):=by rw [bX,aq hil,fa (aq hil)];rfl
  have hx:=ie hda i;refine G.rp 1 fun R hR=>?_;refine D.ak ha.m_ U10 om_ hra fl_ (fun p22 hp22=>?_);refine D.aa hp22 ?_;refine D.q7 2 1 5 6 7 17 18 19 hR ?_;clear hR R;refine G.z8 1 1 5 6 7 8 17 18 19 ?_;refine G.tM 3 1 5 6 7 8 17 18 19 24 25 26 ?_;refine G.loop (fun fr C' L' μ=>∃ (k:Nat)(q:List Nat)(c:Nat),(k<=b.length/\q.length=a.length+b.length/\DigD q/\c<B32/\bh q+B32 ^ (i+k)*c=bh o+B32 ^ i*(gD a i*bh (b.take k))/\∀ j,i+b.length<=j->gD q j=0)/\fr=[(1,[],.slice B0 b.length d0),(5,[],qW b16 (a.length+b.length) (a.length+b.length)),(6,[],.int .i64 i),(7,[],.int .u32 (gD a i)),(8,[],.int .u64 c),(17,[],.slice A0 a.length c0),(18,[],.int .i64 a.length),(19,[],.int .i64 i),(24,[],.slice B0 b.length d0),(25,[],.int .i64 b.length),(26,[],.int .i64 k)]/\L'=[.arr (qW b16 (a.length+b.length) (a.length+b.length)) 217 1 (a.length+b.length) (q.map cY).flatten]/\μ=b.length-k) (h_11 1 5 6 7 8 17 18 19 24 25 26) ⟨0,o,0,⟨ch _,hol,hod,by decide,by simp [bh],hz⟩,Z,Z,Z⟩ (fun fr C1' L1' m _ hI=>?_);obtain ⟨k,q,c,⟨hk,hql,hqd,hc,hqv,hqz⟩,rfl,rfl,rfl⟩:=hI;refine G.FL 1 1 5 6 7 8 17 18 19 24 25 26 27 ?_;refine G.cd (fun h27=>?_) fun h27=>?_
  ·have hkl:k<b.length:=by simpa using h27
   have hrb:(b.map cY)[k]?=some (cY (gD b k)):=by rw [bX,aq hkl,fa (aq hkl)];rfl
   have hy:=ie hdb k;have ho:=ie hqd (i+k);have hget:q[i+k]?=some (gD q (i+k)):=wM om_;have hbound:=sL hc hx hy ho;rw [show B32*B32=18446744073709551616 from rfl] at hbound;refine G.rp 1 fun R hR=>?_;refine D.ak hb.m_ U10 om_ hrb fl_ (fun p29 hp29=>?_);refine D.aa hp29 ?_;refine D.zq 2 1 5 6 7 8 9 10 17 18 19 24 25 26 hR ?_;clear hR R;refine G.rp 2 fun R hR=>?_;refine D.bT (c:=((gD a i:Nat):Int)) U8 (by rw [IntKind.wrap_u64];omega) fl_ ?_;refine D.ac ?_;refine D.bT (c:=((gD b k:Nat):Int)) U8 (by rw [IntKind.wrap_u64];omega) fl_ ?_;refine D.int (((gD a i*gD b k:Nat):Int)) U4 (by rw [<- La,IntKind.wrap_u64];omega) U2 ?_;refine D.ps 3 ?_;refine D.cf (((i+k:Nat):Int)) U4 om_ om_ om_ U2 ?_;refine D.bu ((i+k)*1) U10 (fun _=>⟨by omega,by omega,Z⟩) U2 ?_;refine D.er (.head _) U6 (fun _=>(by rw [fm dr hget];rfl)) U2 ?_;refine D.bT (c:=((gD q (i+k):Nat):Int)) U8 (by rw [IntKind.wrap_u64];omega) fl_ ?_;refine D.int (((gD a i*gD b k+gD q (i+k):Nat):Int)) U4 (by rw [IntKind.wrap_u64];omega) U2 ?_;refine D.int (((c+gD a i*gD b k+gD q (i+k):Nat):Int)) U4 (by rw [IntKind.wrap_u64];omega) U2 ?_;refine D.q12 1 1 5 6 7 8 9 17 18 19 24 25 26 hR ?_;clear hR R;refine G.rp 3 fun R hR=>?_;refine D.cf (((i+k:Nat):Int)) U4 om_ om_ om_ U2 ?_;refine D.ac ?_;refine D.bT (c:=(((c+gD a i*gD b k+gD q (i+k)) % 4294967296:Nat):Int)) U8 (by rw [IntKind.wrap_u32];omega) fl_ ?_;refine D.bu ((i+k)*1) U10 (fun _=>⟨by omega,by omega,Z⟩) U2 ?_;refine D.bE (j:=0) U11 (by show (i+k)*1+1<=_;rw [cX dr,hql];omega) ?_;refine D.nX 1 5 6 7 8 17 18 19 24 25 26 hR ?_;clear hR R;refine G.rp 1 fun R hR=>?_;refine D.GJ ((c+gD a i*gD b k+gD q (i+k))) (32) Z Z Z Z Z Z Z Z om_ Z Z ?_;refine D.lF 1 1 5 6 7 8 17 18 19 24 25 26 hR ?_;clear hR R;refine G.rg fun R hR=>?_;refine D.ar _ ?_;refine D.lF 1 1 5 6 7 8 17 18 19 24 25 26 hR ?_;clear hR R;refine G.be (L':=[.arr (qW b16 (a.length+b.length) (a.length+b.length)) 217 1 (a.length+b.length) ((q.set (i+k) ((c+gD a i*gD b k+gD q (i+k)) % B32)).map cY).flatten]) (by rw [<- bV dr _ (by omega:i+k<q.length)];rfl) ?_;refine G.ax (m':=b.length-(k+1)) om_ mup (h_11 1 5 6 7 8 17 18 19 24 25 26) ⟨k+1,q.set (i+k) ((c+gD a i*gD b k+gD q (i+k)) % B32),(c+gD a i*gD b k+gD q (i+k)) / B32,⟨by omega,by simp [hql],hqd.set (K9 _ dc_),FA hc hx hy ho,EQ hget Z hqv,fun j hj=>by rw [sY om_];exact hqz j hj⟩,Z,Z,Z⟩
  ·have hkl:k=b.length:=by
    have:¬ k<b.length:=by simpa using h27
    omega
   have hget:q[i+b.length]?=some 0:=by rw [<- hqz _ (aP _)];exact wM om_
   refine G.rp 4 fun R hR=>?_;refine D.cf (((i+b.length:Nat):Int)) U4 om_ om_ om_ U2 ?_;refine D.ac ?_;refine D.bT (c:=((c:Nat):Int)) U8 (by rw [IntKind.wrap_u32];omega) fl_ ?_;refine D.bu ((i+b.length)*1) U10 (fun _=>⟨by omega,by omega,Z⟩) U2 ?_;refine D.bE (j:=0) U11 (by show (i+b.length)*1+1<=_;rw [cX dr,hql];omega) ?_;refine D.e5 1 5 17 18 19 hR ?_;clear hR R;refine G.rg fun R hR=>?_;refine D.ar _ ?_;refine D.q5 1 1 5 17 18 19 hR ?_;clear hR R;refine G.be (L':=[.arr (qW b16 (a.length+b.length) (a.length+b.length)) 217 1 (a.length+b.length) ((q.set (i+b.length) c).map cY).flatten]) (by rw [<- bV dr _ (by omega:i+b.length<q.length)];rfl) ?_;refine G.ax (m':=a.length-(i+1)) om_ mup (h_5 1 5 17 18 19) ⟨i+1,q.set (i+b.length) c,⟨by omega,by simp [hql],hqd.set hc,by
    have h1:=lI (z:=c) hget;rw [hkl,cK] at hqv;rw [i1,L9,<- hval,K7];omega,fun j hj=>by rw [sY om_];exact hqz j om_⟩,rfl,rfl,rfl⟩
 ·have hil:i=a.length:=by
   have:¬ i<a.length:=by simpa using h20
   omega
  refine G.aY [(1,3)] Z (fun R hR=>?_);refine D.ac ?_;refine D.call (jz _ _ o hol) Z (.inr dc_) U6 (il _) fl_ (fun v66 _ L66 _ hq66=>?_);obtain ⟨rfl,hu⟩:=hq66;refine D.q1 1 4 hR ?_;clear hR R;refine G.rf ?_;refine ⟨Z,mq o,fG hod, ?_,hu⟩;rw [fF,hval,hil,cK]

theorem mR {C:Mem}{u v:Value}{m n k:Nat}(hu:NatC C u m)(hv:NatC C v n)(hm:Sm k m)(hn:Sm k n)(hk:k<=10000000):Pur cx.P 88 [u,v] C fun w D=>NatC D w (m+n):=by
 obtain ⟨a,ha,rfl,hsa⟩:=hu;obtain ⟨b,hb,rfl,hsb⟩:=hv;exact Hq C u v a b hsa hsb ha.1 hb.1 (by have:=hm.len ha;omega) (by have:=hn.len hb;omega)
theorem sK {C:Mem}{u v:Value}{m n k:Nat}(hu:NatC C u m)(hv:NatC C v n)(hm:Sm k m)(hn:n<=m)(hk:k<=10000000):Pur cx.P 89 [u,v] C fun w D=>NatC D w (m-n):=by
 obtain ⟨a,ha,rfl,hsa⟩:=hu;obtain ⟨b,hb,rfl,hsb⟩:=hv;refine Hh C u v a b hsa hsb ha.1 hb.1 (by have:=hm.len ha;omega) ?_ hn;rcases Ld a.length b.length with h | h
 ·have:=BF ha.1 hb h;omega
 ·exact h
theorem iT {C:Mem}{u v:Value}{m n j k:Nat}(hu:NatC C u m)(hv:NatC C v n)(hm:Sm j m)(hn:Sm k n)(hj:j<=10000000)(hk:k<=10000000):Pur cx.P 86 [u,v] C fun w D=>NatC D w (m*n):=by
 obtain ⟨a,ha,rfl,hsa⟩:=hu;obtain ⟨b,hb,rfl,hsb⟩:=hv;exact Hl C u v a b hsa hsb ha.1 hb.1 (by have:=hm.len ha;omega) (by have:=hn.len hb;omega)
theorem qF {C:Mem}{u:Value}{m k:Nat}(hu:NatC C u m)(hm:Sm k m)(hk:k<=10000000):Pur cx.P 148 [u] C fun w D=>NatC D w (m / 2):=by
 obtain ⟨a,ha,rfl,hsa⟩:=hu;exact HF C u a hsa ha.1 (by have:=hm.len ha;omega)
theorem wx {C:Mem}{u:Value}{m:Nat}(hu:NatC C u m):Gives cx.P 147 [u] C (.bool (decide (m % 2=1))):=by
 obtain ⟨a,ha,rfl,hsa⟩:=hu;exact Jq C u a hsa ha.1
theorem oZ {C:Mem}{u v:Value}{m n:Nat}(hu:NatC C u m)(hv:NatC C v n):Pur cx.P 81 [u,v] C fun w _=>∃ z:Int,w=.int .i64 z/\xQ m n z:=by
 obtain ⟨a,ha,rfl,hsa⟩:=hu;obtain ⟨b,hb,rfl,hsb⟩:=hv;exact y5 C u v a b hsa hsb ha hb
theorem NatC.form {C:Mem}{v:Value}{n:Nat}(h:NatC C v n):∃ A k c,v=.slice A k c/\(k=0 ↔ n=0)/\k<=9223372036854775807:=by
 obtain ⟨l,hl,rfl,hs⟩:=h;obtain ⟨A,c,rfl,h1,h2,_⟩:=id hs;refine ⟨A,l.length,c,by simp, ?_, ?_⟩
 ·rw [H7 hl,Nc]
 ·have hmx:maxLen<=9223372036854775807:=by simp [maxLen]
  simp only [aH] at h1;omega
theorem Jm {k m t x:Nat}(h:Sm k m)(hx:0<x)(hm:2 ^ t*x<=m):t<32*k:=by
 unfold Sm at h;have e:B32 ^ k=2 ^ (32*k):=by rw [Om]
 rw [e] at h;have h1:2 ^ t*1<=2 ^ t*x:=Ln _ hx;exact (Nat.pow_lt_pow_iff_right dc_).1 (by omega:2 ^ t<2 ^ (32*k))
theorem Gi {C:Mem}{u v:Value}{m n k:Nat}(hu:NatC C u m)(hv:NatC C v n)(hm:Sm k m)(hn:Sm k n)(hk:k<=1000000)(hm0:0<m)(hn0:0<n):Pur cx.P 82 [u,v] C fun w D=>NatC D w (Nat.gcd m n):=by
 refine Fn.it kr_ Tryz.func82 50 fun w0=>?_;refine G.z2 1 0 1 ?_;refine G.z3 1 0 1 5 ?_;refine G.loop (fun fr C' L' μ=>∃ (va vb:Value)(x y t:Nat),(NatC C' va x/\NatC C' vb y/\0<x/\0<y/\2 ^ t*Nat.gcd x y=Nat.gcd m n/\2 ^ t*x<=m/\x<=m/\y<=n)/\fr=[(0,[],va),(1,[],vb),(5,[],.int .i64 t)]/\L'=[]/\μ=x+1) (h_3 0 1 5) ⟨u,v,m,n,0,⟨hu,hv,hm0,hn0,by simp,by simp,aP _,aP _⟩,Z,Z,Z⟩ (fun fr C0' L0' m _ hI=>?_);obtain ⟨va,vb,x,y,t,⟨hva,hvb,hx0,hy0,hg,hxm,hxm2,hyn⟩,rfl,rfl,rfl⟩:=hI;have ht:=Jm hm hx0 hxm;refine G.rp 1 fun R hR=>?_;refine D.ag (wx hva.m_) ?_;refine D.ps 3 ?_;refine D.aL (fun _=>(wx hvb.m_)) ?_;refine D.ac ?_;refine D.aw ?_;refine D.e4 0 1 5 13 hR ?_;refine G.cd (fun h13=>?_) fun h13=>?_
 ·have hxe:x % 2=0/\y % 2=0:=by
   simp at h13;omega
  refine G.rp 1 fun R hR=>?_;refine D.au (qF hva.m_ (hm.mono hxm2) om_) U7 fl_ (fun v15 _ _ hq15=>?_);refine D.ac ?_;refine D.au (qF hvb.m_ (hn.mono hyn) om_) U7 fl_ (fun v17 _ _ hq17=>?_);refine D.q3 2 0 1 5 hR ?_;refine G.rp 1 fun R hR=>?_;refine D.ar _ ?_;refine D.q3 1 0 1 5 hR ?_;refine G.ax (m':=x / 2+1) om_ mup (h_3 0 1 5) ⟨v15,v17,x / 2,y / 2,t+1,⟨hq15.mono mup,hq17.mono mup,by omega,by omega,by rw [Lb,K7,<- E6 hxe.1 hxe.2];exact hg,by rw [Lb,K7,show 2*(x / 2)=x by omega];exact hxm,by omega,by omega⟩,Z,Z,Z⟩
 ·have hxo:x % 2=1∨y % 2=1:=by
   simp at h13;omega
  have hgo:=HI hxo;obtain ⟨g,hgd⟩:∃ g,Nat.gcd x y=g:=⟨_,rfl⟩;rw [hgd] at hg hgo;refine G.loop (fun fr C' L' μ=>∃ (wa wb:Value)(p q:Nat),(NatC C' wa p/\NatC C' wb q/\0<q/\Nat.gcd p q=g/\Sm k p/\Sm k q)/\fr=[(0,[],wa),(1,[],wb),(5,[],.int .i64 t)]/\L'=[]/\μ=p+q) (h_3 0 1 5) ⟨va,vb,x,y,⟨hva.mono mup,hvb.mono mup,hy0,hgd,hm.mono hxm2,hn.mono hyn⟩,Z,Z,Z⟩ (fun fr C1' L1' m _ hI=>?_);obtain ⟨wa,wb,p,q,⟨hwa,hwb,hq0,hpq,hsp,hsq⟩,rfl,rfl,rfl⟩:=hI;obtain ⟨A0,z0,c0,rfl,hz0,hz1⟩:=hwa.form;refine G.z4 3 0 1 5 22 ?_;refine G.cd (fun h22=>?_) fun h22=>?_
  ·have hp0:0<p:=by
    have:(0:Int)<(z0:Int):=by simpa using h22
    have:=mt hz0.2;omega
   refine G.loop (fun fr C' L' μ=>∃ (wp:Value)(p2:Nat),(NatC C' wp p2/\0<p2/\p2<=p/\Nat.gcd p2 q=g)/\fr=[(0,[],wp),(1,[],wb),(5,[],.int .i64 t)]/\L'=[]/\μ=p2+1) (h_3 0 1 5) ⟨_,p,⟨hwa.mono mup,hp0,aP _,hpq⟩,Z,Z,Z⟩ (fun fr C2' L2' m _ hI=>?_);obtain ⟨wp,p2,⟨hwp,hp20,hp2p,hp2g⟩,rfl,rfl,rfl⟩:=hI;refine G.rp 1 fun R hR=>?_;refine D.ag (wx hwp.m_) ?_;refine D.q4 1 0 1 5 25 hR ?_;refine G.cd (fun h25=>?_) fun h25=>?_
   ·have hpe:p2 % 2=0:=by
     simp at h25;omega
    refine G.rp 1 fun R hR=>?_;refine D.au (qF hwp.m_ (hsp.mono hp2p) om_) U7 fl_ (fun v27 _ _ hq27=>?_);refine D.q3 1 0 1 5 hR ?_;refine G.ax (m':=p2 / 2+1) om_ mup (h_3 0 1 5) ⟨v27,p2 / 2,⟨hq27.mono mup,by omega,by omega,wK hp2g hgo hpe⟩,Z,Z,Z⟩
   ·refine G.loop (fun fr C' L' μ=>∃ (wq:Value)(q2:Nat),(NatC C' wq q2/\0<q2/\q2<=q/\Nat.gcd p2 q2=g)/\fr=[(0,[],wp),(1,[],wq),(5,[],.int .i64 t)]/\L'=[]/\μ=q2+1) (h_3 0 1 5) ⟨_,q,⟨hwb.mono mup,hq0,aP _,hp2g⟩,Z,Z,Z⟩ (fun fr C3' L3' m _ hI=>?_);obtain ⟨wq,q2,⟨hwq,hq20,hq2q,hq2g⟩,rfl,rfl,rfl⟩:=hI;refine G.rp 1 fun R hR=>?_;refine D.ag (wx hwq.m_) ?_;refine D.q4 1 0 1 5 30 hR ?_;refine G.cd (fun h30=>?_) fun h30=>?_
    ·have hqe:q2 % 2=0:=by
      simp at h30;omega
     refine G.rp 1 fun R hR=>?_;refine D.au (qF hwq.m_ (hsq.mono hq2q) om_) U7 fl_ (fun v32 _ _ hq32=>?_);refine D.q3 1 0 1 5 hR ?_;refine G.ax (m':=q2 / 2+1) om_ mup (h_3 0 1 5) ⟨v32,q2 / 2,⟨hq32.mono mup,by omega,by omega,by rw [Mf];exact wK (by rw [Mf];exact hq2g) hgo hqe⟩,Z,Z,Z⟩
    ·refine G.rp 2 fun R hR=>?_;refine D.az (oZ hwp.m_ hwq.m_) (fun v35 _ _ hq35=>?_);obtain ⟨z,rfl,hz⟩:=hq35;refine D.q4 1 0 1 5 36 hR ?_;refine G.cd (fun h36=>?_) fun h36=>?_
     ·have hlt:p2<q2:=hz.1.1 (by simpa using h36);refine G.z3 4 0 1 5 ?_;refine G.rp 2 fun R hR=>?_;refine D.au (sK hwq.m_ hwp.m_ (hsq.mono hq2q) (OI hlt) om_) U7 fl_ (fun v41 C41 _ hq41=>?_);refine D.q3 1 0 1 5 hR ?_;refine G.ax (m':=q2-p2+p2) om_ mup (h_3 0 1 5) ⟨v41,wp,q2-p2,p2,⟨hq41.mono mup,hwp.mono mup,hp20,Cd (by rw [Mf];exact hq2g) (OI hlt),hsq.mono om_,hsp.mono hp2p⟩,Z,Z,Z⟩
     ·have hlt:q2<=p2:=by
       have h1:¬ z<0:=by simpa using h36
       have:=mt hz.1.2 h1;omega
      refine G.rp 2 fun R hR=>?_;refine D.au (sK hwp.m_ hwq.m_ (hsp.mono hp2p) hlt om_) U7 fl_ (fun v41 C41 _ hq41=>?_);refine D.q3 1 0 1 5 hR ?_;refine G.ax (m':=p2-q2+q2) om_ mup (h_3 0 1 5) ⟨v41,wq,p2-q2,q2,⟨hq41.mono mup,hwq.mono mup,hq20,Cd hq2g hlt,hsp.mono om_,hsq.mono hq2q⟩,Z,Z,Z⟩
  ·have hp0:p=0:=by
    have:¬ (0:Int)<(z0:Int):=by simpa using h22
    exact hz0.1 om_
   have hqg:q=g:=by rw [<- hpq,hp0,Nat.gcd_zero_left]
   refine G.z3 2 1 42 43 ?_;refine G.loop (fun fr C' L' μ=>∃ (i:Nat)(wr:Value),(i<=t/\NatC C' wr (2 ^ i*g))/\fr=[(1,[],wr),(42,[],.int .i64 t),(43,[],.int .i64 i)]/\L'=[]/\μ=t-i) (h_3 1 42 43) ⟨0,_,⟨ch _,by rw [OC,NE,<- hqg];exact hwb.mono mup⟩,Z,Z,Z⟩ (fun fr C4' L4' m _ hI=>?_);obtain ⟨i,wr,⟨hit,hwr⟩,rfl,rfl,rfl⟩:=hI;refine G.z4 1 1 42 43 44 ?_;refine G.cd (fun h44=>?_) fun h44=>?_
   ·have hit2:i<t:=by simpa using h44
    have hsm:Sm k (2 ^ i*g):=by
     refine hm.mono (LE ?_ (Nat.gcd_le_left n hm0));rw [<- hg];exact Lm _ (gr dc_ hit)
    refine G.rp 2 fun R hR=>?_;refine D.au (mR hwr.m_ hwr.m_ hsm hsm om_) U7 fl_ (fun v47 _ _ hq47=>?_);refine D.q3 1 1 42 43 hR ?_;refine G.rg fun R hR=>?_;refine D.ar _ ?_;refine D.q3 1 1 42 43 hR ?_;refine G.ax (m':=t-(i+1)) om_ mup (h_3 1 42 43) ⟨i+1,v47,⟨by omega,by rw [Lb,show 2 ^ i*2*g=2 ^ i*g+2 ^ i*g by rw [K7,M8];omega];exact hq47.mono mup⟩,Z,Z,Z⟩
   ·have hit2:i=t:=by
     have:¬ i<t:=by simpa using h44
     omega
    refine G.z1 2 4 ?_;refine G.rf ?_;rw [<- hg,<- hit2];exact ⟨Z,hwr.mono mup⟩

theorem oY {C:Mem}{v:Value}(h:Sl C 1 v [[.int .u32 1]]):NatC C v 1:=⟨[1],⟨fun x hx=>by rw [K5.1 hx];decide,by decide⟩,rfl,h⟩
theorem Br (C:Mem):NatC C (.slice none 0 0) 0:=⟨[],⟨(fun x hx=>(by cases hx)),by decide⟩,rfl,Sl.nil C 1⟩
theorem vH {a:List Nat}(ha:DigD a):bh a / 2 ^ (32*a.length)=0:=by
 refine Mr ?_;have h:=kg ha;have e:B32 ^ a.length=2 ^ (32*a.length):=by rw [Om]
 omega
theorem EP {C:Mem}{ua v:Value}{a:List Nat}{b k:Nat}(hs:Sl C 1 ua (a.map cY))(hca:FZ a)(hv:NatC C v b)(hk:k<=1000000)(hl:a.length<=k)(hb:Sm k b)(hb0:0<b):Pur cx.P 150 [ua,v] C fun w D=>NatC D w (bh a / b):=by
 obtain ⟨A0,c0,rfl,_⟩:=id hs;simp only [aH] at hs ⊢;have hB:B32=4294967296:=rfl;have hda:=hca.1;refine Fn.it kr_ Tryz.func150 54 fun w0=>?_;refine G.z2 1 0 1 ?_;refine G.rp 2 fun R hR=>?_;refine D.bK U9 (aP _) (by show 4*a.length<=281474976710656;omega) (by simp only [maxLen];omega) fl_ (fun b10=>?_);refine D.q3 1 0 1 5 hR ?_;clear hR R;refine G.z4 1 0 1 5 6 ?_;refine G.rp 2 fun R hR=>?_;refine D.cf (((32*a.length:Nat):Int)) U4 om_ om_ om_ U2 ?_;refine D.ar _ ?_;refine D.q5 1 0 1 5 6 7 hR ?_;clear hR R;refine G.be (L':=[.arr (qW b10 a.length a.length) 217 1 a.length ((List.replicate a.length 0).map cY).flatten]) (by rw [<- zB];rfl) ?_;refine G.loop (fun fr C' L' μ=>∃ (p:Nat)(wr:Value)(o:List Nat),(p<=32*a.length/\o.length=a.length/\DigD o/\NatC C' wr (bh a / 2 ^ p % b)/\bh o=2 ^ p*(bh a / 2 ^ p / b))/\fr=[(0,[],.slice A0 a.length c0),(1,[],v),(5,[],qW b10 a.length a.length),(6,[],wr),(7,[],.int .i64 ((p:Int)-1))]/\L'=[.arr (qW b10 a.length a.length) 217 1 a.length (o.map cY).flatten]/\μ=p+1) (h_5 0 1 5 6 7) ⟨32*a.length,_,List.replicate a.length 0,⟨aP _,LW,(fun x hx=>by rw [LH hx];decide),by rw [vH hda,Nat.zero_mod];exact Br _,by rw [vH hda,Nat.zero_div,N9];exact kf (fun x hx=>LH hx)⟩,Z,Z,Z⟩ (fun fr C0' L0' m _ hI=>?_);obtain ⟨p,wr,o,⟨hp,hol,hod,hwr,hov⟩,rfl,rfl,rfl⟩:=hI;refine G.z6 2 0 1 5 6 7 16 ?_;refine G.cd (fun h16=>?_) fun h16=>?_
 ·have hp0:0<p:=by
   have:(0:Int)<=(p:Int)-1:=by simpa using h16
   omega
  obtain ⟨j,rfl⟩:∃ j,p=j+1:=⟨p-1,by omega⟩;rw [show ((j+1:Nat):Int)-1=(j:Int) by omega];have hjl:j / 32<a.length:=by omega
  have hra:(a.map cY)[((j / 32:Nat):Int).toNat]?=some (cY (gD a (j / 32))):=by rw [show ((j / 32:Nat):Int).toNat=j / 32 from rfl,bX,wM hjl];rfl
  have hx:=ie hda (j / 32);have hbit:=bitD (p:=j) hda;have hr1:bh a / 2 ^ (j+1) % b<b:=K9 _ hb0;have hr2:Sm k (bh a / 2 ^ (j+1) % b):=hb.mono (OI hr1);have hbits:=EE (A:=bh a) (p:=j) hb0 hov rfl;refine G.rp 2 fun R hR=>?_;refine D.au (mR hwr.m_ hwr.m_ hr2 hr2 om_) U7 fl_ (fun v21 _ _ hq21=>?_);refine D.q5 1 0 1 5 6 7 hR ?_;clear hR R;refine G.rp 2 fun R hR=>?_;refine D.iY ((j / 32:Nat):Int) U6 om_ Z (by rw [IntKind.wrap_i64];omega) U2 ?_;refine D.ak hs.m_ U10 om_ hra fl_ (fun p25 hp25=>?_);refine D.aa hp25 ?_;refine D.ac ?_;refine D.ox U6 om_ om_ U2 ?_;refine D.DR ((gD a (j / 32))) ((j % 32)) U8 om_ U2 ?_;refine D.xP ((gD a (j / 32) / 2 ^ (j % 32))) (1) U8 (DS (Lu _ _) hx) om_ U2 ?_;refine D.q6 1 0 1 5 6 7 31 hR ?_;clear hR R;refine G.cut (fun fr C' L' μ=>∃ (wq:Value),(NatC C' wq (2*(bh a / 2 ^ (j+1) % b)+bh a / 2 ^ j % 2))/\fr=[(0,[],.slice A0 a.length c0),(1,[],v),(5,[],qW b10 a.length a.length),(6,[],wq),(7,[],.int .i64 (j:Int))]/\L'=[.arr (qW b10 a.length a.length) 217 1 a.length (o.map cY).flatten]) ?_ (fun fr _ L31 μ _ hI=>?_)
  ·refine G.cd (fun h31=>?_) fun h31=>?_
   ·have hb1:bh a / 2 ^ j % 2=1:=by
     rw [Nat.and_one_is_mod,hbit] at h31;have:=bi h31;omega
    refine G.rp 1 fun R hR=>?_;refine D.ah [[.int .u32 1]] (fun p33 _ _ hs33=>?_);refine D.au (mR hq21.m_ (oY hs33.m_) (hr2.add hr2) (Sm.le (k:=1) (Sm.one dc_) om_) om_) U7 fl_ (fun v34 _ _ hq34=>?_);refine D.q5 1 0 1 5 6 7 hR ?_;clear hR R;refine G.aK 0 mup (h_5 0 1 5 6 7) ⟨v34,by rw [hb1,show 2*(bh a / 2 ^ (j+1) % b)=bh a / 2 ^ (j+1) % b+bh a / 2 ^ (j+1) % b by omega];exact hq34.mono mup,Z,Z⟩
   ·have hb1:bh a / 2 ^ j % 2=0:=by
     rw [Nat.and_one_is_mod,hbit] at h31;have:=dj h31;omega
    refine G.aK 0 mup (h_5 0 1 5 6 7) ⟨v21,by rw [hb1,show 2*(bh a / 2 ^ (j+1) % b)=bh a / 2 ^ (j+1) % b+bh a / 2 ^ (j+1) % b by omega];exact hq21.mono mup,Z,Z⟩
  ·obtain ⟨wq,hwq,rfl,rfl⟩:=hI;have hr3:Sm (k+1) (2*(bh a / 2 ^ (j+1) % b)+bh a / 2 ^ j % 2):=(hb.add hb).mono om_;refine G.rp 2 fun R hR=>?_;refine D.az (oZ hwq.m_ hv.m_) (fun v37 _ _ hq37=>?_);obtain ⟨z,rfl,hz⟩:=hq37;refine D.q6 1 0 1 5 6 7 38 hR ?_;clear hR R;refine G.cd (fun h38=>?_) fun h38=>?_
   ·have hge:b<=2*(bh a / 2 ^ (j+1) % b)+bh a / 2 ^ j % 2:=by
     have h0:(0:Int)<=z:=by simpa using h38
     have:=mt hz.1.2 om_;omega
    refine G.rp 2 fun R hR=>?_;refine D.au (sK hwq.m_ hv.m_ hr3 hge om_) U7 fl_ (fun v41 _ _ hq41=>?_);refine D.q5 1 0 1 5 6 7 hR ?_;clear hR R;have ho:=ie hod (j / 32);have hget:o[j / 32]?=some (gD o (j / 32)):=wM om_;have hfree:gD o (j / 32) % 2 ^ (j % 32+1)=0:=Bf hod ⟨_,hov⟩;have h2r:2 ^ (j % 32)<4294967296:=K4 (Nat.pow_lt_pow_right dc_ (K9 j (by decide:0<32))) dc_;refine G.aG [0,1,2,3,4,5,6,7,8,9,10] [] Z kr_ (fun R hB hR=>?_);refine D.ps 2 ?_;refine D.iY ((j / 32:Nat):Int) U6 om_ Z (by rw [IntKind.wrap_i64];omega) U2 ?_;refine D.bu ((j / 32)*1) U10 (fun _=>⟨by omega,by omega,Z⟩) U2 ?_;refine D.er (.head _) U6 (fun _=>(by rw [fm dr hget];rfl)) U2 ?_;refine D.ac ?_;refine D.ox U6 om_ om_ U2 ?_;refine D.GK (1) ((j % 32)) Z Z Z Z Z Z Z Z om_ Z Z ?_;refine D.Ip ((gD o (j / 32))) ((1*2 ^ (j % 32) % 4294967296)) U8 om_ om_ U2 ?_;refine D.bu ((j / 32)*1) U10 (fun _=>⟨by omega,by omega,Z⟩) U2 ?_;refine D.bE (j:=0) U11 (by show (j / 32)*1+1<=_;rw [cX dr,hol];omega) ?_;refine D.e5 0 1 5 6 7 hR ?_;clear hR hB R;refine G.rp 1 fun R hR=>?_;refine D.ar _ ?_;refine D.q5 1 0 1 5 6 7 hR ?_;clear hR R;rw [NE,Mw h2r,Gf hfree];refine G.be (L':=[.arr (qW b10 a.length a.length) 217 1 a.length ((o.set (j / 32) (gD o (j / 32)+2 ^ (j % 32))).map cY).flatten]) (by rw [<- bV dr _ (by omega:j / 32<o.length)];rfl) ?_;refine G.ax (m':=j+1) om_ mup (h_5 0 1 5 6 7) ⟨j,v41,o.set (j / 32) (gD o (j / 32)+2 ^ (j % 32)),⟨by omega,by simp [hol],hod.set (by rw [<- Gf hfree];exact Nat.or_lt_two_pow (n:=32) ho h2r),by rw [<- (hbits.1 hge).2];exact hq41.mono mup,by
     have h1:=lI (z:=gD o (j / 32)+2 ^ (j % 32)) hget;rw [FX,um] at h1;rw [<- (hbits.1 hge).1];omega⟩,rfl,rfl,rfl⟩
   ·have hge:¬ b<=2*(bh a / 2 ^ (j+1) % b)+bh a / 2 ^ j % 2:=by
     have h0:¬ (0:Int)<=z:=by simpa using h38
     have:=hz.1.1 om_;omega
    refine G.rp 1 fun R hR=>?_;refine D.ar _ ?_;refine D.q5 1 0 1 5 6 7 hR ?_;clear hR R;refine G.ax (m':=j+1) om_ mup (h_5 0 1 5 6 7) ⟨j,wq,o,⟨by omega,hol,hod,by rw [<- (hbits.2 hge).2];exact hwq.mono mup,(hbits.2 hge).1⟩,Z,Z,Z⟩
 ·have hp0:p=0:=by
   have:¬ (0:Int)<=(p:Int)-1:=by simpa using h16
   omega
  refine G.aY [(1,3)] Z (fun R hR=>?_);refine D.ac ?_;refine D.call (jz _ _ o hol) Z (.inr dc_) U6 (il _) fl_ (fun v53 _ L53 _ hq53=>?_);obtain ⟨rfl,hu⟩:=hq53;refine D.q1 1 4 hR ?_;clear hR R;refine G.rf ?_;refine ⟨Z,mq o,fG hod, ?_,hu⟩;rw [fF,hov,hp0,OC,NE,N1]

theorem Bq {C:Mem}{u v:Value}{m b k:Nat}(hu:NatC C u m)(hv:NatC C v b)(hm:Sm k m)(hb:Sm k b)(hb0:0<b)(hk:k<=1000000):Pur cx.P 150 [u,v] C fun w D=>NatC D w (m / b):=by
 obtain ⟨a,ha,rfl,hsa⟩:=hu;exact EP hsa ha hv hk (hm.len ha) hb hb0
def yN (b:Bool)(u w:Value):List Value:=[.bool b,u,w]
def FrC (C:Mem)(v:Value)(q:Rat):Prop:=∃ u w,v=.agg ⟨yN (decide (q.num<0)) u w⟩/\NatC C u q.num.natAbs/\NatC C w q.den
theorem FrC.mono {C D:Mem}{v:Value}{q:Rat}(h:FrC C v q)(hl:C.le D):FrC D v q:=by
 obtain ⟨u,w,h1,h2,h3⟩:=h;exact ⟨u,w,h1,h2.mono hl,h3.mono hl⟩
theorem FrC.m_ {C D:Mem}{v:Value}{q:Rat}(h:FrC C v q)(hl:C.le D:=by exact mup):FrC D v q:=FrC.mono h hl
theorem E5 {n d:Nat}(h:¬ 1<Nat.gcd n d)(hn:0<n):Nat.gcd n d=1:=by
 have:=Oh d hn;omega
theorem fS {C:Mem}{u w:Value}{n d k:Nat}(b:Bool)(hu:NatC C u n)(hw:NatC C w d)(hn:Sm k n)(hd:Sm k d)(hd0:0<d)(hk:k<=1000000):Pur cx.P 87 [.bool b,u,w] C fun r D=>FrC D r (ratB b n d):=by
 obtain ⟨A0,z0,c0,rfl,hz0,hz1⟩:=hu.form;obtain ⟨A9,z9,c9,rfl,_,_⟩:=hw.form;have hdn:d≠0:=by omega
 refine Fn.it kr_ Tryz.func87 30 fun w0=>?_;refine G.rg fun R hR=>?_;refine D.ai (fun b6=>?_);refine D.e4 0 1 2 6 hR ?_;refine G.z5 3 0 1 2 6 10 ?_;refine G.cd (fun h10=>?_) fun h10=>?_
 ·have hn0:n=0:=by
   have:(z0:Int)=0:=by simpa using h10
   exact hz0.1 om_
  refine G.rg fun R hR=>?_;refine D.dw [[.int .u32 1]] U12 fl_ (fun b11 _ _ hs11=>?_);refine D.ap (yN false (.slice none 0 0) (.slice (some ⟨b11,0,none⟩) 1 1)) ?_;refine D.ae (j:=0) ?_;refine D.e1 6 hR ?_;refine G.aB (G.aR (.head _) U4 ?_);refine ⟨Z, ?_⟩;rw [hn0,sC];exact ⟨_,_,Z,Br _,oY hs11.m_⟩
 ·have hn0:0<n:=by
   have:¬ (z0:Int)=0:=by simpa using h10
   have:=mt hz0.2;omega
  refine G.rp 2 fun R hR=>?_;refine D.az (Gi hu.m_ hw.m_ hn hd hk hn0 hd0) (fun v15 _ _ hq15=>?_);refine D.q5 1 0 1 2 6 7 hR ?_;refine G.rp 1 fun R hR=>?_;refine D.ah [[.int .u32 1]] (fun p17 _ _ hs17=>?_);refine D.az (oZ hq15.m_ (oY hs17.m_)) (fun v18 _ _ hq18=>?_);obtain ⟨z,rfl,hz⟩:=hq18;have hgs:Sm k (Nat.gcd n d):=hn.mono (Nat.gcd_le_left d hn0);have hg0:0<Nat.gcd n d:=Oh d hn0;refine D.q6 1 0 1 2 6 7 19 hR ?_;refine G.cd (fun h19=>?_) fun h19=>?_
  ·refine G.rp 2 fun R hR=>?_;refine D.az (Bq hu.m_ hq15.m_ hn hgs hg0 hk) (fun v22 _ _ hq22=>?_);refine D.ps 2 ?_;refine D.az (Bq hw.m_ hq15.m_ hd hgs hg0 hk) (fun v25 _ _ hq25=>?_);refine D.q4 2 0 1 2 6 hR ?_;obtain ⟨A1,z1,c1,rfl,_,_⟩:=hq22.form;obtain ⟨A2,z2,c2,rfl,_,_⟩:=hq25.form;refine G.rp 3 fun R hR=>?_;refine D.ap (yN b (.slice A1 z1 c1) (.slice A2 z2 c2)) ?_;refine D.ae (j:=0) ?_;refine D.e1 6 hR ?_;refine G.aB (G.aR (.head _) U4 ?_);refine ⟨Z,.slice A1 z1 c1,.slice A2 z2 c2, ?_, ?_, ?_⟩
   ·rw [qh hdn om_];rfl
   ·rw [lP hdn];exact hq22.mono mup
   ·rw [lO hdn];exact hq25.mono mup
  ·have hg1:Nat.gcd n d=1:=by
    refine E5 (fun h=>?_) hn0;have h1:¬ (0:Int)<z:=by simpa using h19
    exact h1 (hz.2.1.2 h)
   refine G.rp 3 fun R hR=>?_;refine D.ap (yN b (.slice A0 z0 c0) (.slice A9 z9 c9)) ?_;refine D.ae (j:=0) ?_;refine D.e1 6 hR ?_;refine G.aB (G.aR (.head _) U4 ?_);refine ⟨Z,.slice A0 z0 c0,.slice A9 z9 c9, ?_, ?_, ?_⟩
   ·rw [qh hdn om_];rfl
   ·rw [lP hdn,hg1,N1];exact hu.mono mup
   ·rw [lO hdn,hg1,N1];exact hw.mono mup
def sgn (q:Rat):Int:=if q<0 then -1 else if q=0 then 0 else 1
theorem uq (q:Rat):q.num<0 ↔ q<0:=by
 have:=Of (q:=q);rw [<- Rat.not_le,<- this];omega
theorem t8 {C:Mem}{v:Value}{q:Rat}(hv:FrC C v q):Gives cx.P 38 [v] C (.int .i64 (sgn q)):=by
 obtain ⟨u,w,rfl,hu,hw⟩:=hv;obtain ⟨A0,z0,c0,rfl,hz0,hz1⟩:=hu.form;have hnn:=uq q;refine Fn.it kr_ Tryz.func38 11 fun w0=>?_;refine G.rg fun R hR=>?_;refine D.aD (fun b1=>?_);refine D.q1 1 1 hR ?_;refine G.rp 1 fun R hR=>?_;refine D.af (.head _) ?_;refine D.q2 1 1 3 hR ?_;refine G.cd (fun h3=>?_) fun h3=>?_
 ·refine G.z1 1 2 ?_;refine G.rf ?_;refine ⟨?_,Z⟩;have h:q<0:=hnn.1 (by simpa using h3);unfold sgn;rw [bW h]
 ·refine G.rp 1 fun R hR=>?_;refine D.af (.head _) ?_;refine D.q1 3 6 hR ?_;refine G.cd (fun h6=>?_) fun h6=>?_
  ·refine G.z1 1 2 ?_;refine G.rf ?_;refine ⟨?_,Z⟩;have h:¬ q<0:=fun h=>by rw [j9 (hnn.2 h)] at h3;cases h3
   have h2:q=0:=by rw [<- Bn];exact hz0.1 (by simpa using h6)
   unfold sgn;rw [a7 h,bW h2]
  ·refine G.z1 1 2 ?_;refine G.rf ?_;refine ⟨?_,Z⟩;have h:¬ q<0:=fun h=>by rw [j9 (hnn.2 h)] at h3;cases h3
   have h2:¬ q=0:=fun h2=>by rw [hz0.2 (Bn.2 h2)] at h6;simp at h6
   unfold sgn;rw [a7 h,a7 h2]
theorem sJ {C:Mem}{v:Value}{q:Rat}(hv:FrC C v q):Pur cx.P 75 [v] C fun r D=>FrC D r (-q):=by
 obtain ⟨u,w,rfl,hu,hw⟩:=hv;obtain ⟨A0,z0,c0,rfl,hz0,hz1⟩:=hu.form;obtain ⟨A9,z9,c9,rfl,_,_⟩:=hw.form;refine Fn.it kr_ Tryz.func75 14 fun w0=>?_;refine G.rg fun R hR=>?_;refine D.aD (fun b1=>?_);refine D.ai (fun b2=>?_);refine D.e2 1 2 hR ?_;refine G.rp 1 fun R hR=>?_;refine D.af (.tail _ (.head _)) ?_;refine D.ps 3 ?_;refine D.af (.tail _ (.head _)) ?_;refine D.ps 2 ?_;refine D.aw ?_;refine D.ac ?_;refine D.ae (j:=1) ?_;refine D.e2 1 2 hR ?_;refine G.rg fun R hR=>?_;refine D.af (.head _) ?_;refine D.ae (j:=1) ?_;refine D.e1 2 hR ?_;refine G.aB (G.aR (.head _) U4 ?_);refine ⟨Z,.slice A0 z0 c0,.slice A9 z9 c9, ?_, ?_, ?_⟩
 ·have e:decide ((-q).num<0)=(!decide (q.num<0) && decide ((0:Int)<(z0:Int))):=by
   rw [Nm];have h1:z0=0 ↔ q.num=0:=hz0.trans Int.natAbs_eq_zero;by_cases h:q.num<0
   ·simp [h];omega
   ·simp only [h,decide_false,Bool.not_false,NL,Lj];omega
  rw [e];rfl
 ·rw [Nm,MN];exact hu.mono mup
 ·exact hw.mono mup

theorem FrC.form {C:Mem}{v:Value}{q:Rat}(h:FrC C v q):∃ A n c A' n' c',v=.agg ⟨yN (decide (q.num<0)) (.slice A n c) (.slice A' n' c')⟩:=by
 obtain ⟨u,w,rfl,hu,hw⟩:=h;obtain ⟨A1,n1,c1,rfl,_,_⟩:=hu.form;obtain ⟨A2,n2,c2,rfl,_,_⟩:=hw.form;exact ⟨_,_,_,_,_,_,Z⟩
theorem fu {C:Mem}{u v:Value}{p q:Rat}{j k:Nat}(hu:FrC C u p)(hv:FrC C v q)(hp:SmQ j p)(hq:SmQ k q)(hjk:j+k<=1000000):Pur cx.P 85 [u,v] C fun r D=>FrC D r (p*q):=by
 obtain ⟨pu,pw,rfl,hpu,hpw⟩:=hu;obtain ⟨qu,qw,rfl,hqu,hqw⟩:=hv;obtain ⟨A1,n1,c1,rfl,_,_⟩:=hpu.form;obtain ⟨A2,n2,c2,rfl,_,_⟩:=hpw.form;obtain ⟨A3,n3,c3,rfl,_,_⟩:=hqu.form;obtain ⟨A4,n4,c4,rfl,_,_⟩:=hqw.form;refine Fn.it kr_ Tryz.func85 21 fun w0=>?_;refine G.rg fun R hR=>?_;refine D.aD (fun b2=>?_);refine D.aD (fun b3=>?_);refine D.ai (fun b4=>?_);refine D.e3 2 3 4 hR ?_;refine G.aG [0,1,2,3,4,5,6,7,8,10,11,12,13,9,14,15,16] [] Z kr_ (fun R hB hR=>?_);refine D.ac ?_;refine D.af (.tail _ (.tail _ (.head _))) ?_;refine D.ac ?_;refine D.af (.tail _ (.head _)) ?_;refine D.ps 2 ?_;refine D.af (.tail _ (.tail _ (.head _))) ?_;refine D.ac ?_;refine D.af (.tail _ (.head _)) ?_;refine D.ac ?_;refine D.af (.tail _ (.tail _ (.head _))) ?_;refine D.ac ?_;refine D.af (.tail _ (.head _)) ?_;refine D.au (iT hpu.m_ hqu.m_ hp.1 hq.1 om_ om_) U7 fl_ (fun v14 _ _ hq14=>?_);refine D.au (iT hpw.m_ hqw.m_ hp.2 hq.2 om_ om_) U7 fl_ (fun v19 _ _ hq19=>?_);refine D.az (fS (k:=j+k) _ hq14.m_ hq19.m_ (hp.1.mul hq.1) (hp.2.mul hq.2) (MA p.den_pos q.den_pos) hjk) (fun v20 C20 _ hq20=>?_)
 replace hq20:FrC C20 v20 (p*q):=by rw [<- mS];exact hq20
 obtain ⟨A5,n5,c5,A6,n6,c6,rfl⟩:=hq20.form;refine D.ae (j:=0) ?_;refine D.e1 4 hR ?_;refine G.aB (G.aR (.head _) U4 ?_);exact ⟨Z,hq20⟩
theorem eD {C:Mem}{u v:Value}{p q:Rat}{j k:Nat}(hu:FrC C u p)(hv:FrC C v q)(hp:SmQ j p)(hq:SmQ k q)(hjk:j+k<1000000):Pur cx.P 37 [u,v] C fun r D=>FrC D r (p+q):=by
 obtain ⟨pu,pw,rfl,hpu,hpw⟩:=hu;obtain ⟨qu,qw,rfl,hqu,hqw⟩:=hv;obtain ⟨A1,n1,c1,rfl,_,_⟩:=hpu.form;obtain ⟨A2,n2,c2,rfl,_,_⟩:=hpw.form;obtain ⟨A3,n3,c3,rfl,_,_⟩:=hqu.form;obtain ⟨A4,n4,c4,rfl,_,_⟩:=hqw.form;have hx:Sm (j+k) (p.num.natAbs*q.den):=hp.1.mul hq.2;have hy:Sm (j+k) (q.num.natAbs*p.den):=by rw [M4];exact hq.1.mul hp.2
 have hd:Sm (j+k+1) (p.den*q.den):=(hp.2.mul hq.2).le om_;have hd0:0<p.den*q.den:=MA p.den_pos q.den_pos;refine Fn.it kr_ Tryz.func37 55 fun w0=>?_;refine G.rg fun R hR=>?_;refine D.aD (fun b2=>?_);refine D.aD (fun b3=>?_);refine D.ai (fun b4=>?_);refine D.e3 2 3 4 hR ?_;refine G.aG [0,1,2,3,5,6,7,8,10,11,12,13,4,9,14,15,16,17] [] Z kr_ (fun R hB hR=>?_);refine D.ac ?_;refine D.af (.tail _ (.tail _ (.head _))) ?_;refine D.ac ?_;refine D.af (.tail _ (.head _)) ?_;refine D.ac ?_;refine D.af (.tail _ (.head _)) ?_;refine D.ac ?_;refine D.af (.tail _ (.tail _ (.head _))) ?_;refine D.ac ?_;refine D.af (.tail _ (.tail _ (.head _))) ?_;refine D.ac ?_;refine D.af (.tail _ (.head _)) ?_;refine D.au (iT hpu.m_ hqw.m_ hp.1 hq.2 om_ om_) U7 fl_ (fun v12 _ _ hq12=>?_);refine D.au (iT hqu.m_ hpw.m_ hq.1 hp.2 om_ om_) U7 fl_ (fun v17 _ _ hq17=>?_);refine D.au (iT hpw.m_ hqw.m_ hp.2 hq.2 om_ om_) U7 fl_ (fun v22 _ _ hq22=>?_);refine D.q6 3 2 3 4 5 6 7 hR ?_;refine G.rp 1 fun R hR=>?_;refine D.af (.tail _ (.tail _ (.head _))) ?_;refine D.ac ?_;refine D.af (.tail _ (.head _)) ?_;refine D.q7 2 2 3 4 5 6 7 23 hR ?_;refine G.cd (fun h23=>?_) fun h23=>?_
 ·have hs:decide (p.num<0)=decide (q.num<0):=by simpa using h23
  refine G.aG [0,1,2,3,5,4,6,7] [] Z kr_ (fun R hB hR=>?_);refine D.ac ?_;refine D.af (.tail _ (.tail _ (.head _))) ?_;refine D.ps 3 ?_;refine D.au (mR hq12.m_ hq17.m_ hx hy om_) U7 fl_ (fun v33 _ _ hq33=>?_);refine D.au (fS (k:=j+k+1) _ hq33.m_ hq22.m_ (hx.add hy) hd hd0 om_) U7 fl_ (fun v35 C35 _ hq35=>?_)
  replace hq35:FrC C35 v35 (p+q):=by rw [<- xo hs];exact hq35
  obtain ⟨A5,n5,c5,A6,n6,c6,rfl⟩:=hq35.form;refine D.ae (j:=0) ?_;refine D.e1 4 hR ?_;refine G.aB (G.aR (.head _) U4 ?_);exact ⟨Z,hq35⟩
 ·have hs:¬ decide (p.num<0)=decide (q.num<0):=fun h=>by rw [h] at h23;simp at h23
  refine G.rp 2 fun R hR=>?_;refine D.az (oZ hq12.m_ hq17.m_) (fun v39 _ _ hq39=>?_);obtain ⟨z,rfl,hz⟩:=hq39;refine D.q7 2 2 3 4 5 6 7 36 hR ?_;refine G.cd (fun h36=>?_) fun h36=>?_
  ·have hge:q.num.natAbs*p.den<=p.num.natAbs*q.den:=by
    have h0:(0:Int)<=z:=by simpa using h36
    have:=mt hz.1.2 om_;omega
   refine G.aG [0,1,2,3,5,4,6,7] [] Z kr_ (fun R hB hR=>?_);refine D.ac ?_;refine D.af (.tail _ (.tail _ (.head _))) ?_;refine D.ps 3 ?_;refine D.au (sK hq12.m_ hq17.m_ hx hge om_) U7 fl_ (fun v45 _ _ hq45=>?_);refine D.au (fS (k:=j+k+1) _ hq45.m_ hq22.m_ ((hx.mono om_).le om_) hd hd0 om_) U7 fl_ (fun v47 C47 _ hq47=>?_)
   replace hq47:FrC C47 v47 (p+q):=by rw [<- GF hs hge];exact hq47
   obtain ⟨A5,n5,c5,A6,n6,c6,rfl⟩:=hq47.form;refine D.ae (j:=0) ?_;refine D.e1 4 hR ?_;refine G.aB (G.aR (.head _) U4 ?_);exact ⟨Z,hq47⟩
  ·have hge:p.num.natAbs*q.den<=q.num.natAbs*p.den:=by
    have h0:¬ (0:Int)<=z:=by simpa using h36
    have:=hz.1.1 om_;omega
   refine G.aG [0,1,2,3,5,4,6,7] [] Z kr_ (fun R hB hR=>?_);refine D.ac ?_;refine D.af (.tail _ (.head _)) ?_;refine D.ps 3 ?_;refine D.au (sK hq17.m_ hq12.m_ hy hge om_) U7 fl_ (fun v52 _ _ hq52=>?_);refine D.au (fS (k:=j+k+1) _ hq52.m_ hq22.m_ ((hy.mono om_).le om_) hd hd0 om_) U7 fl_ (fun v54 C54 _ hq54=>?_)
   replace hq54:FrC C54 v54 (p+q):=by rw [<- xy hs hge];exact hq54
   obtain ⟨A5,n5,c5,A6,n6,c6,rfl⟩:=hq54.form;refine D.ae (j:=0) ?_;refine D.e1 4 hR ?_;refine G.aB (G.aR (.head _) U4 ?_);exact ⟨Z,hq54⟩
theorem d7 {C:Mem}{u v:Value}{p q:Rat}{j k:Nat}(hu:FrC C u p)(hv:FrC C v q)(hp:SmQ j p)(hq:SmQ k q)(hjk:j+k<1000000):Pur cx.P 76 [u,v] C fun r D=>FrC D r (p-q):=by
 obtain ⟨A1,n1,c1,A2,n2,c2,rfl⟩:=hu.form;obtain ⟨A3,n3,c3,A4,n4,c4,rfl⟩:=hv.form;refine Fn.it kr_ Tryz.func76 9 fun w0=>?_;refine G.rg fun R hR=>?_;refine D.aD (fun b2=>?_);refine D.aD (fun b3=>?_);refine D.ai (fun b4=>?_);refine D.e3 2 3 4 hR ?_;refine G.aG [0,1,2,3,4] [] Z kr_ (fun R hB hR=>?_);refine D.af (.tail _ (.tail _ (.head _))) ?_;refine D.af (.tail _ (.head _)) ?_;refine D.az (sJ hv.m_) (fun v7 _ _ hq7=>?_);refine D.az (eD hu.m_ hq7.m_ hp hq.neg hjk) (fun v8 _ _ hq8=>?_);rw [<- MJ] at hq8;obtain ⟨A5,n5,c5,A6,n6,c6,rfl⟩:=hq8.form;refine D.ae (j:=0) ?_;refine D.e1 4 hR ?_;refine G.aB (G.aR (.head _) U4 ?_);exact ⟨Z,hq8⟩
theorem kP {C:Mem}{u v:Value}{p q:Rat}{j k:Nat}(hu:FrC C u p)(hv:FrC C v q)(hp:SmQ j p)(hq:SmQ k q)(hjk:j+k<1000000):Pur cx.P 35 [u,v] C fun r _=>r=.int .i64 (sgn (p-q)):=by
 obtain ⟨A1,n1,c1,A2,n2,c2,rfl⟩:=hu.form;obtain ⟨A3,n3,c3,A4,n4,c4,rfl⟩:=hv.form;refine Fn.it kr_ Tryz.func35 9 fun w0=>?_;refine G.rg fun R hR=>?_;refine D.aD (fun b2=>?_);refine D.aD (fun b3=>?_);refine D.q2 1 2 3 hR ?_;refine G.rg fun R hR=>?_;refine D.af (.tail _ (.head _)) ?_;refine D.af (.head _) ?_;refine D.az (d7 hu.m_ hv.m_ hp hq hjk) (fun v7 _ _ hq7=>?_);refine D.ag (t8 hq7) ?_;refine D.q1 1 4 hR ?_;refine G.rf ?_;exact ⟨Z,Z⟩

theorem o6 (C:Mem)(s:Str)(c:UInt8):Gives cx.P 273 [aA s,.int .u8 c.toNat] C (.int .i64 (Lib.indexByte s c)):=by
 have h:=Gives.ofCalls (f:=273) (args:=[aA s,.int .u8 c.toNat]) (P:=cx.P) kr_ (fun w=>Any.stringslite_IndexByte Tryz.idxByte ⟨s.toArray⟩ (c.toNat:Int) w) C;simpa using h
theorem BW (C:Mem)(s:Str)(c:UInt8):Gives cx.P 224 [aA s,aA [c]] C (.int .i64 (Lib.indexByte s c)):=by
 refine Fn.it kr_ Tryz.func224 143 fun w0=>?_;refine G.z2 1 0 1 ?_;refine G.z3 3 0 1 5 ?_;refine G.rp 6 fun R hR=>?_;refine D.aI ?_;refine D.q4 1 0 1 5 16 hR ?_;refine G.cd (fun h16=>?_) fun h16=>?_
 ·refine G.z1 1 4 ?_;refine G.rf ?_;refine ⟨?_,Z⟩;have h:([c]:Str)=s:=by simpa using h16
  subst h;simp [Lib.indexByte]
 ·refine G.z4 3 0 1 5 24 ?_;refine G.cd (fun h24=>?_) fun h24=>?_
  ·refine G.rp 2 fun R hR=>?_;refine D.aW U8 (fun _=>⟨by omega,(rfl:([c]:Str)[(0:Int).toNat]?=some c)⟩) U2 ?_;refine D.ag (o6 _ s c) ?_;refine D.q1 1 4 hR ?_;refine G.rf ?_;exact ⟨Z,Z⟩
  ·exact absurd h24 (by simp)
theorem H0 (C:Mem)(s:Str)(c:UInt8)(hl:s.length<1000000):Gives cx.P 145 [aA s,aA [c]] C (.tuple #[aA (dL c s).1,aA ((dL c s).2.getD []),.bool (dL c s).2.isSome]):=by
 refine Fn.it kr_ Tryz.func145 23 fun w0=>?_;refine G.z2 3 0 1 ?_;refine G.rp 2 fun R hR=>?_;refine D.ag (BW _ s c) ?_;refine D.q3 1 0 1 7 hR ?_;refine G.z4 2 0 1 7 12 ?_;refine G.cd (fun h12=>?_) fun h12=>?_
 ·have h0:0<=Lib.indexByte s c:=by simpa using h12
  obtain ⟨pre,post,h1,h2,h3⟩:=wY h0;have hle:s.length=pre.length+1+post.length:=by rw [h2];simp;omega
  rw [h1,h3];refine G.aG [0,1,2,3,4,5,6,7,8,9,10,11] [] Z kr_ (fun R hB hR=>?_);refine D.ps 2 ?_;refine D.bF 0 pre.length U9 (fun _=>⟨.inl ⟨Z,Z⟩,.inr ⟨_,Z⟩,.inl ⟨Z,Z⟩,by omega,by omega,aP _⟩) U2 ?_;refine D.ps 4 ?_;refine D.cf (((pre.length+1:Nat):Int)) U4 (by simp) om_ om_ U2 ?_;refine D.bF (pre.length+1) s.length U9 (fun _=>⟨.inr ⟨_,Z⟩,.inl ⟨Z,Z⟩,.inl ⟨Z,Z⟩,by omega,aP _,aP _⟩) U2 ?_;refine D.q3 3 4 5 6 hR ?_;refine G.aB (G.dropAll (G.iX U4 ?_));refine ⟨?_,Z⟩;have e1:(s.take pre.length).drop 0=pre:=by rw [h2];simp
  have e2:(s.take s.length).drop (pre.length+1)=post:=by rw [cK,h2];simp
  rw [e1,e2];rfl
 ·have h0:¬ 0<=Lib.indexByte s c:=by simpa using h12
  rw [tm h0];refine G.z3 4 4 5 6 ?_;refine G.aB (G.dropAll (G.iX U4 ?_));exact ⟨Z,Z⟩
theorem CS (C:Mem)(s:Str)(c:UInt8)(hl:s.length<1000000):Gives cx.P 79 [aA s,aA [c]] C (.tuple #[aA (dL c s).1,aA ((dL c s).2.getD []),.bool (dL c s).2.isSome]):=by
 refine Fn.it kr_ Tryz.func79 13 fun w0=>?_;refine G.z2 3 0 1 ?_;refine G.rp 2 fun R hR=>?_;refine D.ag (H0 _ s c hl) ?_;refine D.q3 6 4 5 6 hR ?_;refine G.aB (G.dropAll (G.iX U4 ?_));exact ⟨Z,Z⟩
theorem uF (C:Mem)(s:Str)(c:UInt8):Gives cx.P 223 [aA s,aA [c]] C (.bool (aZ c s).2):=by
 refine Fn.it kr_ Tryz.func223 18 fun w0=>?_;refine G.z2 1 0 1 ?_;refine G.rp 9 fun R hR=>?_;refine D.bF 0 1 U9 (fun hg=>⟨.inl ⟨Z,Z⟩,.inr ⟨_,Z⟩,.inl ⟨Z,Z⟩,by omega,(by have h:decide ((1:Int)<=(s.length:Int))=true:=hg.1;simp at h;omega),aP _⟩) U2 ?_;refine D.ps 2 ?_;refine D.aw ?_;refine D.q1 1 4 hR ?_;refine G.rf ?_;refine ⟨?_,Z⟩;cases s with
 | nil=>rfl
 | cons b s =>
  have h1:decide ((1:Int)<=((b::s).length:Nat))=true:=by simp;omega
  unfold aZ;by_cases hb:b=c
  ·subst hb;simp;omega
  ·simp [hb]
theorem Fl (C:Mem)(s:Str)(c:UInt8):Gives cx.P 144 [aA s,aA [c]] C (.tuple #[aA (aZ c s).1,.bool (aZ c s).2]):=by
 refine Fn.it kr_ Tryz.func144 15 fun w0=>?_;refine G.z2 2 0 1 ?_;refine G.rp 2 fun R hR=>?_;refine D.ag (uF _ s c) ?_;refine D.q3 1 0 1 9 hR ?_;refine G.cd (fun h9=>?_) fun h9=>?_
 ·have h:¬ s.head?=some c:=fun h=>by unfold aZ at h9;rw [bW h] at h9;cases h9
  refine G.z2 3 4 5 ?_;refine G.aB (G.dropAll (G.a8 U3 ?_));unfold aZ;rw [a7 h];exact ⟨Z,Z⟩
 ·have h:s.head?=some c:=Lw fun h=>by unfold aZ at h9;rw [a7 h] at h9;cases h9
  have hlen:1<=s.length:=by cases s with
   | nil=>cases h
   | cons b s=>simp
  refine G.rp 3 fun R hR=>?_;refine D.bF 1 s.length U9 (fun _=>⟨.inr ⟨_,Z⟩,.inl ⟨Z,Z⟩,.inl ⟨Z,Z⟩,by omega,aP _,aP _⟩) U2 ?_;refine D.q2 2 4 5 hR ?_;refine G.aB (G.dropAll (G.a8 U3 ?_));unfold aZ;rw [bW h];refine ⟨?_,Z⟩;rw [cK,List.drop_one];rfl
theorem uS (C:Mem)(s:Str)(c:UInt8):Gives cx.P 78 [aA s,aA [c]] C (.tuple #[aA (aZ c s).1,.bool (aZ c s).2]):=by
 refine Fn.it kr_ Tryz.func78 11 fun w0=>?_;refine G.z2 2 0 1 ?_;refine G.rp 2 fun R hR=>?_;refine D.ag (Fl _ s c) ?_;refine D.q2 4 4 5 hR ?_;refine G.aB (G.dropAll (G.a8 U3 ?_));exact ⟨Z,Z⟩

theorem mQ {C:Mem}{v:Value}{n:Nat}(hn:0<n)(hb:n<B32)(h:Sl C 1 v [[.int .u32 n]]):NatC C v n:=by
 refine ⟨[n],⟨fun x hx=>by rw [K5.1 hx];exact hb, ?_⟩,Z,h⟩;simp;omega
theorem ut {C:Mem}{v:Value}{n:Nat}(hb:n<B32)(h:Sl C 1 v [[.int .u32 n]]):Pur cx.P 146 [v] C fun u D=>NatC D u n:=by
 have hd:DigD [n]:=fun x hx=>by rw [K5.1 hx];exact hb
 refine (zS C v [n] h).mono fun u D L _ ⟨h1,h2⟩=>⟨h1,mq [n],fG hd, ?_,h2⟩;rw [fF];rfl
theorem tg (C:Mem)(s:Str):Pur cx.P 80 [aA s] C fun u D=>∃ A n c,u=.tuple #[.slice A n c,.bool (okD s)]/\(okD s=true->NatC D (.slice A n c) (aX s)):=by
 refine Fn.it kr_ Tryz.func80 51 fun w0=>?_;refine G.z1 2 0 ?_;refine G.rp 6 fun R hR=>?_;refine D.aI ?_;refine D.ps 2 ?_;refine D.aW (b:=s.headD 0) U8 (fun hg=>⟨by omega,(by
  cases s with
  | nil=>exact Bool.noConfusion (show true=false from hg.1)
  | cons b s=>rfl)⟩) U2 ?_
 refine D.ps 5 ?_;refine D.aw ?_;refine D.aI ?_;refine D.e2 0 22 hR ?_;refine G.cd (fun h22=>?_) fun h22=>?_
 ·have hno:okD s=false:=by
   cases ho:okD s with
   | false=>rfl
   | true =>
    obtain ⟨⟨_,h2,h3⟩,h4⟩:=fZ.1 ho;exfalso;cases s with
    | nil=>exact h2 rfl
    | cons b s =>
     simp at h22 h3 h4;rcases h22 with h | h
     ·omega
     ·have hb:b=48:=N5.1 (by have h1:=h.1;show b.toNat=48;omega);have:=h3 hb;subst this;simp at h
  refine G.z2 2 2 3 ?_;refine G.aB (G.dropAll (G.a8 U3 ?_));exact ⟨Z,_,_,_,by rw [hno],fun h=>by rw [hno] at h;cases h⟩
 ·have hf:s≠[]/\s.length<=200/\(s.head?=some 48->s.length=1):=by
   cases s with
   | nil=>simp at h22
   | cons b s =>
    simp at h22;refine ⟨by simp,by simp;omega,fun h=>?_⟩;have hb:b=48:=by simpa using h
    subst hb;have:=h22.2;simp at this;have h0:s.length=0:=by omega
    rw [Nc.1 h0];rfl
  refine G.z2 1 0 4 ?_;refine G.z4 3 0 4 24 25 ?_;refine G.loop (fun fr C' L' μ=>∃ (i:Nat)(w:Value),(i<=s.length/\NatC C' w (aX (s.take i))/\∀ c∈s.take i,dE c=true)/\fr=[(0,[],aA s),(4,[],w),(24,[],.int .i64 s.length),(25,[],.int .i64 i)]/\L'=[]/\μ=s.length-i) (h_4 0 4 24 25) ⟨0,_,⟨ch _,Br _,by simp⟩,Z,Z,Z⟩ (fun fr C0' L0' m _ hI=>?_);obtain ⟨i,w,⟨hi,hw,hdig⟩,rfl,rfl,rfl⟩:=hI;refine G.z5 1 0 4 24 25 26 ?_;refine G.cd (fun h26=>?_) fun h26=>?_
  ·have hil:i<s.length:=by simpa using h26
   obtain ⟨c,hc⟩:∃ c,s[i]?=some c:=⟨s[i],aq hil⟩;refine G.z5 2 0 4 5 24 25 ?_;refine G.rp 2 fun R hR=>?_;refine D.aW U8 (fun _=>⟨by omega,hc⟩) U2 ?_;refine D.ps 4 ?_;refine D.aW U8 (fun _=>⟨by omega,hc⟩) U2 ?_;refine D.ac ?_;refine D.aI ?_;refine D.e6 0 4 5 24 25 37 hR ?_;refine G.cd (fun h37=>?_) fun h37=>?_
   ·have hno:okD s=false:=by
     cases ho:okD s with
     | false=>rfl
     | true =>
      exfalso;have h:=(fZ.1 ho).1.1 c (ba hc);unfold dE at h;simp at h37 h;omega
    refine G.z2 2 2 3 ?_;refine G.aB (G.dropAll (G.a8 U3 ?_));exact ⟨Z,_,_,_,by rw [hno],fun h=>by rw [hno] at h;cases h⟩
   ·have hcd:48<=c.toNat/\c.toNat<=57:=by
     simp at h37;omega
    have hsm:Sm s.length (aX (s.take i)):=(CO hdig).le (by rw [eB];omega);refine G.cut (fun fr C' L' μ=>∃ (w2:Value),(NatC C' w2 (aX (s.take (i+1))))/\fr=[(0,[],aA s),(4,[],w2),(24,[],.int .i64 s.length),(25,[],.int .i64 i)]/\L'=[]) ?_ (fun fr Cr9 Lr9 μ hler9 hI=>?_)
    ·refine G.gt (.cut [0,3,4,5,6,7] (.alt 1 (.cut [] (.alt 2 (.fin [8,9,10,11]) (.alt 8 (.fin [2,9,10,11]) .stop))) (.alt 8 (.fin [1,2,9,10,11]) .stop))) [(7,0)] Z Z kr_ (fun R hB hR hH=>?_);refine D.ps 3 ?_;refine D.aW U8 (fun _=>⟨by omega,hc⟩) U2 ?_;refine D.int (((c.toNat-48:Nat):Int)) U4 (by rw [IntKind.wrap_u8];omega) U2 ?_;refine D.bS (c:=((c.toNat-48:Nat):Int)) U8 (by rw [IntKind.wrap_u32];omega) U2 ?_;refine D.eu hH Z ⟨?_, ?_,trivial⟩
     ·refine D.ah [[.int .u32 10]] (fun p39 C39 _ hs39=>?_);refine D.eu hH Z ⟨?_, ?_,trivial⟩
      ·refine D.au (iT (k:=1) hw.m_ (mQ (n:=10) dc_ dc_ hs39.m_) hsm (Sm.one dc_) om_ om_) U7 fl_ (fun v40 C40 _ hq40=>?_);refine D.ah [[.int .u32 ((c.toNat-48:Nat):Int)]] (fun p46 C46 _ hs46=>?_);refine D.au (ut (n:=c.toNat-48) (DS (OJ _ _) (K4 (NS c) dc_)) hs46.m_) U7 fl_ (fun v47 C47 _ hq47=>?_);refine D.au (mR (k:=s.length+1) hq40.m_ hq47.m_ (hsm.mul (Sm.one dc_)) (Sm.le (Sm.one (DS (OJ _ _) (K4 (NS c) dc_))) om_) om_) U7 fl_ (fun v48 C48 _ hq48=>?_);refine D.q4 1 0 4 24 25 hR ?_;exact G.aK 0 mup (h_4 0 4 24 25) ⟨_,by rw [nD hc];exact hq48.mono mup,Z,Z⟩
      ·refine D.ah [[.int .u32 ((c.toNat-48:Nat):Int)]] (fun p46 C46 _ hs46=>?_);refine D.au (iT (k:=1) hw.m_ (mQ (n:=10) dc_ dc_ hs39.m_) hsm (Sm.one dc_) om_ om_) U7 fl_ (fun v40 C40 _ hq40=>?_);refine D.au (ut (n:=c.toNat-48) (DS (OJ _ _) (K4 (NS c) dc_)) hs46.m_) U7 fl_ (fun v47 C47 _ hq47=>?_);refine D.au (mR (k:=s.length+1) hq40.m_ hq47.m_ (hsm.mul (Sm.one dc_)) (Sm.le (Sm.one (DS (OJ _ _) (K4 (NS c) dc_))) om_) om_) U7 fl_ (fun v48 C48 _ hq48=>?_);refine D.q4 1 0 4 24 25 hR ?_;exact G.aK 0 mup (h_4 0 4 24 25) ⟨_,by rw [nD hc];exact hq48.mono mup,Z,Z⟩
     ·refine D.ah [[.int .u32 ((c.toNat-48:Nat):Int)]] (fun p46 C46 _ hs46=>?_);refine D.ah [[.int .u32 10]] (fun p39 C39 _ hs39=>?_);refine D.au (iT (k:=1) hw.m_ (mQ (n:=10) dc_ dc_ hs39.m_) hsm (Sm.one dc_) om_ om_) U7 fl_ (fun v40 C40 _ hq40=>?_);refine D.au (ut (n:=c.toNat-48) (DS (OJ _ _) (K4 (NS c) dc_)) hs46.m_) U7 fl_ (fun v47 C47 _ hq47=>?_);refine D.au (mR (k:=s.length+1) hq40.m_ hq47.m_ (hsm.mul (Sm.one dc_)) (Sm.le (Sm.one (DS (OJ _ _) (K4 (NS c) dc_))) om_) om_) U7 fl_ (fun v48 C48 _ hq48=>?_);refine D.q4 1 0 4 24 25 hR ?_;exact G.aK 0 mup (h_4 0 4 24 25) ⟨_,by rw [nD hc];exact hq48.mono mup,Z,Z⟩
    obtain ⟨w2,hw2,rfl,rfl⟩:=hI;refine G.rg fun R hR=>?_;refine D.ar _ ?_;refine D.q4 1 0 4 24 25 hR ?_;refine G.ax (m':=s.length-(i+1)) om_ mup (h_4 0 4 24 25) ⟨i+1,w2,⟨by omega,hw2.mono mup,fun x hx=>by
     rw [xO,hc] at hx;rcases Lh.1 hx with h | h
     ·exact hdig x h
     ·simp at h;subst h;unfold dE;simp [hcd]⟩,rfl,rfl,rfl⟩
  ·have hil:i=s.length:=by
    have:¬ i<s.length:=by simpa using h26
    omega
   rw [hil,cK] at hw hdig;have hok:okD s=true:=fZ.2 ⟨⟨hdig,hf.1,hf.2.2⟩,hf.2.1⟩;refine G.z2 3 2 3 ?_;refine G.aB (G.dropAll (G.a8 U3 ?_));obtain ⟨A9,n9,c9,rfl,_,_⟩:=hw.form;exact ⟨Z,_,_,_,by rw [hok],fun _=>hw.mono mup⟩

def cL (s:Str):Option Rat :=
 if okD (dL 47 (aZ 45 s).1).1 && !((aZ 45 s).2 && aX (dL 47 (aZ 45 s).1).1 == 0) then
  match (dL 47 (aZ 45 s).1).2 with
  | none=>some (ratB (aZ 45 s).2 (aX (dL 47 (aZ 45 s).1).1) 1)
  | some b=>if okD b && decide (1<aX b) && !(aX (dL 47 (aZ 45 s).1).1 == 0) && (Nat.gcd (aX (dL 47 (aZ 45 s).1).1) (aX b) == 1) then some (ratB (aZ 45 s).2 (aX (dL 47 (aZ 45 s).1).1) (aX b)) else none
 else none
theorem frOf {C:Mem}{u w:Value}{n d:Nat}{b:Bool}(hd:0<d)(hg:Nat.gcd n d=1)(hb:n=0->b=false)(hu:NatC C u n)(hw:NatC C w d):FrC C (.agg ⟨yN b u w⟩) (ratB b n d):=by
 have hdn:d≠0:=by omega
 refine ⟨u,w, ?_, ?_, ?_⟩
 ·by_cases hn:n=0
  ·rw [hb hn,hn,sC];rfl
  ·rw [qh hdn hn]
 ·rw [lP hdn,hg,N1];exact hu
 ·rw [lO hdn,hg,N1];exact hw
def Kl:Value:=.agg ⟨yN false (.slice none 0 0) (.slice none 0 0)⟩
def ReadAt (D:Mem)(v:Value):Option Rat->Prop
 | none=>v=Kl
 | some q=>FrC D v q
theorem Hj {b:Bool}(h:(!b)=false):b=true:=by cases b <;> simp_all
theorem Hp {C:Mem}{u v:Value}{m n k:Nat}(hu:NatC C u m)(hv:NatC C v n)(hm:Sm k m)(hn:Sm k n)(hk:k<=1000000)(hm0:0<m)(hn0:0<n):Pur cx.P 82 [u,v] C fun w D=>∃ b:Value,w=(fun x:Value=>x) b/\NatC D b (Nat.gcd m n) :=
 (Gi hu hv hm hn hk hm0 hn0).mono fun v _ _ _ ⟨h1,h2⟩=>⟨h1,v,rfl,h2⟩
theorem wo {s:Str}(h:okD s=true):Sm 200 (aX s):=(CO (fZ.1 h).1.1).le (fZ.1 h).2
theorem mH (C:Mem)(s:Str)(hl:s.length<1000000):Pur cx.P 30 [aA s] C fun u D=>∃ v,u=.tuple #[v,.bool (cL s).isSome]/\ReadAt D v (cL s):=by
 obtain ⟨t,neg,hdp⟩:∃ t b,aZ 45 s=(t,b):=⟨_,_,rfl⟩;obtain ⟨top,bo,hct⟩:∃ a b,dL 47 t=(a,b):=⟨_,_,rfl⟩;have htl:t.length<1000000:=by
  have:t=(aZ 45 s).1:=by rw [hdp]
  rw [this];unfold aZ;split
  ·simp;omega
  ·exact hl
 have hM:cL s=if okD top && !(neg && aX top == 0) then (match bo with
  | none=>some (ratB neg (aX top) 1)
  | some b=>if okD b && decide (1<aX b) && !(aX top == 0) && (Nat.gcd (aX top) (aX b) == 1) then some (ratB neg (aX top) (aX b)) else none) else none:=by
  unfold cL;rw [hdp];simp only;rw [hct]
 refine Fn.it kr_ Tryz.func30 72 fun w0=>?_;refine G.rg fun R hR=>?_;refine D.ai (fun b2=>?_);refine D.q2 1 0 2 hR ?_;refine G.rp 1 fun R hR=>?_;refine D.aj (by have h:=uS C s 45;rw [hdp] at h;exact h) U7 fl_ ?_;refine D.q3 5 2 4 5 hR ?_;refine G.rp 1 fun R hR=>?_;refine D.aj (by have h:=CS C t 47 htl;rw [hct] at h;exact h) U7 fl_ ?_;refine D.q5 7 2 5 6 7 8 hR ?_;refine G.rp 1 fun R hR=>?_;refine D.az (tg _ top) (fun v25 _ _ hq25=>?_);obtain ⟨A1,n1,c1,rfl,hn1⟩:=hq25;refine D.q6 5 2 5 7 8 9 10 hR ?_;have hz1:okD top=true->(n1=0 ↔ aX top=0):=fun h=>by
  obtain ⟨A,n,c,e,hh,_⟩:=(hn1 h).form;injection e with e1 e2 e3;rw [e2];exact hh
 refine G.rp 8 fun R hR=>?_;refine D.aw ?_;refine D.aI ?_;refine D.e6 2 5 7 8 9 37 hR ?_;refine G.cd (fun h37=>?_) fun h37=>?_
 ·have hno:cL s=none:=by
   rw [hM,a7];intro h;simp at h h37;rcases h37 with h1 | h1
   ·rw [h1] at h;cases h.1
   ·rcases h.2 with h2 | h2
    ·rw [h2] at h1;cases h1.1
    ·exact h2 ((hz1 h.1).1 om_)
  refine G.rg fun R hR=>?_;refine D.ap (yN false (.slice none 0 0) (.slice none 0 0)) ?_;refine D.ae (j:=0) ?_;refine D.q2 1 2 3 hR ?_;refine G.aB (G.ik (.head _) U5 ?_);exact ⟨Z,_,by rw [hno];rfl,by rw [hno];rfl⟩
 ·have hot:okD top=true/\(neg=true->¬ aX top=0):=by
   simp at h37;refine ⟨h37.1,fun h h0=>?_⟩;have:=h37.2 h;have:=(hz1 h37.1).2 h0;omega
  have hcond:(okD top && !(neg && aX top == 0))=true:=by
   simp [hot.1];cases hn:neg with
   | false=>exact .inl rfl
   | true=>exact .inr (hot.2 hn)
  rw [bW hcond] at hM;have hng:aX top=0->neg=false:=fun h=>by
   cases hn:neg with
   | false=>rfl
   | true=>exact absurd h (hot.2 hn)
  refine G.rg fun R hR=>?_;refine D.dw [[.int .u32 1]] U12 fl_ (fun b39 _ _ hs39=>?_);refine D.q6 1 2 5 7 8 9 11 hR ?_;refine G.z6 1 2 5 7 9 11 40 ?_;refine G.cd (fun h40=>?_) fun h40=>?_
  ·obtain ⟨b,rfl⟩:∃ b,bo=some b:=by
    cases bo with
    | none=>cases h40
    | some b=>exact ⟨b,rfl⟩
   refine G.rp 1 fun R hR=>?_;refine D.az (tg _ b) (fun v43 _ _ hq43=>?_);obtain ⟨A2,n2,c2,rfl,hn2⟩:=hq43;refine D.q5 5 2 5 9 10 11 hR ?_;refine G.aY [(5,2),(16,2),(18,2)] Z (fun R hR=>?_);refine D.ps 4 ?_;refine D.cJ [[.int .u32 1]] U12 fl_ U2 (fun b50 _ _ hs50=>?_);refine D.j7 (fun z:Int=>.int .i64 z) (fun hG51=>(by exact oZ ((hn2 (Hj hG51.1)).mono mup) (oY ((hs50 ⟨hG51.1,trivial⟩).mono mup)))) U7 fl_ U2 (fun z51 _ _ hq51=>?_);refine D.ac ?_;refine D.aI ?_;refine D.ps 4 ?_;refine D.aI ?_;refine D.ps 3 ?_;have k51:okD b=true->xQ (aX b) 1 z51:=fun h=>hq51 ⟨by show (!okD b)=false;rw [h];rfl,trivial⟩;have hgf:((!okD b || decide (z51<=0)) || ((n1:Int) == 0))=false->okD b=true/\1<aX b/\0<aX top:=fun h=>by
    simp at h;have h1:=(k51 h.1.1).2.1.1 h.1.2;have h2:=mt (hz1 hot.1).2 om_;exact ⟨h.1.1,h1,by omega⟩
   refine D.j7 (fun x:Value=>x) (fun hG62=>(by exact Hp (k:=200) ((hn1 hot.1).mono mup) ((hn2 (hgf hG62.1).1).mono mup) (wo hot.1) (wo (hgf hG62.1).1) om_ (hgf hG62.1).2.2 (ML Nat.zero_lt_one (hgf hG62.1).2.1))) U7 fl_ U2 (fun g62 _ _ hq62=>?_);refine D.cJ [[.int .u32 1]] U12 fl_ U2 (fun b63 _ _ hs63=>?_);refine D.j7 (fun z:Int=>.int .i64 z) (fun hG64=>(by exact oZ ((hq62 ⟨hG64.1,trivial⟩).mono mup) (oY ((hs63 ⟨hG64.1,trivial⟩).mono mup)))) U7 fl_ U2 (fun z64 _ _ hq64=>?_);have k64:((!okD b || decide (z51<=0)) || ((n1:Int) == 0))=false->xQ (Nat.gcd (aX top) (aX b)) 1 z64:=fun h=>hq64 ⟨h,trivial⟩;refine D.ac ?_;refine D.aI ?_;refine D.e5 2 5 9 11 66 hR ?_;refine G.cd (fun h66=>?_) fun h66=>?_
   ·have hno:cL s=none:=by
     rw [hM];simp only;rw [a7];intro h;simp at h;obtain ⟨⟨⟨h1,h2⟩,h3⟩,h4⟩:=h;have h5:((!okD b || decide (z51<=0)) || ((n1:Int) == 0))=false:=by
      have e1:=(k51 h1).2.1.2 h2;have e2:=mt (hz1 hot.1).1 h3;simp [h1];omega
     have h6:=k64 h5;rw [h5] at h66;have h7:z64=0:=by
      have a1:=h6.1;have a2:=h6.2.1;omega
     rw [h7] at h66;simp at h66
    refine G.rg fun R hR=>?_;refine D.ap (yN false (.slice none 0 0) (.slice none 0 0)) ?_;refine D.ae (j:=0) ?_;refine D.q2 1 2 3 hR ?_;refine G.aB (G.ik (.head _) U5 ?_);exact ⟨Z,_,by rw [hno];rfl,by rw [hno];rfl⟩
   ·have hr:okD b=true/\1<aX b/\0<aX top/\Nat.gcd (aX top) (aX b)=1:=by
     rw [LU] at h66;have h1:=hgf h66.1;have h2:=k64 h66.1;have h3:z64=0:=by simpa using h66.2
     refine ⟨h1.1,h1.2.1,h1.2.2, ?_⟩;have a1:=h2.1;have a2:=h2.2.1;omega
    have hyes:cL s=some (ratB neg (aX top) (aX b)):=by
     rw [hM];simp only;rw [bW];simp [hr.1,hr.2.1,hr.2.2.2];omega
    refine G.rp 3 fun R hR=>?_;refine D.ap (yN neg (.slice A1 n1 c1) (.slice A2 n2 c2)) ?_;refine D.ae (j:=0) ?_;refine D.q2 1 2 3 hR ?_;refine G.aB (G.ik (.head _) U5 ?_);refine ⟨Z,_,by rw [hyes];rfl, ?_⟩;rw [hyes];exact frOf om_ hr.2.2.2 hng ((hn1 hot.1).mono mup) ((hn2 hr.1).mono mup)
  ·obtain rfl:bo=none:=by
    cases bo with
    | none=>rfl
    | some b=>cases h40
   refine G.rp 3 fun R hR=>?_;refine D.ap (yN neg (.slice A1 n1 c1) (.slice (some ⟨b39,0,none⟩) 1 1)) ?_;refine D.ae (j:=0) ?_;refine D.q2 1 2 3 hR ?_;refine G.aB (G.ik (.head _) U5 ?_);refine ⟨Z,_,by rw [hM];rfl, ?_⟩;rw [hM];exact frOf om_ (Nat.gcd_one_right _) hng ((hn1 hot.1).mono mup) (oY hs39.m_)
end Go.Proofs.YtgfiffppookakaaGreatDoor
