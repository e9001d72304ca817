/- Laws that the proofs of this seat share, part 10. -/
import Derived.Test.YtgfiffppookakaaGreatDoorG9
import Derived.Test.YtgfiffppookakaaGreatDoorShelf
import Derived.RangeFuncSeq
set_option maxHeartbeats 4000000
namespace Go.Proofs.YtgfiffppookakaaGreatDoor
open Go Go.Jog
set_option maxRecDepth 100000

theorem y6 (C:Mem)(hT:Tabs C)(mv v:Value)(pts:List Pt)(tris:List Tri)(fs:List (List Rat))(vs:List Value)(hm:MeshIn C mv pts tris)(hG:Good pts tris)(hv:Sl C 1 v (vs.map fun w=>[w]))(hvl:vs.length=fs.length)
  (hf:∀ (i:Nat)(w:Value)(f:List Rat),vs[i]?=some w->fs[i]?=some f->Sl C 1 w (f.map gK)) (hl:∀ f∈fs,f.length=pts.length/\∀ q∈f,QB 1 q):Gives cx.P 294 [mv,v] C (.int .i64 0):=by
 have hm0:=hm;have hlp:=hG.ok.lp;obtain ⟨v1,v2,rfl,h1,h2⟩:=id hm.ex;obtain ⟨A1,c1,rfl,hq1,hq2,_⟩:=id h1;obtain ⟨A3,c3,rfl,hq3,hq4,_⟩:=id hv;have hmx:maxLen<=9223372036854775807:=by simp [maxLen]
 simp only [aH] at h1 hv hm0 hq3 ⊢;refine Fn.it kr_ Tryz.func294 41 fun w0=>?_;refine G.rg fun R hR=>?_;refine D.aD (fun b2=>?_);refine D.q2 1 1 2 hR ?_;refine G.freeze 0 Z (fun _ _ hb2=>?_);refine G.rg fun R hR=>?_;refine D.aa (PtrTo.block (Mem.get hb2 mup) _) ?_;refine D.ag (fQ _ hT.m_ _ pts tris hm0.m_ hG) ?_;refine D.q3 1 1 2 5 hR ?_;refine G.z4 2 1 2 5 14 ?_;refine G.cd (fun h14=>?_) fun h14=>?_
 ·exact absurd h14 dc_
 ·refine G.z4 3 2 16 17 18 ?_;refine G.loop (fun fr C' L' μ=>∃ (i:Nat),(i<=vs.length)/\fr=[(2,[],.pointer (some ⟨b2,0,none⟩)),(16,[],.slice A3 vs.length c3),(17,[],.int .i64 vs.length),(18,[],.int .i64 i)]/\L'=[]/\μ=vs.length-i) (h_4 2 16 17 18) ⟨0,ch _,Z,Z,Z⟩ (fun fr C0' L0' m _ hI=>?_);obtain ⟨i,hi,rfl,rfl,rfl⟩:=hI;refine G.z5 1 2 16 17 18 19 ?_;refine G.cd (fun h19=>?_) fun h19=>?_
  ·have hil:i<vs.length:=by simpa using h19
   obtain ⟨f,hf0⟩:∃ f,fs[i]?=some f:=⟨fs[i],aq om_⟩;obtain ⟨w,hw0⟩:∃ w,vs[i]?=some w:=⟨vs[i],aq hil⟩;have hfw:=hf i w f hw0 hf0;obtain ⟨hfl,hfq⟩:=hl f (ba hf0);obtain ⟨A4,c4,rfl,hq5,hq6,_⟩:=id hfw;simp only [aH] at hfw hw0 hq5;refine G.rg fun R hR=>?_;refine D.ak hv.m_ U10 om_ (bg (f:=fun w=>[w]) hw0) fl_ (fun p20 hp20=>?_);refine D.aa hp20 ?_;refine D.q5 1 2 7 16 17 18 hR ?_;refine G.rp 3 fun R hR=>?_;refine D.aa (PtrTo.block (Mem.get hb2 mup) _) ?_;refine D.q6 2 2 7 16 17 18 27 hR ?_;refine G.cd (fun h27=>?_) fun h27=>?_
   ·rw [hfl] at h27;simp at h27
   ·refine G.z7 3 2 16 17 18 28 29 30 ?_;refine G.loop (fun fr C' L' μ=>∃ (j:Nat),(j<=f.length)/\fr=[(2,[],.pointer (some ⟨b2,0,none⟩)),(16,[],.slice A3 vs.length c3),(17,[],.int .i64 vs.length),(18,[],.int .i64 i),(28,[],.slice A4 f.length c4),(29,[],.int .i64 f.length),(30,[],.int .i64 j)]/\L'=[]/\μ=f.length-j) (h_7 2 16 17 18 28 29 30) ⟨0,ch _,Z,Z,Z⟩ (fun fr C1' L1' m hle1 hI=>?_);obtain ⟨j,hj,rfl,rfl,rfl⟩:=hI;refine G.z8 1 2 16 17 18 28 29 30 31 ?_;refine G.cd (fun h31=>?_) fun h31=>?_
    ·have hjl:j<f.length:=by simpa using h31
     obtain ⟨q,hq⟩:∃ q,f[j]?=some q:=⟨f[j],aq hjl⟩;refine G.rg fun R hR=>?_;refine D.ak hfw.m_ U10 om_ (bg hq) fl_ (fun p32 hp32=>?_);refine D.aa hp32 ?_;refine D.q8 1 2 9 16 17 18 28 29 30 hR ?_;refine G.rp 1 fun R hR=>?_;refine D.aj (ui _ hT.m_ q ((hfq q (ba hq)).le dc_)) U7 fl_ ?_;refine D.q8 1 2 10 16 17 18 28 29 30 hR ?_;refine G.z9 2 2 10 16 17 18 28 29 30 37 ?_;refine G.cd (fun h37=>?_) fun h37=>?_
     ·exact absurd h37 dc_
     ·refine G.rg fun R hR=>?_;refine D.ar _ ?_;refine D.q7 1 2 16 17 18 28 29 30 hR ?_;refine G.ax (m':=f.length-(j+1)) om_ hle1 (h_7 2 16 17 18 28 29 30) ⟨j+1,by omega,Z,Z,Z⟩
    ·refine G.rg fun R hR=>?_;refine D.ar _ ?_;refine D.q4 1 2 16 17 18 hR ?_;refine G.ax (m':=vs.length-(i+1)) om_ mup (h_4 2 16 17 18) ⟨i+1,by omega,Z,Z,Z⟩
  ·refine G.z1 1 4 ?_;refine G.rf ?_;exact ⟨Z,Z⟩
theorem JQ {a b:Rat}(h:a<=b):¬ 0<rM a b:=by
 unfold rM;by_cases e:a<b
 ·rw [bW e];decide
 ·have:a=b:=by grind
  subst this;simp
theorem KG {C:Mem}{f g:List Rat}{x y:Value}(hf:Sl C 1 x (f.map gK))(hg:Sl C 1 y (g.map gK)):∀ (i:Nat)(w:Value)(h:List Rat),[x,y][i]?=some w->[f,g][i]?=some h->Sl C 1 w (h.map gK)
 | 0,_,_,hw,hx=>by cases hw;cases hx;exact hf
 | 1,_,_,hw,hx=>by cases hw;cases hx;exact hg
 | _+2,_,_,hw,_=>by cases hw
theorem KV {α:Type}{P:α->Prop}{a b:α}(ha:P a)(hb:P b):∀ x∈[a,b],P x:=by
 intro x hx;rcases cI.1 hx with rfl | hx
 ·exact ha
 ·rw [K5.1 hx];exact hb
theorem FD (C:Mem)(hT:Tabs C)(mv fv gv:Value)(pts:List Pt)(tris:List Tri)(f g:List Rat)(hm:MeshIn C mv pts tris)(hG:Good pts tris)(hf:Sl C 1 fv (f.map gK))(hg':Sl C 1 gv (g.map gK))
  (hfl:f.length=pts.length/\∀ q∈f,QB 1 q) (hgl:g.length=pts.length/\∀ q∈g,QB 1 q) (hle:∀ k:Nat,f.getD k 0<=g.getD k 0):Gives cx.P 255 [mv,fv,gv] C (.tuple #[.bool true,.int .i64 0]):=by
 have hm0:=hm;have hlp:=hG.ok.lp;obtain ⟨v1,v2,rfl,h1,h2⟩:=id hm.ex;obtain ⟨A1,c1,rfl,hq1,hq2,_⟩:=id h1;obtain ⟨A3,c3,rfl,hq3,hq4,_⟩:=id hf;obtain ⟨A4,c4,rfl,hq5,hq6,_⟩:=id hg';have hmx:maxLen<=9223372036854775807:=by simp [maxLen]
 simp only [aH] at h1 hf hg' hm0 hq3 ⊢;refine Fn.it kr_ Tryz.func255 34 fun w0=>?_;refine G.rg fun R hR=>?_;refine D.aD (fun b3=>?_);refine D.q3 2 1 2 3 hR ?_;refine G.freeze 0 Z (fun _ _ hb3=>?_);refine G.rg fun R hR=>?_;refine D.aa (bkT hb3 2) ?_;refine D.ps 2 ?_;refine D.ah ([Value.slice A3 f.length c3,.slice A4 g.length c4].map fun w=>[w]) (fun p14 _ _ hs14=>?_);refine D.ag (y6 _ hT.m_ _ _ pts tris [f,g] [.slice A3 f.length c3,.slice A4 g.length c4] hm0.m_ hG hs14.m_ Z (KG hf.m_ hg'.m_) (KV hfl hgl)) ?_;refine D.q3 1 1 2 8 hR ?_;refine G.z4 2 1 2 8 17 ?_;refine G.cd (fun h17=>?_) fun h17=>?_
 ·exact absurd h17 dc_
 ·refine G.z4 3 2 19 20 21 ?_;refine G.loop (fun fr C' L' μ=>∃ (i:Nat),(i<=f.length)/\fr=[(2,[],.slice A4 g.length c4),(19,[],.slice A3 f.length c3),(20,[],.int .i64 f.length),(21,[],.int .i64 i)]/\L'=[]/\μ=f.length-i) (h_4 2 19 20 21) ⟨0,ch _,Z,Z,Z⟩ (fun fr C0' L0' m _ hI=>?_);obtain ⟨i,hi,rfl,rfl,rfl⟩:=hI;refine G.z5 1 2 19 20 21 22 ?_;refine G.cd (fun h22=>?_) fun h22=>?_
  ·have hil:i<f.length:=by simpa using h22
   have ha:=s5 hil;have hb:=s5 (show i<g.length by omega);refine G.rp 1 fun R hR=>?_;refine D.ak hf.m_ U10 om_ (bg ha) fl_ (fun p24 hp24=>?_);refine D.aa hp24 ?_;refine D.q6 2 2 9 10 19 20 21 hR ?_;refine G.rp 3 fun R hR=>?_;refine D.ak hg'.m_ U10 om_ (bg hb) fl_ (fun p29 hp29=>?_);refine D.aa hp29 ?_;refine D.aj (bY _ hT.m_ (f.getD i 0) (g.getD i 0) 1 dc_ dc_ (hfl.2 _ (ba ha)) (hgl.2 _ (ba hb))) U7 fl_ ?_;refine D.q5 1 2 19 20 21 32 hR ?_;refine G.cd (fun h32=>?_) fun h32=>?_
   ·exact absurd (bi h32) (JQ (hle i))
   ·refine G.rg fun R hR=>?_;refine D.ar _ ?_;refine D.q4 1 2 19 20 21 hR ?_;refine G.ax (m':=f.length-(i+1)) om_ mup (h_4 2 19 20 21) ⟨i+1,by omega,Z,Z,Z⟩
  ·refine G.z2 2 6 7 ?_;refine G.aB (G.dropAll (G.a8 U3 ?_));exact ⟨Z,Z⟩
theorem BX (C:Mem)(v:Value)(l:List Str)(x:Str)(hv:Sl C 1 v (l.map bN))(hl:l.length<=1000000)(hx:x ∉ l):Gives cx.P 63 [v,aA x] C (.int .i64 (-1)):=by
 obtain ⟨A,c,rfl,_⟩:=id hv;simp only [aH] at hv ⊢;refine Fn.it kr_ Tryz.func63 19 fun w0=>?_;refine G.z2 1 0 1 ?_;refine G.z4 3 0 1 7 8 ?_;refine G.loop (fun fr C' L' μ=>∃ (k:Nat),(k<=l.length)/\fr=[(0,[],.slice A l.length c),(1,[],aA x),(7,[],.int .i64 l.length),(8,[],.int .i64 k)]/\L'=[]/\μ=l.length-k) (h_4 0 1 7 8) ⟨0,ch _,Z,Z,Z⟩ (fun fr C0' L0' m hle0 hI=>?_);obtain ⟨k,hk,rfl,rfl,rfl⟩:=hI;refine G.z5 1 0 1 7 8 9 ?_;refine G.cd (fun h9=>?_) fun h9=>?_
 ·have hkl:k<l.length:=by simpa using h9
  refine G.z5 2 0 1 5 7 8 ?_;refine G.rp 3 fun R hR=>?_;refine D.ak hv.m_ U10 om_ (row:=bN l[k]) (bg (aq hkl)) fl_ (fun p14 hp14=>?_);refine D.aa hp14 ?_;refine D.ac ?_;refine D.dn [E_ 0 _,E_ 1 _,E_ 5 _,E_ 7 _,E_ 8 _,(16,[],(.bool (x == l[k])))] hR ?_;refine G.cd (fun h16=>?_) fun h16=>?_
  ·exact absurd (show x=l[k] from Lg.1 h16) (fun e=>hx (by rw [e];exact Mv _))
  ·refine G.rg fun R hR=>?_;refine D.cf (((k+1:Nat):Int)) U4 om_ om_ om_ U2 ?_;refine D.q4 1 0 1 7 8 hR ?_;refine G.ax (m':=l.length-(k+1)) om_ hle0 (h_4 0 1 7 8) ⟨k+1,by omega,Z,Z,Z⟩
 ·refine G.z1 1 4 ?_;refine G.rf ?_;exact ⟨Z,Z⟩
theorem ly (C:Mem)(v:Value)(l:List Str)(x:Str)(hv:Sl C 1 v (l.map bN))(hl:l.length<=1000000)(hx:x ∉ l):Gives cx.P 24 [v,aA x] C (.bool false):=by
 refine Fn.it kr_ Tryz.func24 9 fun w0=>?_;refine G.z2 1 0 1 ?_;refine G.rp 2 fun R hR=>?_;refine D.ag (BX _ _ l x hv hl hx) ?_;refine D.q1 2 4 hR ?_;refine G.rf ?_;exact ⟨Z,Z⟩
theorem fld0 {n:Nat}{f:List Rat}(h:f.length=n/\∀ q∈f,QB 1 q):HJ n (f.map qtx)=0:=by
 unfold HJ;rw [aH,bW h.1,show (f.map qtx).all cQ=true from ep.2 (fun s hs=>by obtain ⟨q,hq,rfl⟩:=j5.1 hs;exact dC ((h.2 q hq).le dc_))];rfl
theorem yo {l:List Str}(h:l.Nodup){i:Nat}{s:Str}(hs:l[i]?=some s):s ∉ l.take i:=by
 intro hm;obtain ⟨j,hj⟩:=Ma hm;have hji:j<i:=by have:=(aJ.1 hj).1;rw [eB] at this;omega
 rw [List.getElem?_take_of_lt hji] at hj;obtain ⟨hj1,hj2⟩:=aJ.1 hj;obtain ⟨hi1,hi2⟩:=aJ.1 hs;exact List.pairwise_iff_getElem.1 h j i hj1 hi1 hji (hj2.trans hi2.symm)
theorem u9 {np:Nat}{e:Evt}(hE:EvO np e){f:List Rat}(h:f∈e.base::e.surf):f.length=np/\∀ q∈f,QB 1 q:=by
 rcases cI.1 h with rfl | h
 ·exact ⟨hE.bl,hE.bq⟩
 ·exact hE.sl f h
theorem Fe {C D:Mem}{e:Evt}{nm:Str}{cs:List Value}(h:Ev1 C e nm cs)(hl:C.le D):Ev1 D e nm cs:=by
 obtain ⟨A1,c1,A2,c2,A3,c3,h,a,b,c⟩:=h;exact ⟨A1,c1,A2,c2,A3,c3,h,a.mono hl,b.mono hl,c.mono hl⟩
theorem nM (C:Mem)(hT:Tabs C)(mv:Value)(pts:List Pt)(tris:List Tri)(hm:MeshIn C mv pts tris)(hG:Good pts tris)(nm:Str)(e:Evt)(hE:EvO pts.length e)(cs:List Value)(hc:Ev1 C e nm cs) :
  Gives cx.P 181 [mv,.agg ⟨cs⟩] C (.int .i64 0):=by
 have hm0:=hm;obtain ⟨v1,v2,rfl,_⟩:=id hm.ex;obtain ⟨A1,c1,A2,c2,A3,c3,rfl,hb,hu,vs,hs,hsl,hsf⟩:=hc;have hun:=hE.un;have hu2:=hE.u2;have hbl:=u9 hE (br ..);obtain ⟨_,_,e1,hc21,hc22,_⟩:=id hu;simp only [Value.slice.injEq] at e1;obtain ⟨rfl,_,rfl⟩:=e1;rw [<- hsl] at hs ⊢;rw [aH] at hc21;have hfc:=fun D (hD:C.le D)=>qY D (hT.mono hD) _ _ pts tris (e.base.map qtx) (hm0.mono hD) hG (show Sl D 1 (.slice A1 e.base.length c1) _ by rw [Ns];exact hb.mono hD) (fun s h=>by obtain ⟨q,hq,rfl⟩:=j5.1 h;exact dD ((hE.bq q hq).le dc_));rw [fld0 hbl] at hfc;refine Fn.it kr_ Tryz.func181 83 fun w0=>?_;refine G.rg fun R hR=>?_;refine D.aD (fun b2=>?_);refine D.aD (fun b3=>?_);refine D.q2 1 2 3 hR ?_;refine G.freeze 1 Z (fun _ _ hb2=>?_);refine G.freeze 0 Z (fun _ _ hb3=>?_);refine G.rp 1 fun R hR=>?_;refine D.aa (bkT hb3 3) ?_;refine D.ai (fun b5=>?_);refine D.ae (j:=0) ?_;refine D.e2 2 5 hR ?_;refine G.freeze 0 Z (fun _ _ hb5=>?_);refine G.rg fun R hR=>?_;refine D.aa (bkT hb2 2) ?_;refine D.ac ?_;refine D.aa (bkT hb5 1) ?_;refine D.ag (hfc _ mup) ?_;refine D.q3 1 2 5 6 hR ?_;refine G.z4 2 2 5 6 22 ?_;refine G.cd (fun h22=>?_) fun h22=>?_
 ·exact absurd h22 dc_
 ·refine G.rp 1 fun R hR=>?_;refine D.aa (bkT hb5 1) ?_;refine D.q3 2 2 5 27 hR ?_;refine G.cd (fun h27=>?_) fun h27=>?_
  ·have h:=Lg.1 h27;omega
  ·refine G.rp 1 fun R hR=>?_;refine D.aa (bkT hb5 1) ?_;refine D.q3 2 2 5 31 hR ?_;refine G.cd (fun h31=>?_) fun h31=>?_
   ·rw [cH] at h31;omega
   ·refine G.rp 1 fun R hR=>?_;refine D.aa (bkT hb5 1) ?_;refine D.q5 2 2 5 33 34 35 hR ?_;refine G.loop (fun fr C' L' μ=>∃ (i:Nat),(i<=e.units.length)/\fr=[(2,[],.pointer (some ⟨b2,0,none⟩)),(5,[],.pointer (some ⟨b5,0,none⟩)),(33,[],.slice A2 e.units.length c2),(34,[],.int .i64 e.units.length),(35,[],.int .i64 i)]/\L'=[]/\μ=e.units.length-i) (h_5 2 5 33 34 35) ⟨0,ch _,Z,Z,Z⟩ (fun fr C0' L0' m _ hI=>?_);obtain ⟨i,hi,rfl,rfl,rfl⟩:=hI;refine G.z6 1 2 5 33 34 35 36 ?_;refine G.cd (fun h36=>?_) fun h36=>?_
    ·have hil:i<e.units.length:=by simpa using h36
     obtain ⟨s,hs0⟩:∃ s,e.units[i]?=some s:=⟨e.units[i],aq hil⟩;refine G.rp 1 fun R hR=>?_;refine D.ak hu.m_ U10 om_ (bg hs0) fl_ (fun p38 hp38=>?_);refine D.aa hp38 ?_;refine D.q7 2 2 5 7 8 33 34 35 hR ?_;refine G.rp 1 fun R hR=>?_;refine D.ag (f9 _ s (hE.nu s (ba hs0)).1) ?_;refine D.q8 1 2 5 7 8 9 33 34 35 hR ?_;refine G.z9 2 2 5 7 8 9 33 34 35 43 ?_;refine G.cd (fun h43=>?_) fun h43=>?_
     ·exact absurd h43 dc_
     ·refine G.rp 1 fun R hR=>?_;refine D.aa (bkT hb5 1) ?_;refine D.ac ?_;refine D.fp 0 i c2 U12 (fun _=>⟨.inl ⟨Z,Z⟩,.inr ⟨_,Z⟩,.inl ⟨Z,Z⟩,by omega,by omega,aP _⟩) U2 ?_;refine D.ac ?_;refine D.aj (ly _ _ (e.units.take i) s (by rw [Ov];exact hu.m_.sub (ch i) (by rw [aH];omega) om_ (aP c2)) (by rw [eB];omega) (yo hE.nd hs0)) U7 fl_ ?_;refine D.e6 2 5 33 34 35 50 hR ?_;refine G.cd (fun h50=>?_) fun h50=>?_
      ·exact absurd h50 dc_
      ·refine G.rg fun R hR=>?_;refine D.ar _ ?_;refine D.q5 1 2 5 33 34 35 hR ?_;refine G.ax (m':=e.units.length-(i+1)) om_ mup (h_5 2 5 33 34 35) ⟨i+1,by omega,Z,Z,Z⟩
    ·refine G.rp 1 fun R hR=>?_;refine D.aa (bkT hb5 1) ?_;refine D.ps 2 ?_;refine D.aa (bkT hb5 1) ?_;refine D.ac ?_;refine D.ar _ ?_;refine D.q3 1 2 5 59 hR ?_;refine G.cd (fun h59=>?_) fun h59=>?_
     ·rw [hun,hsl] at h59;simp at h59
     ·refine G.rp 1 fun R hR=>?_;refine D.aa (bkT hb5 1) ?_;refine D.q3 1 2 5 10 hR ?_;refine G.rp 1 fun R hR=>?_;refine D.aa (bkT hb5 1) ?_;refine D.q5 2 2 10 63 64 65 hR ?_;refine G.loop (fun fr C' L' μ=>∃ (j:Nat)(w:Value)(f:List Rat),(j<=vs.length/\(e.base::e.surf)[j]?=some f/\Sl C 1 w (f.map gK))/\fr=[(2,[],.pointer (some ⟨b2,0,none⟩)),(10,[],w),(63,[],.slice A3 vs.length c3),(64,[],.int .i64 vs.length),(65,[],.int .i64 j)]/\L'=[]/\μ=vs.length-j) (h_5 2 10 63 64 65) ⟨0,_,e.base,⟨ch _,Z,hb⟩,Z,Z,Z⟩ (fun fr C1' L1' m _ hI=>?_);obtain ⟨j,w,f,⟨hj,hf,hw⟩,rfl,rfl,rfl⟩:=hI;refine G.z6 1 2 10 63 64 65 66 ?_;refine G.cd (fun h66=>?_) fun h66=>?_
      ·have hjl:j<vs.length:=by simpa using h66
       obtain ⟨g,hg0⟩:∃ g,e.surf[j]?=some g:=⟨e.surf[j],aq om_⟩;obtain ⟨u,hu0⟩:∃ u,vs[j]?=some u:=⟨vs[j],aq hjl⟩;have hgu:=hsf j u g hu0 hg0;have hfr:=u9 hE (ba hf);have hgr:=u9 hE (Ll _ (ba hg0));obtain ⟨A7,c7,rfl,_⟩:=id hgu;refine G.rg fun R hR=>?_;refine D.ak hs.m_ U10 om_ (bg (f:=fun w=>[w]) hu0) fl_ (fun p67 hp67=>?_);refine D.aa hp67 ?_;refine D.q6 1 2 10 12 63 64 65 hR ?_;refine G.rg fun R hR=>?_;refine D.aa (bkT hb2 2) ?_;refine D.ps 2 ?_;refine D.aj (FD _ hT.m_ _ _ _ pts tris f g hm0.m_ hG hw.m_ hgu.m_ hfr hgr (hE.so j f g hf (by rw [Nd];exact hg0))) U7 fl_ ?_;refine D.q7 5 2 12 13 14 63 64 65 hR ?_;refine G.z8 2 2 12 13 14 63 64 65 77 ?_;refine G.cd (fun h77=>?_) fun h77=>?_
       ·exact absurd h77 dc_
       ·refine G.z6 2 2 12 63 64 65 80 ?_;refine G.cd (fun h80=>?_) fun h80=>?_
        ·exact absurd h80 dc_
        ·refine G.z5 2 2 10 63 64 65 ?_;refine G.rg fun R hR=>?_;refine D.ar _ ?_;refine D.q5 1 2 10 63 64 65 hR ?_;refine G.ax (m':=vs.length-(j+1)) om_ mup (h_5 2 10 63 64 65) ⟨j+1,_,g,⟨by omega,by rw [Nd];exact hg0,hgu⟩,Z,Z,Z⟩
      ·refine G.z1 1 4 ?_;refine G.rf ?_;exact ⟨Z,Z⟩
theorem yS (C:Mem)(hT:Tabs C)(mv:Value)(pts:List Pt)(tris:List Tri)(hm:MeshIn C mv pts tris)(hG:Good pts tris)(nm:Str)(hnm:cA nm=true)(e:Evt)(hE:EvO pts.length e)(cs:List Value)(hc:Ev1 C e nm cs) :
  Gives cx.P 22 [mv,.agg ⟨cs⟩] C (.int .i64 0):=by
 have hm0:=hm;have hc0:=fun D (h:C.le D)=>Fe hc h;obtain ⟨v1,v2,rfl,_⟩:=id hm.ex;obtain ⟨A1,c1,A2,c2,A3,c3,rfl,hb,hu,vs,hs,hsl,hsf⟩:=hc;refine Fn.it kr_ Tryz.func22 47 fun w0=>?_;refine G.rg fun R hR=>?_;refine D.aD (fun b2=>?_);refine D.aD (fun b3=>?_);refine D.q2 1 2 3 hR ?_;refine G.freeze 1 Z (fun _ _ hb2=>?_);refine G.freeze 0 Z (fun _ _ hb3=>?_);refine G.rg fun R hR=>?_;refine D.aa (bkT hb2 2) ?_;refine D.ag (fQ _ hT.m_ _ pts tris hm0.m_ hG) ?_;refine D.q3 1 2 3 5 hR ?_;refine G.z4 2 2 3 5 11 ?_;refine G.cd (fun h11=>?_) fun h11=>?_
 ·exact absurd h11 dc_
 ·refine G.rp 1 fun R hR=>?_;refine D.aa (bkT hb3 1) ?_;refine D.ps 3 ?_;refine D.aN U6 (fun _=>PtrTo.blockT (Mem.get hb3 mup) _ 1) U3 ?_;refine D.ac ?_;refine D.aI ?_;refine D.e3 2 3 20 hR ?_;refine G.cd (fun h20=>?_) fun h20=>?_
  ·exact absurd h20 dc_
  ·refine G.rp 1 fun R hR=>?_;refine D.aa (bkT hb3 1) ?_;refine D.ag (f9 _ nm hnm) ?_;refine D.q3 1 2 3 6 hR ?_;refine G.z4 2 2 3 6 25 ?_;refine G.cd (fun h25=>?_) fun h25=>?_
   ·exact absurd h25 dc_
   ·refine G.rp 1 fun R hR=>?_;refine D.aa (bkT hb3 1) ?_;refine D.ac ?_;refine D.aa (bkT hb3 1) ?_;refine D.ap (evC 1 nm cF cS dy cT cR) ?_;refine D.ai (fun b7=>?_);refine D.ae (j:=0) ?_;refine D.e3 2 3 7 hR ?_;refine G.aG [0,1,2,3,4] [(1,1),(4,3)] Z kr_ (fun R hB hR=>?_);refine D.aa (bkT hb3 32) ?_;refine D.aL (fun _=>(BM _ nm A1 A2 A3 none e.base.length e.units.length e.surf.length 0 c1 c2 c3 0 (fun _=>[]) (fun _=>0))) ?_;refine D.ci U12 ?_;refine D.aa (bkT hb3 32) ?_;refine D.call (Dy _ b7 1 nm A1 A2 A3 none e.base.length e.units.length e.surf.length 0 c1 c2 c3 0 (fun _=>[]) (fun _=>0)) Z (.inr dc_) U6 (il _) fl_ (fun v36 _ L36 _ hq36=>?_);refine D.e3 2 3 7 hR ?_;obtain ⟨rfl,rfl⟩:=hq36;refine G.rg fun R hR=>?_;refine D.af (.head _) ?_;refine D.aa (bkT hb3 32) ?_;refine D.aj (s7 _ 1 nm (.slice A1 e.base.length c1) (.slice A2 e.units.length c2) (.slice A3 e.surf.length c3) (.slice none 0 0) (fun _=>[]) (fun _=>0) (e.base.map qtx) e.units vs [] (by rw [Ns];exact hb.mono mup) hu.m_ hs.m_ (fun w h=>by
     obtain ⟨i,hi⟩:=Ma h;have hil:=(aJ.1 hi).1;refine ⟨(e.surf[i]'om_).map qtx, ?_⟩;rw [Ns];exact (hsf i w _ hi (aq om_)).mono mup) (Sl.nil _ 2) (fun _=>by simp) (fun _=>by decide)) U7 fl_ ?_
    refine D.q3 1 2 3 40 hR ?_;refine G.cd (fun h40=>?_) fun h40=>?_
    ·exact absurd h40 dc_
    ·refine G.aG [0,1,2,3,4,5,6] [(1,1),(5,1)] Z kr_ (fun R hB hR=>?_);refine D.aa (bkT hb3 32) ?_;refine D.aL (fun _=>(BM _ nm A1 A2 A3 none e.base.length e.units.length e.surf.length 0 c1 c2 c3 0 (fun _=>[]) (fun _=>0))) ?_;refine D.ci U12 ?_;refine D.aa (bkT hb2 2) ?_;refine D.aa (bkT hb3 32) ?_;refine D.aL (fun _=>(nM _ hT.m_ _ pts tris hm0.m_ hG nm e hE _ (hc0 _ mup))) ?_;refine D.q1 1 4 hR ?_;refine G.rf ?_;exact ⟨Z,Z⟩
end Go.Proofs.YtgfiffppookakaaGreatDoor
namespace Go.Jog
open Go

def Fo (o:Option Nat):Fence:={ Fence.wide with round:=o }

theorem EK {P:Program}{o:Oper}{a:Act}{w:World}{next:Act->World->Prop}{Q:Exit->Act->World->Prop}{r:Option Nat}{n:Nat}(hd:∀ c,o.op≠.defer c)(h:o.wp P a w next Q):o.wpIn (Fo r) n P a w next Q:=by
 refine ⟨fun _ _=>trivial, ?_⟩;show o.uponIn (Fo r) n P a next Q ((o.semAt r a.eval).run P w);rw [Oper.semAt_eq r a.eval o hd];unfold Oper.wp at h;revert h;generalize (execOp a.eval o).run P w=r;intro h;cases r with
 | ok x w' =>
  cases x with
  | value v=>exact h
  | skip=>exact h
  | defer d=>exact h
  | enter f args=>exact ⟨(fun h=>(by cases h)),callsIn_wide.2 h⟩
  | row row args =>
   refine ⟨(fun h=>(by cases h)),fun c cs _=>?_⟩;obtain ⟨v,w2,h1,h2⟩:=h c cs;exact ⟨v,w2,h1,stepsIn_wide.2 h2⟩
  | _=>exact h.elim
 | halt x w' =>
  cases x <;> exact h

theorem D4 {P:Program}{ops:Array Oper}{N:Act->World->Prop}{r:Option Nat}{n i:Nat}{K K':Act->World->Prop}{a:Act}{w:World}(hd:ft ops=true)(hk:∀ a w,K a w->K' a w)
  (h:wpOp P ops (QN N) i K a w):wpOpIn (Fo r) n P ops (QN N) i K' a w:=by
 unfold wpOp at h;unfold wpOpIn;cases ho:ops[i]? with
 | none=>rw [ho] at h;exact hk _ _ h
 | some o =>
  rw [ho] at h;simp only at h ⊢;split
  ·rename_i hw;rw [bW hw] at h;rcases h with h | ⟨_,a',w',h⟩
   ·exact EK (oW hd ho) (Oper.wp_mono hk h)
   ·exact h.elim
  ·rename_i hw;rw [a7 hw] at h;exact ⟨fun _ _=>trivial,hk _ _ h⟩

theorem D8 {P:Program}{o:Oper}{a:Act}{next:Act->World->Prop}{N:Act->World->Prop}{F:Fence}{n:Nat}{x:Result Next}(h:o.uponIn F n P a next (QN fun _ _=>False) x):o.uponIn F n P a next (QN N) x:=by
 cases x with
 | ok x w' =>
  cases x with
  | value v=>exact h
  | skip=>exact h
  | defer d=>exact h
  | enter f args =>
   refine ⟨h.1,CallsIn.mono h.2 fun e w'' he=>?_⟩;cases e with
   | returned v=>exact he
   | panicked c=>exact he.elim
   | outgrown=>obtain ⟨_,_,he⟩:=he;exact he.elim
  | row row args=>exact h
  | round l f tmps assign body =>
   refine ⟨h.1,RoundIn.mono h.2 fun e w'' he=>?_⟩;cases e with
   | returned v=>exact he
   | panicked c=>exact he.elim
   | outgrown=>obtain ⟨_,_,he⟩:=he;exact he.elim
  | _=>exact h.elim
 | halt x w' =>
  cases x <;> exact h
theorem D5 {P:Program}{ops:Array Oper}{N:Act->World->Prop}{F:Fence}{n i:Nat}{K:Act->World->Prop}{a:Act}{w:World}(h:wpOpIn F n P ops (QN fun _ _=>False) i K a w):wpOpIn F n P ops (QN N) i K a w:=by
 unfold wpOpIn at *;cases ho:ops[i]? with
 | none=>rw [ho] at h;exact h
 | some o =>
  rw [ho] at h;simp only at h ⊢;split
  ·rename_i hw;rw [bW hw] at h;exact ⟨h.1,D8 h.2⟩
  ·rename_i hw;rw [a7 hw] at h;exact h

section
variable {P:Program} {ops:Array Oper} {ι:Type} {cls:ι->World->Prop} {le:ι->ι->Prop} {md:Region.Mode} {r:Option Nat} {n y:Nat}

def tZ (r:Option Nat)(n y:Nat)(P:Program)(ops:Array Oper)(cls:ι->World->Prop)(le:ι->ι->Prop)(kd i:Nat)(K:Act->ι->Prop)(a:Act)(κ:ι):Prop :=
 if i=y then ∀ w,cls κ w->wpOpIn (Fo r) n P ops (QN fun _ _=>False) i (fun a' w'=>∃ κ',cls κ' w'/\K a' κ') a w
 else dI P ops cls le kd i K a κ
theorem mi (hd:ft ops=true)(hrefl:∀ κ,le κ κ){kd i:Nat}{K:Act->ι->Prop}{K' N:Act->World->Prop}{a:Act}{κ:ι}{w:World}(hw:cls κ w)
  (hk:∀ a κ w,K a κ->cls κ w->K' a w) (h:tZ r n y P ops cls le kd i K a κ):wpOpIn (Fo r) n P ops (QN N) i K' a w:=by
 unfold tZ at h;split at h
 ·exact D5 (wpOpIn_mono (fun a' w' ⟨κ',h1,h2⟩=>hk _ _ _ h2 h1) (h w hw))
 ·exact D4 hd (fun _ _ h=>h) (fV (Q:=QN N) hrefl hw hk h)

def DY (r:Option Nat)(n y:Nat)(P:Program)(ops:Array Oper)(cls:ι->World->Prop)(le:ι->ι->Prop)(kd:Nat->Nat)(Post:Act->ι->Prop):List Nat->Act->ι->Prop
 | [],a,κ=>Post a κ
 | i::π,a,κ=>tZ r n y P ops cls le (kd i) i (DY r n y P ops cls le kd Post π) a κ

theorem rG {kd:Nat->Nat}{Post Mid:Act->ι->Prop}{ρ:List Nat}(hM:∀ a κ,Mid a κ->DY r n y P ops cls le kd Post ρ a κ):∀ (π:List Nat)(a:Act)(κ:ι),y ∉ π->DU P ops cls le kd Mid π a κ->DY r n y P ops cls le kd Post (π++ρ) a κ
 | [],_,_,_,h=>hM _ _ h
 | i::π,a,κ,hy,h=>by
  show tZ r n y P ops cls le (kd i) i (DY r n y P ops cls le kd Post (π++ρ)) a κ;unfold tZ;rw [a7 (fun e=>hy (by rw [e];exact br ..))];exact dY (fun a κ h=>rG hM π a κ (fun hh=>hy (Ll _ hh)) h) h

theorem ju (hd:ft ops=true)(hrefl:∀ κ,le κ κ){kd:Nat->Nat}{Post:Act->ι->Prop}{N:Act->World->Prop}(hN:∀ a κ w,Post a κ->cls κ w->N a w) :
  ∀ (π:List Nat)(a:Act)(κ:ι)(w:World),cls κ w->DY r n y P ops cls le kd Post π a κ->wpOpsIn (Fo r) n P ops (QN N) π a w
 | [],_,_,_,hw,h=>hN _ _ _ h hw
 | i::π,a,κ,w,hw,h=>by
  rw [wpOpsIn_cons];exact mi hd hrefl hw (fun a' κ' w' h' hw'=>ju hd hrefl hN π a' κ' w' hw' h') h
theorem lC (hd:ft ops=true)(hrefl:∀ κ,le κ κ){kd:Nat->Nat}{Post:Act->ι->Prop}{id:Nat}{Q:Exit->Act->World->Prop}{a:Act}{w:World}{κ:ι}
  (hw:cls κ w) (h:DY r n y P ops cls le kd Post (List.range ops.size) a κ) (hN:∀ a κ w,Post a κ->cls κ w->Q .normal a w):(Code.region id ops false).wpIn (Fo r) n P Q a w :=
 wpIn_mono (wpIn_region (ju hd hrefl (N:=fun a w=>Q .normal a w) hN _ _ _ _ hw h)) (fun e a w q=>by cases e <;> first | exact q | exact q.elim)
end
end Go.Jog
namespace Go.Jog
open Go

theorem Sep.lessC {C C1:Mem}{L:List Ent}{w:World}(h:Sep C1 L w)(hl:C.le C1):Sep C L w :=
 ⟨fun b o hb=>h.c b o (hl b o hb),h.e,h.d,fun k hk=>by
  cases hc:C k with
  | none=>rfl
  | some o=>have:=hl k o hc;rw [h.n k hk] at this;cases this⟩
theorem St.up {C C1 C':Mem}{L L':List Ent}{W W':World}(hs:Sep C1 L W)(k:St W C L C' L' W'):St W C1 L C1 L' W':=by
 refine ⟨⟨fun b o hb=>?_,k.sep.e,k.sep.d,fun i hi=>?_⟩,k.ev,Mem.le.refl _,fun _ _ h=>.inl h,k.ln⟩
 ·rw [k.ev.block b (cP (hs.c b o hb)) (fun ho=>by have:=hs.n b ho;rw [hb] at this;cases this)];exact hs.c b o hb
 ·cases hc:C1 i with
  | none=>rfl
  | some o =>
   rcases k.ln i hi with h | h
   ·have:=cP (hs.c i o hc);omega
   ·have:=hs.n i h;rw [hc] at this;cases this
theorem Sep.front {C:Mem}{Lp Lr:List Ent}{w:World}(h:Sep C (Lp++Lr) w):Sep C Lp w :=
 ⟨h.c,fun x hx=>h.e x (M2 _ hx),(NV.1 h.d).1,fun k ⟨x,hx,hk⟩=>h.n k ⟨x,M2 _ hx,hk⟩⟩

def YC (P:Program)(l:Nat)(vs:List Value)(C:Mem)(L:List Ent)(R:Bool->List Ent->Prop):Prop :=
 ∀ W,Sep C L W->YieldAt Fence.wide 1 P l vs.toArray W fun e W'=>∃ b L1,e=.returned (.bool b)/\R b L1/\St W C L C L1 W'

theorem ug {P:Program}{l fn:Nat}{tmps:Array Value}{assign body:Code}{W:World}{R:Ending->World->Prop}{m n:Nat}{r:Option Nat}(h:RoundIn Fence.wide m P l fn tmps assign body W R):RoundIn (Fo r) n P l fn tmps assign body W R :=
 ⟨trivial,fun c cs _=>h.2 c cs (room_wide _)⟩

theorem AJ {P:Program}{a:Act}{o:Oper}{f:Operand}{args:Array Operand}{ts:Array TypeId}{l:Nat}{vs:List Value}{fn:Nat}{tmps:Array Value}{assign body:Code}{w:World}
  (hop:o.op=.call ⟨.value f,args,ts⟩) (hf:a.eval f=.func (.yield l) #[] #[]) (hargs:args.toList.map a.eval=vs) (hy:(Instr.yield l vs.toArray).run P w=.ok (.round l fn tmps assign body) w) :
  (execOp a.eval o).run P w=.ok (.round l fn tmps assign body) w:=by
 have e1:execOp a.eval o=(do let dd <- resolve a.eval ⟨.value f,args,ts⟩ o.type;invoke dd.target dd.args:Sem Next):=by unfold execOp;rw [hop]
 have e2:args.map a.eval=vs.toArray:=by apply Ml;rw [<- hargs];simp
 rw [e1];simp only [resolve,hf,Deferred.ofValue,e2,Sem.run_bind,Sem.run_pure,Result.andThen_ok,invoke];simpa using hy

def YW (P:Program)(W:Cw P)(r:Option Nat)(n:Nat):Prop:=∀ {c:Code}{Q:Exit->Act->World->Prop}{a:Act}{w:World},c.wpIn (Fo r) n P Q a w->W.wp c Q a w
theorem YW.plain (P:Program):YW P (Cw.plain P) none 3:=fun h=>(wpIn_wide (n:=3)).1 h
section
variable {F:Fx} {k:List KI} {fr:Fr} {C:Mem} {L:List Ent}
end

def IterS (P:Program)(gf:FuncId)(lb:Array Value)(C:Mem)(vss:List (List Value)):Prop :=
 ∀ (l:Nat)(I X:Nat->List Ent->Prop)(L:List Ent),(∀ k v L',vss[k]?=some v->I k L'->YC P l v C L' (fun b L1=>(b=true/\I (k+1) L1)∨(b=false/\X k L1)))->I 0 L ->
  ∀ W,Sep C L W->CallsIn Fence.wide 2 P gf (#[.func (.yield l) #[] #[]]++lb) W fun e W'=>(∃ v,e=.returned v)/\∃ L',(I vss.length L'∨∃ k,k<vss.length/\X k L')/\St W C L C L' W'
theorem IterS.intro {cx:Cx}{f:FuncId}{fn:Func}{c:Code}{lb:List Value}{C:Mem}{vss:List (List Value)}(hen:Enters cx.P f=true)(hf:cx.P.funcs[f]?=some fn)(hb:fn.body=some c)
  (n:Nat) (hnt:fn.ntmps=n) (hn:Nat.ble (lb.length+1) n=true)
  (h:∀ (l:Nat)(I X:Nat->List Ent->Prop)(L:List Ent),(∀ k v L',vss[k]?=some v->I k L'->YC cx.P l v C L' (fun b L1=>(b=true/\I (k+1) L1)∨(b=false/\X k L1)))->I 0 L ->
   ∀ w0,G ⟨cx,fn,n,⟨w0,C,L⟩,fun _ _ L'=>I vss.length L'∨∃ k,k<vss.length/\X k L',Cw.plain cx.P,[],bodyPost cx.P fn (lD ⟨w0,C,L⟩ fun _ _ L'=>I vss.length L'∨∃ k,k<vss.length/\X k L')⟩
    (eA 64 [.code c]) .normal (tI (.func (.yield l) #[] #[]::lb) 0) C L):IterS cx.P f lb.toArray C vss:=fun l I X L hy h0 W hW=>by
 have hF:=Fn.intro (args:=.func (.yield l) #[] #[]::lb) hen hf hb n hnt hn (h l I X L hy h0);have e:(#[Value.func (.yield l) #[] #[]]++lb.toArray)=(Value.func (.yield l) #[] #[]::lb).toArray:=by simp
 rw [e];refine callsIn_wide.2 ((hF.2 W hW).mono fun e w' ⟨v,C',L',he,hs,hq⟩=>⟨⟨v,he⟩,L',hq,St.less hs (Mem.le.refl _) hs.c0⟩)
end Go.Jog
namespace Go.Jog
open Go

def EA:List (Nat × Value)->Fr->Fr
 | [],fr=>fr
 | (p,v)::l,fr=>EA l ((p,[],v)::fr)
def wn (n:Nat):List (Nat × Value)->Fr->Bool
 | [],_=>true
 | (p,v)::l,fr=>aO n [] ((p,[],v)::fr) p && wn n l ((p,[],v)::fr)
theorem FrOk.puts {n:Nat}:∀ {l:List (Nat × Value)}{fr:Fr}{t:Array Value},FrOk n [] [] fr { tmps:=t,defers:=[] }->wn n l fr=true->FrOk n [] [] (EA l fr) { tmps:=l.foldl (fun t x=>t.setIfInBounds x.1 x.2) t,defers:=[] }
 | [],_,_,h,_=>h
 | (p,v)::l,fr,t,h,hk=>by
  simp only [wn,bL] at hk;have h1:=FrOk.put (u:=v) h hk.1 ⟨fun _=>rfl,fun hn=>absurd (fun p hp=>by cases hp) hn⟩;exact FrOk.puts (l:=l) ⟨h1.size,Z,h1.ent⟩ hk.2

def zD:Exit->Option Code
 | .ret=>some .ret
 | .exit id=>some (.exit id)
 | _=>none

section
variable {F:Fx} {k:List KI} {fr:Fr} {C:Mem} {L:List Ent}
theorem G.tN {g:Operand}{ps:List Nat}{assign body:Code}{gf:FuncId}{lb:Array Value}{vss:List (List Value)}(hW:F.W=Cw.plain F.cx.P)
  (hg:ev fr [] g=some (.func (.func gf) #[] lb)) (hen:Enters F.cx.P gf=true) (hseq:IterS F.cx.P gf lb C vss) (hps:∀ v∈vss,v.length=ps.length)
  (I:Nat->List Ent->Prop) (X:Code->Nat->List Ent->Prop) (h0:I 0 L)
  (hok:∀ v∈vss,wn F.n (ps.zip v) fr=true) (A:Nat->List Ent->Fr->List Ent->Prop)
  (hassign:∀ l j v L' W1,I j L'->vss[j]?=some v->G ⟨F.cx,F.fn,F.n,⟨W1,C,L'⟩,F.post,Cw.round F.cx.P l 1,[],fun e a w'=>e=.normal/\∃ frA LA,A j L' frA LA/\FrOk F.n [] [] frA a/\St W1 C L' C LA w'⟩ (eA 64 [.code assign]) .normal (EA (ps.zip v) fr) C L')
  (hbody:∀ l j v L' frA LA W1,I j L'->vss[j]?=some v->A j L' frA LA ->
   G ⟨F.cx,F.fn,F.n,⟨W1,C,LA⟩,F.post,Cw.round F.cx.P l 1,[],fun e _ w'=>(e=.normal/\∃ L1,I (j+1) L1/\St W1 C LA C L1 w')∨(∃ c L1,zD e=some c/\X c j L1/\St W1 C LA C L1 w')⟩ (eA 64 [.code body]) .normal frA C LA)
  (hdone:∀ D L',I vss.length L'->G { F with dd:={ target:=.collected D,args:=#[] }::F.dd } (eA 64 k) .normal fr C (.obj D (.deferred (some []))::L'))
  (hstop:∀ D j c L',j<vss.length->X c j L'->G { F with dd:={ target:=.collected D,args:=#[] }::F.dd } (.code c::k) .normal fr C (.obj D (.deferred (some []))::L')) :
  G F (.code (.rangeFunc g ps.toArray assign body)::k) .normal fr C L:=fun hle a w ha hw=>by
 simp only [Kq,hW];show (Code.rangeFunc g ps.toArray assign body).wp F.cx.P (Kq F k) a w;refine (wpIn_wide (n:=3)).1 (wpIn_rangeFunc fun fn _=>?_);have hga:a.eval g=.func (.func gf) #[] lb:=bd ha (fun p hp=>by cases hp) hg;obtain ⟨rec,hrec⟩:∃ rec:LoopState->Option Code->Loop,rec=fun st pe=>{ state:=st,pending:=pe,fn,tmps:=a.tmps,params:=ps.toArray,assign,body,defers:=w.heap.size }:=⟨_,rfl⟩;obtain ⟨z,hz⟩:∃ z,w.heap.size=z:=⟨_,rfl⟩;obtain ⟨W1,hW1⟩:∃ W1,(w.alloc (.deferred (some []))).alloc (.loop (rec .ready none))=W1:=⟨_,rfl⟩;have hS1:St F.b.w0 F.b.C0 F.b.L0 C (.obj (z+1) (.loop (rec .ready none))::.obj z (.deferred (some []))::L) W1:=by
  have:=St.alloc (St.alloc hw (.deferred (some []))) (.loop (rec .ready none));rw [World.size_alloc,hz] at this;rw [<- hW1];exact this
 refine ⟨z+1,[{ target:=.collected z,args:=#[] }],W1,{ target:=.fn (.func gf) lb,args:=#[.func (.yield (z+1)) #[] #[]] },W1,gf,
  #[.func (.yield (z+1)) #[] #[]]++lb,W1, ?_, ?_,fun _ _=>trivial, ?_,fun _=>by decide, ?_⟩
 ·rw [<- hW1,hrec,<- hz];exact run_enterLoop_outer _ _ _ _ _
 ·simp only [resolve,hga];simp [go_sem]
 ·simp [invoke,go_sem,fl hen]
 ·refine (hseq (z+1) (fun j L2=>∃ L',I j L'/\L2=.obj (z+1) (.loop (rec .ready none))::.obj z (.deferred (some []))::L')
   (fun j L2=>∃ c L',X c j L'/\L2=.obj (z+1) (.loop (rec .done (some c)))::.obj z (.deferred (some []))::L') _ ?_ ⟨L,h0,rfl⟩ W1 hS1.sep).mono ?_
  ·rintro j v L2 hj ⟨L',hi,rfl⟩ W hW0;have hmem:v∈vss:=ba hj;have hs:=St.start hW0;have hl:W.heap[z+1]?=some (.loop (rec .ready none)):=hs.sep.e _ (br ..);have hy:=run_yield (P:=F.cx.P) (args:=v.toArray) hl (by rw [hrec];simp [hps v hmem]);rw [hrec] at hy;have hzz:(ps.toArray.zip v.toArray).foldl (fun tmps (x:Nat × Value)=>match x with | (t,a)=>tmps.setIfInBounds t a) a.tmps=(ps.zip v).foldl (fun t x=>t.setIfInBounds x.1 x.2) a.tmps:=by simp
   dsimp only at hy;rw [hzz] at hy;refine ⟨fn,_,assign,body,hy,roundIn_of_wpIn trivial ?_⟩;have hfr:FrOk F.n [] [] (EA (ps.zip v) fr) { tmps:=(ps.zip v).foldl (fun t x=>t.setIfInBounds x.1 x.2) a.tmps,defers:=[] } :=
    FrOk.puts ⟨ha.size,rfl,ha.ent⟩ (hok v hmem)
   have hA:=G.pJ (hassign (z+1) j v L' W hi hj) (Mem.le.refl _) hfr (St.start hs.drop.drop.sep);refine wpIn_mono hA (fun e a1 W2 q=>?_);obtain ⟨rfl,frA,LA,hAA,hfr1,hs1⟩:=q;have hs2a:=St.call (Lp:=L') (Lr:=[.obj (z+1) (.loop (rec .ready none)),.obj z (.deferred (some []))]) (St.perm hs (Lv (l₁:=[_,_]))) hs1;have hs2:St W C (.obj (z+1) (.loop (rec .ready none))::.obj z (.deferred (some []))::L') C (.obj (z+1) (.loop (rec .ready none))::.obj z (.deferred (some []))::LA) W2:=St.perm hs2a (Lv (l₂:=[_,_]));have hl2:W2.heap[z+1]?=some (.loop (rec .ready none)):=hs2.sep.e _ (br ..);refine ⟨_,run_beginRound hl2 (by rw [hrec]), ?_⟩;have hs3:St W C (.obj (z+1) (.loop (rec .ready none))::.obj z (.deferred (some []))::L') C (.obj (z+1) (.loop (rec .busy none))::.obj z (.deferred (some []))::LA) (W2.putObj (z+1) (.loop { rec .ready none with state:=.busy })):=by
    have:=St.putObj (o':=.loop { rec .ready none with state:=.busy }) hs2;rw [hrec] at this ⊢;exact this
   have hB:=G.pJ (hbody (z+1) j v L' frA LA (W2.putObj (z+1) (.loop { rec .ready none with state:=.busy })) hi hj hAA) (Mem.le.refl _) hfr1 (St.start hs3.drop.drop.sep);refine wpIn_mono hB (fun e a2 W4 q=>?_);have back:∀ L1,St (W2.putObj (z+1) (.loop { rec .ready none with state:=.busy })) C LA C L1 W4->St W C (.obj (z+1) (.loop (rec .ready none))::.obj z (.deferred (some []))::L') C (.obj (z+1) (.loop (rec .busy none))::.obj z (.deferred (some []))::L1) W4:=fun L1 hs4=>by
    have hs5:=St.call (Lp:=LA) (Lr:=[.obj (z+1) (.loop (rec .busy none)),.obj z (.deferred (some []))]) (St.perm hs3 (Lv (l₁:=[_,_]))) hs4;exact St.perm hs5 (Lv (l₂:=[_,_]))
   have leave:∀ (c:Code) L1,X c j L1->St (W2.putObj (z+1) (.loop { rec .ready none with state:=.busy })) C LA C L1 W4->∃ v W5,(Instr.endRound (z+1) (some c)).run F.cx.P W4=.ok v W5/\∃ b L2,Ending.returned v=.returned (.bool b) /\
     ((b=true/\∃ L',I (j+1) L'/\L2=.obj (z+1) (.loop (rec .ready none))::.obj z (.deferred (some []))::L')∨(b=false/\∃ c L',X c j L'/\L2=.obj (z+1) (.loop (rec .done (some c)))::.obj z (.deferred (some []))::L')) /\
     St W C (.obj (z+1) (.loop (rec .ready none))::.obj z (.deferred (some []))::L') C L2 W5:=fun c L1 hX hs4=>by
    have hs6:=back L1 hs4;have hl4:W4.heap[z+1]?=some (.loop (rec .busy none)):=hs6.sep.e _ (br ..);refine ⟨_,_,run_endRound (some c) hl4,false,_,Z,.inr ⟨Z,c,L1,hX,Z⟩, ?_⟩;have:=St.putObj (o':=.loop { rec .busy none with state:=if (some c).isNone then .ready else .done,pending:=some c }) hs6;rw [hrec] at this ⊢;exact this
   rcases q with ⟨rfl,L1,hi1,hs4⟩ | ⟨c,L1,hc,hX,hs4⟩
   ·have hs6:=back L1 hs4;have hl4:W4.heap[z+1]?=some (.loop (rec .busy none)):=hs6.sep.e _ (br ..);refine ⟨_,_,run_endRound none hl4,true,_,Z,.inl ⟨Z,L1,hi1,Z⟩, ?_⟩;have:=St.putObj (o':=.loop { rec .busy none with state:=if (none:Option Code).isNone then .ready else .done,pending:=none }) hs6;rw [hrec] at this ⊢;exact this
   ·cases e <;> simp only [zD] at hc <;> cases hc
    ·exact leave _ L1 hX hs4
    ·exact leave _ L1 hX hs4
  ·rintro e W2 ⟨⟨v,rfl⟩,L2,hL2,hs⟩;have hs':St F.b.w0 F.b.C0 F.b.L0 C L2 W2:=by
    have:=St.call (Lr:=[]) (by rw [LY];exact hS1) hs
    rwa [LY] at this
   have hfr:FrOk F.n [] ({ target:=.collected z,args:=#[] }::F.dd) fr { a with defers:=[{ target:=.collected z,args:=#[] }]++a.defers }:=⟨ha.size,by rw [ha.defers];rfl,ha.ent⟩;rcases hL2 with ⟨L',hi,rfl⟩ | ⟨j,hj,c,L',hX,rfl⟩
   ·have hl:W2.heap[z+1]?=some (.loop (rec .ready none)):=hs'.sep.e _ (br ..);refine ⟨none,_,by have:=run_endLoop (P:=F.cx.P) hl (by rw [hrec];simp);rw [hrec] at this;exact this, ?_⟩;have hs2:St F.b.w0 F.b.C0 F.b.L0 C (.obj z (.deferred (some []))::L') (W2.putObj (z+1) (.loop { rec .ready none with state:=.exhausted })):=(St.putObj hs').drop;have:=G.bQ 64 (hdone z L' hi) hle _ _ hfr hs2;rw [tL] at this;rw [hrec] at this;exact this
   ·have hl:W2.heap[z+1]?=some (.loop (rec .done (some c))):=hs'.sep.e _ (br ..);refine ⟨some c,_,by have:=run_endLoop (P:=F.cx.P) hl (by rw [hrec];simp);rw [hrec] at this;exact this, ?_⟩;have hs2:St F.b.w0 F.b.C0 F.b.L0 C (.obj z (.deferred (some []))::L') (W2.putObj (z+1) (.loop { rec .done (some c) with state:=.exhausted })):=(St.putObj hs').drop;have:=hstop z j c L' hj hX hle _ _ hfr hs2;rw [tL] at this;simp only [Kq,hW] at this;rw [hrec] at this;exact (wpIn_wide (n:=3)).2 this
end
end Go.Jog
namespace Go.Jog
open Go

section
variable {cx:Cx} {fn:Func} {n:Nat} {fr:Fr} {C C':Mem} {L L1 LA:List Ent} {W1:World} {post:Value->Mem->List Ent->Prop} {W:Cw cx.P}
theorem G.FR {A:Fr->List Ent->Prop}(fr':Fr)(hs:Has fr fr')(hA:A fr' LA) :
  G ⟨cx,fn,n,⟨W1,C,L⟩,post,W,[],fun e a w'=>e=.normal/\∃ frA LA,A frA LA/\FrOk n [] [] frA a/\St W1 C L C LA w'⟩ [] .normal fr C' LA:=fun hle _ _ ha hw =>
 ⟨rfl,fr',LA,hA,ha.weaken hs.sub,St.less hw (Mem.le.refl _) hle⟩
theorem G.DO {I:List Ent->Prop}{X:Code->List Ent->Prop}(hI:I L1) :
  G ⟨cx,fn,n,⟨W1,C,L⟩,post,W,[],fun e _ w'=>(e=.normal/\∃ L1,I L1/\St W1 C L C L1 w')∨(∃ c L1,zD e=some c/\X c L1/\St W1 C L C L1 w')⟩ [] .normal fr C' L1:=fun hle _ _ _ hw =>
 .inl ⟨rfl,L1,hI,St.less hw (Mem.le.refl _) hle⟩
theorem G.vh {I:List Ent->Prop}{X:Code->List Ent->Prop}{e:Exit}{c:Code}(hc:zD e=some c)(hX:X c L1) :
  G ⟨cx,fn,n,⟨W1,C,L⟩,post,W,[],fun e _ w'=>(e=.normal/\∃ L1,I L1/\St W1 C L C L1 w')∨(∃ c L1,zD e=some c/\X c L1/\St W1 C L C L1 w')⟩ [] e fr C' L1:=fun hle _ _ _ hw =>
 .inr ⟨c,L1,hc,hX,St.less hw (Mem.le.refl _) hle⟩

end

end Go.Jog
namespace Go.Jog
open Go

section
variable {cx:Cx} {fn:Func} {n:Nat} {fr:Fr} {C C':Mem} {L L1 LA:List Ent} {W1:World} {post:Value->Mem->List Ent->Prop} {W:Cw cx.P}
theorem G.DJ {Ds:List Nat}{b:Bs}{e:Exit}(he:e=.ret∨e=.normal){v:Value}
  (hr:∀ a w,FrOk n [] (Ds.map uU) fr a->St b.w0 b.C0 b.L0 C L w->(results fn a.tmps).run cx.P w=.ok v w) (h:post v C []) :
  G ⟨cx,fn,n,b,post,Cw.plain cx.P,Ds.map uU,bodyPostM Fence.wide 3 cx.P fn (lD b post)⟩ [] e fr C (Ds.map nJ++L):=fun hle a w ha hw=>by
 have key0:LeavesInM Fence.wide 3 cx.P fn a.tmps (lD b post) a.defers .returning w:=by
  have ha':=ha;rw [ha.defers];have key:∀ (Es:List Nat)(w:World),St b.w0 b.C0 b.L0 C (Es.map nJ++L) w->LeavesInM Fence.wide 3 cx.P fn a.tmps (lD b post) (Es.map uU) .returning w:=by
   intro Es;induction Es with
   | nil=>exact fun w hw=>⟨v,hr a _ ha' hw,v,C,[],rfl,St.dropAll hw,h⟩
   | cons D Es ih =>
    intro w hw;have hD:w.heap[D]?=some (.deferred (some [])):=hw.sep.e _ (br ..);have hs:=(St.putObj (o':=.deferred none) hw).drop;cases Es with
    | nil=>exact ⟨by simp,.inl ⟨D,_,rfl,run_takeDeferred hD,v,hr a _ ha' hs,v,C,[],rfl,St.dropAll hs,h⟩⟩
    | cons E Es=>exact ⟨by simp,.inl ⟨D,_,rfl,run_takeDeferred hD,ih _ hs⟩⟩
  exact key Ds w hw
 rcases he with rfl | rfl <;> exact key0
end
end Go.Jog
namespace Go.Jog
open Go

theorem Ga {cx:Cx}{fn:Func}{n s t b:Nat}{fr:Fr}{C:Mem}{L:List Ent}{dd:List Deferred}{w0:World}{C0:Mem}{L0:List Ent}{tb:TypeId}{fz:Nat × Nat}{cs:List Value}{ti:TI}{y:Value}(hm:Ent.obj b (.cells ⟨cs⟩ tb fz)∈L)(hres:fn.results=#[.cell s t])
  (hs:ev fr [] (.tmp s)=some (.pointer (some ⟨b,0,none⟩))) (ht:cx.T.get t=some ti) (hv:bR ti (cs.take ti.size)=some y) :
  ∀ a w,FrOk n [] dd fr a->St w0 C0 L0 C L w->(results fn a.tmps).run cx.P w=.ok y w:=fun a w ha hw=>by
 have hs':=bd ha (fun p hp=>by cases hp) hs;simp only [Act.eval] at hs';have hl:=ed (F:=⟨cx,fn,n,⟨w0,C0,L0⟩,fun _ _ _=>True,Cw.plain cx.P,dd,fun _ _ _=>True⟩) ht (hw.sep.e _ hm) hv;simp only [Le] at hs';simp [results,hres,hs',asAddr,hl]
end Go.Jog
namespace Go.Jog
open Go

theorem G.xH {F:Fx}{fr:Fr}{C:Mem}{L:List Ent}{p r s b t:Nat}{cs:List Value}{tb:TypeId}{fz:Nat × Nat}{ti:TI}{x u v:Value}(hm:Ent.obj b (.cells ⟨cs⟩ tb fz)∈L)(hres:F.fn.results=#[.tmp p,.cell r t,.tmp s])
  (hp:ev fr [] (.tmp p)=some x) (hr:ev fr [] (.tmp r)=some (.pointer (some ⟨b,0,none⟩))) (hs:ev fr [] (.tmp s)=some u)
  (ht:F.cx.T.get t=some ti) (hv:bR ti (cs.take ti.size)=some v) (h:F.post (.tuple #[x,v,u]) C []) (he:F.ends:=by exact ⟨fun _ _ _ h=>h,rfl⟩):G F [] .ret fr C L:=fun _ a w ha hw=>by
 refine he.kq ?_;have hp':=bd ha (fun p hp=>by cases hp) hp;have hr':=bd ha (fun p hp=>by cases hp) hr;have hs':=bd ha (fun p hp=>by cases hp) hs;simp only [Act.eval] at hp' hr' hs';refine bodyPost_ret (v:=.tuple #[x,v,u]) ?_ (ha.defers.trans he.2) ⟨_,C,[],Z,St.dropAll hw,h⟩;have hl:=ed (F:=F) ht (hw.sep.e _ hm) hv;simp only [Le] at hp' hr' hs';simp [results,hres,hp',hr',hs',asAddr,hl]
theorem G.rF {F:Fx}{fr:Fr}{C:Mem}{L:List Ent}{p r b t:Nat}{cs:List Value}{tb:TypeId}{fz:Nat × Nat}{ti:TI}{x v:Value}(hm:Ent.obj b (.cells ⟨cs⟩ tb fz)∈L)(hres:F.fn.results=#[.tmp p,.cell r t])
  (hp:ev fr [] (.tmp p)=some x) (hr:ev fr [] (.tmp r)=some (.pointer (some ⟨b,0,none⟩)))
  (ht:F.cx.T.get t=some ti) (hv:bR ti (cs.take ti.size)=some v) (h:F.post (.tuple #[x,v]) C []) (he:F.ends:=by exact ⟨fun _ _ _ h=>h,rfl⟩):G F [] .ret fr C L:=fun _ a w ha hw=>by
 refine he.kq ?_;have hp':=bd ha (fun p hp=>by cases hp) hp;have hr':=bd ha (fun p hp=>by cases hp) hr;simp only [Act.eval] at hp' hr';refine bodyPost_ret (v:=.tuple #[x,v]) ?_ (ha.defers.trans he.2) ⟨_,C,[],Z,St.dropAll hw,h⟩;have hl:=ed (F:=F) ht (hw.sep.e _ hm) hv;simp only [Le] at hp' hr';simp [results,hres,hp',hr',asAddr,hl]
end Go.Jog
namespace Go.Proofs.YtgfiffppookakaaGreatDoor
open Go Go.Jog
set_option maxRecDepth 100000

def ID (pts:List Pt)(t:Tri)(p:Pt)(j:Nat):Bool:=(List.range j).all fun k=>decide (0<=arW pts t p k)
theorem JB (pts:List Pt)(t:Tri)(p:Pt):ID pts t p 3=iA pts p t:=by
 unfold ID iA;simp [MV]
theorem na (pts:List Pt)(t:Tri)(p:Pt)(j:Nat):ID pts t p (j+1)=(ID pts t p j && decide (0<=arW pts t p j)):=by
 unfold ID;simp [MV]
theorem p6 (q:Rat):decide (fg q.num ≥ 0)=decide (0<=q):=by
 rw [Lj,<- Of];unfold fg;split
 ·omega
 ·split <;> omega
theorem eH {a b:Rat}(ha:QB 2 a)(hb:QB 2 b):QB 5 (a-b):=iW (k:=2) ha hb
theorem IC {a b:Rat}(ha:QB 5 a)(hb:QB 5 b):QB 10 (a*b):=dU (k:=5) ha hb
def wS (pts:List Pt)(t:Tri)(p:Pt):List Str:=[qtx (arW pts t p 0),qtx (arW pts t p 1),qtx (arW pts t p 2)]
theorem yC (C:Mem)(hT:Tabs C)(mv:Value)(pts:List Pt)(tris:List Tri)(hm:MeshIn C mv pts tris)(hG:Good pts tris)(p:V3)(hp:Q3 2 p) :
  Pur cx.P 207 [mv,vV p] C fun u _=>∃ (i:Nat)(ws:List Str),u=.tuple #[.int .i64 i,.agg ⟨ws.map aA⟩,.bool (tris.find? (iA pts (p.1,p.2.1))).isSome]/\ws.length=3/\∀ t,tris.find? (iA pts (p.1,p.2.1))=some t->tris[i]?=some t/\ws=wS pts t (p.1,p.2.1):=by
 obtain ⟨v1,v2,rfl,h1,h2⟩:=id hm.ex;obtain ⟨A1,c1,rfl,hq1,hq2,_⟩:=id h1;obtain ⟨A2,c2,rfl,hq3,hq4,_⟩:=id h2;have hmx:maxLen<=9223372036854775807:=by simp [maxLen]
 simp only [aH] at h1 h2 hq3 ⊢;refine Fn.it kr_ Tryz.func207 83 fun w0=>?_;refine G.rg fun R hR=>?_;refine D.aD (fun b2=>?_);refine D.aD (fun b3=>?_);refine D.ac ?_;refine D.ai (fun b5=>?_);refine D.q3 1 2 3 5 hR ?_;clear hR R;refine G.freeze 2 Z (fun _ _ hb2=>?_);refine G.freeze 1 Z (fun _ _ hb3=>?_);refine G.rp 1 fun R hR=>?_;refine D.aa (bkT hb2 1) ?_;refine D.q6 2 2 3 5 15 16 17 hR ?_;clear hR R;refine G.loop (fun fr C' L' μ=>∃ (i:Nat)(x0 x1 x2:Str),(i<=tris.length/\∀ u∈tris.take i,iA pts (p.1,p.2.1) u=false)/\fr=[(2,[],.pointer (some ⟨b2,0,none⟩)),(3,[],.pointer (some ⟨b3,0,none⟩)),(5,[],.pointer (some ⟨b5,0,none⟩)),(15,[],.slice A2 tris.length c2),(16,[],.int .i64 tris.length),(17,[],.int .i64 i)]/\L'=[.obj b5 (.cells ⟨[aA x0,aA x1,aA x2]⟩ 318 (0,0))]/\μ=tris.length-i) (h_6 2 3 5 15 16 17) ⟨0,[],[],[],⟨ch _,by simp⟩,Z,Z,Z⟩ (fun fr C0' L0' m _ hI=>?_);obtain ⟨i,x0,x1,x2,⟨hi,hno⟩,rfl,rfl,rfl⟩:=hI;refine G.z7 1 2 3 5 15 16 17 18 ?_;refine G.cd (fun h18=>?_) fun h18=>?_
 ·have hil:i<tris.length:=by simpa using h18
  obtain ⟨t,ht⟩:∃ t,tris[i]?=some t:=⟨tris[i],aq hil⟩;have htm:=ba ht;have hw:=fun k=>tJ hG.ok htm (p:=(p.1,p.2.1)) ⟨hp.1,hp.2.1⟩ k;have hcp:=fun k=>(kY hG.ok htm k).1.le' (show 1<=2 by decide);have hcg:=fun k=>(kY hG.ok htm k).2.1;refine G.rp 1 fun R hR=>?_;refine D.ak h2.m_ U10 om_ (bg ht) fl_ (fun p20 hp20=>?_);refine D.aa hp20 ?_;refine D.ai (fun b8=>?_);refine D.ac ?_;refine D.ae (j:=0) ?_;refine D.e8 2 3 5 7 8 15 16 17 hR ?_;clear hR R;refine G.freeze 0 Z (fun _ _ hb8=>?_);refine G.z9 1 2 3 5 7 8 9 15 16 17 ?_;refine G.FM 1 2 3 5 7 8 9 15 16 17 22 ?_;refine G.loop (fun fr C' L' μ=>∃ (j:Nat)(y0 y1 y2:Str)(b:Bool),(j<=3/\b=ID pts t (p.1,p.2.1) j/\(0<j->y0=qtx (arW pts t (p.1,p.2.1) 0))/\(1<j->y1=qtx (arW pts t (p.1,p.2.1) 1))/\(2<j->y2=qtx (arW pts t (p.1,p.2.1) 2)))/\fr=[(2,[],.pointer (some ⟨b2,0,none⟩)),(3,[],.pointer (some ⟨b3,0,none⟩)),(5,[],.pointer (some ⟨b5,0,none⟩)),(7,[],.int .i64 i),(8,[],.pointer (some ⟨b8,0,none⟩)),(9,[],.bool b),(15,[],.slice A2 tris.length c2),(16,[],.int .i64 tris.length),(17,[],.int .i64 i),(22,[],.int .i64 j)]/\L'=[.obj b5 (.cells ⟨[aA y0,aA y1,aA y2]⟩ 318 (0,0))]/\μ=3-j) (h_10 2 3 5 7 8 9 15 16 17 22) ⟨0,x0,x1,x2,true,⟨by decide,Z,by omega,by omega,by omega⟩,Z,Z,Z⟩ (fun fr C1' L1' m _ hI=>?_);obtain ⟨j,y0,y1,y2,b,⟨hj,hb,hy0,hy1,hy2⟩,rfl,rfl,rfl⟩:=hI;refine G.tM 1 2 3 5 7 8 9 15 16 17 22 23 ?_;refine G.cd (fun h23=>?_) fun h23=>?_
  ·have hjl:j<3:=by have:=bi h23;omega
   rcases (by omega:j=0∨j=1∨j=2) with rfl | rfl | rfl
   ·refine G.tM 2 2 3 5 7 8 9 10 15 16 17 22 ?_;refine G.gt (.cut [0,1,2,3,4,5,6,7,8,9,10,11,12,13,14,15,16,17] (.alt 18 (.fin [19,20,21]) (.alt 19 (.fin [18,20,21]) .stop))) [(1,0),(6,0),(8,0),(10,0),(15,0),(17,0)] Z Z kr_ (fun R hB hR hH=>?_);refine G.mb hR (fun b11 b12=>[(2,[],.pointer (some ⟨b2,0,none⟩)),(3,[],.pointer (some ⟨b3,0,none⟩)),(5,[],.pointer (some ⟨b5,0,none⟩)),(7,[],.int .i64 i),(8,[],.pointer (some ⟨b8,0,none⟩)),(9,[],.bool b),(10,[],.int .i64 ((0:Nat):Int)),(11,[],.pointer (some ⟨b11,0,none⟩)),(12,[],.pointer (some ⟨b12,0,none⟩)),(15,[],.slice A2 tris.length c2),(16,[],.int .i64 tris.length),(17,[],.int .i64 i),(22,[],.int .i64 ((0:Nat):Int))]) (fun b11 b12=>[.obj b11 (.cells ⟨kR (cn pts t ((0+1) % 3))⟩ 97 (0,0)),.obj b12 (.cells ⟨kR (cn pts t ((0+2) % 3))⟩ 97 (0,0)),.obj b5 (.cells ⟨[aA y0,aA y1,aA y2]⟩ 318 (0,0))]) (fun hc=>?_) (fun b11 b12=>?_)
    ·refine D.ac ?_;refine D.am (fun _=>((bkT hb2 1).mono hB)) ?_;refine D.ac ?_;refine D.ar _ ?_;refine D.ox U6 om_ om_ U2 ?_;refine D.aE (((0+1) % 3)) U9 (fun _=>⟨by decide,by decide,Z⟩) U2 ?_;refine D.am (fun _=>((bkT hb8 1).mono hB)) ?_;refine D.ak h1.m_ U10 om_ (bg (hcg ((0+1) % 3))) fl_ (fun p32 hp32=>?_);refine D.am (fun _=>(hp32.mono hB)) ?_;refine D.ac ?_;refine D.am (fun _=>((bkT hb2 1).mono hB)) ?_;refine D.ac ?_;refine D.ar _ ?_;refine D.ox U6 om_ om_ U2 ?_;refine D.aE (((0+2) % 3)) U9 (fun _=>⟨by decide,by decide,Z⟩) U2 ?_;refine D.am (fun _=>((bkT hb8 1).mono hB)) ?_;refine D.ak h1.m_ U10 om_ (bg (hcg ((0+2) % 3))) fl_ (fun p41 hp41=>?_);refine D.am (fun _=>(hp41.mono hB)) ?_;refine D.eu hH Z ⟨?_, ?_,trivial⟩
     ·refine D.ai (fun b11=>?_);refine D.ai (fun b12=>?_);refine D.ae (j:=1) ?_;refine D.ae (j:=1) ?_;exact D.bA [(2,[],_),(3,[],_),(5,[],_),(7,[],_),(8,[],_),(9,[],.bool b),(10,[],.int .i64 ((0:Nat):Int)),(11,[],_),(12,[],_),(15,[],.slice A2 tris.length c2),(16,[],.int .i64 tris.length),(17,[],.int .i64 i),(22,[],.int .i64 ((0:Nat):Int))] ⟨Z,Z,Z,Z,Z,Z,Z,Z,Z,Z,Z,Z,Z,trivial⟩ (hR _ _ _ Z (G.perm _ ((aC (j:=1) Z).trans (List.Perm.cons _ (il _))) (hc b11 b12)))
     ·refine D.ai (fun b12=>?_);refine D.ai (fun b11=>?_);refine D.ae (j:=0) ?_;refine D.ae (j:=1) ?_;exact D.bA [(2,[],_),(3,[],_),(5,[],_),(7,[],_),(8,[],_),(9,[],.bool b),(10,[],.int .i64 ((0:Nat):Int)),(11,[],_),(12,[],_),(15,[],.slice A2 tris.length c2),(16,[],.int .i64 tris.length),(17,[],.int .i64 i),(22,[],.int .i64 ((0:Nat):Int))] ⟨Z,Z,Z,Z,Z,Z,Z,Z,Z,Z,Z,Z,Z,trivial⟩ (hR _ _ _ Z (G.perm _ ((aC (j:=1) Z).trans (List.Perm.cons _ (il _))) (hc b11 b12)))
    clear hR hH hB R;refine G.freeze 0 Z (fun C11 _ hb11=>?_);refine G.freeze 0 Z (fun C12 _ hb12=>?_);refine G.aG [0,1,2,3,4,5,6,7,8,9,10,11] [(4,1),(9,1),(10,1)] Z kr_ (fun R hB hR=>?_);refine D.ac ?_;refine D.aa (bkT hb12 1) ?_;refine D.ac ?_;refine D.aa (bkT hb11 1) ?_;refine D.ay (fun _=>(bH _ hT.m_ _ _ 2 dc_ dc_ (hcp ((0+2) % 3)).1 (hcp ((0+1) % 3)).1)) U9 ?_;refine D.ac ?_;refine D.aa (bkT hb3 1) ?_;refine D.ac ?_;refine D.aa (bkT hb11 1) ?_;refine D.ay (fun _=>(bH _ hT.m_ _ _ 2 dc_ dc_ hp.2.1 (hcp ((0+1) % 3)).2)) U9 ?_;refine D.ay (fun _=>(bt _ hT.m_ _ _ 5 dc_ dc_ (eH (hcp ((0+2) % 3)).1 (hcp ((0+1) % 3)).1) (eH hp.2.1 (hcp ((0+1) % 3)).2))) U9 ?_;refine D.ac ?_;refine D.Iu 2 3 5 7 8 9 10 11 12 13 15 16 17 22 hR ?_;clear hR hB R;refine G.aG [0,1,2,3,4,5,6,7,8,9,10,11,12,13,14,15] [(6,1),(11,1),(12,1),(13,1)] Z kr_ (fun R hB hR=>?_);refine D.ps 3 ?_;refine D.aa (bkT hb12 1) ?_;refine D.ac ?_;refine D.aa (bkT hb11 1) ?_;refine D.ay (fun _=>(bH _ hT.m_ _ _ 2 dc_ dc_ (hcp ((0+2) % 3)).2 (hcp ((0+1) % 3)).2)) U9 ?_;refine D.ac ?_;refine D.aa (bkT hb3 1) ?_;refine D.ac ?_;refine D.aa (bkT hb11 1) ?_;refine D.ay (fun _=>(bH _ hT.m_ _ _ 2 dc_ dc_ hp.1 (hcp ((0+1) % 3)).1)) U9 ?_;refine D.ay (fun _=>(bt _ hT.m_ _ _ 5 dc_ dc_ (eH (hcp ((0+2) % 3)).2 (hcp ((0+1) % 3)).2) (eH hp.1 (hcp ((0+1) % 3)).1))) U9 ?_;refine D.ay (fun _=>(bH _ hT.m_ _ _ 10 dc_ dc_ (IC (eH (hcp ((0+2) % 3)).1 (hcp ((0+1) % 3)).1) (eH hp.2.1 (hcp ((0+1) % 3)).2)) (IC (eH (hcp ((0+2) % 3)).2 (hcp ((0+1) % 3)).2) (eH hp.1 (hcp ((0+1) % 3)).1)))) U9 ?_;refine D.aE (0) U9 (fun _=>⟨by decide,by decide,Z⟩) U2 ?_;refine D.ae (j:=0) ?_;refine D.nX 2 3 5 7 8 9 10 15 16 17 22 hR ?_;clear hR hB R;refine G.rp 3 fun R hR=>?_;refine D.aE (0) U9 (fun _=>⟨by decide,by decide,Z⟩) U2 ?_;refine D.af (.head _) ?_;refine D.ay (fun _=>(io _ (arW pts t (p.1,p.2.1) 0) (sP ((hw 0).le dc_)))) U9 ?_;refine D.ac ?_;refine D.aw ?_;refine D.lc 1 2 3 5 7 8 9 15 16 17 22 hR ?_;clear hR R;refine G.rg fun R hR=>?_;refine D.ar _ ?_;refine D.lc 1 2 3 5 7 8 9 15 16 17 22 hR ?_;clear hR R;refine G.ax (m':=2) om_ mup (h_10 2 3 5 7 8 9 15 16 17 22) ⟨1,_,_,_,_,⟨by decide,by rw [na,<- hb,<- p6],fun _=>rfl,by omega,by omega⟩,Z,Z,Z⟩
   ·refine G.tM 2 2 3 5 7 8 9 10 15 16 17 22 ?_;refine G.gt (.cut [0,1,2,3,4,5,6,7,8,9,10,11,12,13,14,15,16,17] (.alt 18 (.fin [19,20,21]) (.alt 19 (.fin [18,20,21]) .stop))) [(1,0),(6,0),(8,0),(10,0),(15,0),(17,0)] Z Z kr_ (fun R hB hR hH=>?_);refine G.mb hR (fun b11 b12=>[(2,[],.pointer (some ⟨b2,0,none⟩)),(3,[],.pointer (some ⟨b3,0,none⟩)),(5,[],.pointer (some ⟨b5,0,none⟩)),(7,[],.int .i64 i),(8,[],.pointer (some ⟨b8,0,none⟩)),(9,[],.bool b),(10,[],.int .i64 ((1:Nat):Int)),(11,[],.pointer (some ⟨b11,0,none⟩)),(12,[],.pointer (some ⟨b12,0,none⟩)),(15,[],.slice A2 tris.length c2),(16,[],.int .i64 tris.length),(17,[],.int .i64 i),(22,[],.int .i64 ((1:Nat):Int))]) (fun b11 b12=>[.obj b11 (.cells ⟨kR (cn pts t ((1+1) % 3))⟩ 97 (0,0)),.obj b12 (.cells ⟨kR (cn pts t ((1+2) % 3))⟩ 97 (0,0)),.obj b5 (.cells ⟨[aA y0,aA y1,aA y2]⟩ 318 (0,0))]) (fun hc=>?_) (fun b11 b12=>?_)
    ·refine D.ac ?_;refine D.am (fun _=>((bkT hb2 1).mono hB)) ?_;refine D.ac ?_;refine D.ar _ ?_;refine D.ox U6 om_ om_ U2 ?_;refine D.aE (((1+1) % 3)) U9 (fun _=>⟨by decide,by decide,Z⟩) U2 ?_;refine D.am (fun _=>((bkT hb8 1).mono hB)) ?_;refine D.ak h1.m_ U10 om_ (bg (hcg ((1+1) % 3))) fl_ (fun p32 hp32=>?_);refine D.am (fun _=>(hp32.mono hB)) ?_;refine D.ac ?_;refine D.am (fun _=>((bkT hb2 1).mono hB)) ?_;refine D.ac ?_;refine D.ar _ ?_;refine D.ox U6 om_ om_ U2 ?_;refine D.aE (((1+2) % 3)) U9 (fun _=>⟨by decide,by decide,Z⟩) U2 ?_;refine D.am (fun _=>((bkT hb8 1).mono hB)) ?_;refine D.ak h1.m_ U10 om_ (bg (hcg ((1+2) % 3))) fl_ (fun p41 hp41=>?_);refine D.am (fun _=>(hp41.mono hB)) ?_;refine D.eu hH Z ⟨?_, ?_,trivial⟩
     ·refine D.ai (fun b11=>?_);refine D.ai (fun b12=>?_);refine D.ae (j:=1) ?_;refine D.ae (j:=1) ?_;exact D.bA [(2,[],_),(3,[],_),(5,[],_),(7,[],_),(8,[],_),(9,[],.bool b),(10,[],.int .i64 ((1:Nat):Int)),(11,[],_),(12,[],_),(15,[],.slice A2 tris.length c2),(16,[],.int .i64 tris.length),(17,[],.int .i64 i),(22,[],.int .i64 ((1:Nat):Int))] ⟨Z,Z,Z,Z,Z,Z,Z,Z,Z,Z,Z,Z,Z,trivial⟩ (hR _ _ _ Z (G.perm _ ((aC (j:=1) Z).trans (List.Perm.cons _ (il _))) (hc b11 b12)))
     ·refine D.ai (fun b12=>?_);refine D.ai (fun b11=>?_);refine D.ae (j:=0) ?_;refine D.ae (j:=1) ?_;exact D.bA [(2,[],_),(3,[],_),(5,[],_),(7,[],_),(8,[],_),(9,[],.bool b),(10,[],.int .i64 ((1:Nat):Int)),(11,[],_),(12,[],_),(15,[],.slice A2 tris.length c2),(16,[],.int .i64 tris.length),(17,[],.int .i64 i),(22,[],.int .i64 ((1:Nat):Int))] ⟨Z,Z,Z,Z,Z,Z,Z,Z,Z,Z,Z,Z,Z,trivial⟩ (hR _ _ _ Z (G.perm _ ((aC (j:=1) Z).trans (List.Perm.cons _ (il _))) (hc b11 b12)))
    clear hR hH hB R;refine G.freeze 0 Z (fun C11 _ hb11=>?_);refine G.freeze 0 Z (fun C12 _ hb12=>?_);refine G.aG [0,1,2,3,4,5,6,7,8,9,10,11] [(4,1),(9,1),(10,1)] Z kr_ (fun R hB hR=>?_);refine D.ac ?_;refine D.aa (bkT hb12 1) ?_;refine D.ac ?_;refine D.aa (bkT hb11 1) ?_;refine D.ay (fun _=>(bH _ hT.m_ _ _ 2 dc_ dc_ (hcp ((1+2) % 3)).1 (hcp ((1+1) % 3)).1)) U9 ?_;refine D.ac ?_;refine D.aa (bkT hb3 1) ?_;refine D.ac ?_;refine D.aa (bkT hb11 1) ?_;refine D.ay (fun _=>(bH _ hT.m_ _ _ 2 dc_ dc_ hp.2.1 (hcp ((1+1) % 3)).2)) U9 ?_;refine D.ay (fun _=>(bt _ hT.m_ _ _ 5 dc_ dc_ (eH (hcp ((1+2) % 3)).1 (hcp ((1+1) % 3)).1) (eH hp.2.1 (hcp ((1+1) % 3)).2))) U9 ?_;refine D.ac ?_;refine D.Iu 2 3 5 7 8 9 10 11 12 13 15 16 17 22 hR ?_;clear hR hB R;refine G.aG [0,1,2,3,4,5,6,7,8,9,10,11,12,13,14,15] [(6,1),(11,1),(12,1),(13,1)] Z kr_ (fun R hB hR=>?_);refine D.ps 3 ?_;refine D.aa (bkT hb12 1) ?_;refine D.ac ?_;refine D.aa (bkT hb11 1) ?_;refine D.ay (fun _=>(bH _ hT.m_ _ _ 2 dc_ dc_ (hcp ((1+2) % 3)).2 (hcp ((1+1) % 3)).2)) U9 ?_;refine D.ac ?_;refine D.aa (bkT hb3 1) ?_;refine D.ac ?_;refine D.aa (bkT hb11 1) ?_;refine D.ay (fun _=>(bH _ hT.m_ _ _ 2 dc_ dc_ hp.1 (hcp ((1+1) % 3)).1)) U9 ?_;refine D.ay (fun _=>(bt _ hT.m_ _ _ 5 dc_ dc_ (eH (hcp ((1+2) % 3)).2 (hcp ((1+1) % 3)).2) (eH hp.1 (hcp ((1+1) % 3)).1))) U9 ?_;refine D.ay (fun _=>(bH _ hT.m_ _ _ 10 dc_ dc_ (IC (eH (hcp ((1+2) % 3)).1 (hcp ((1+1) % 3)).1) (eH hp.2.1 (hcp ((1+1) % 3)).2)) (IC (eH (hcp ((1+2) % 3)).2 (hcp ((1+1) % 3)).2) (eH hp.1 (hcp ((1+1) % 3)).1)))) U9 ?_;refine D.aE (1) U9 (fun _=>⟨by decide,by decide,Z⟩) U2 ?_;refine D.ae (j:=0) ?_;refine D.nX 2 3 5 7 8 9 10 15 16 17 22 hR ?_;clear hR hB R;refine G.rp 3 fun R hR=>?_;refine D.aE (1) U9 (fun _=>⟨by decide,by decide,Z⟩) U2 ?_;refine D.af (.head _) ?_;refine D.ay (fun _=>(io _ (arW pts t (p.1,p.2.1) 1) (sP ((hw 1).le dc_)))) U9 ?_;refine D.ac ?_;refine D.aw ?_;refine D.lc 1 2 3 5 7 8 9 15 16 17 22 hR ?_;clear hR R;refine G.rg fun R hR=>?_;refine D.ar _ ?_;refine D.lc 1 2 3 5 7 8 9 15 16 17 22 hR ?_;clear hR R;refine G.ax (m':=1) om_ mup (h_10 2 3 5 7 8 9 15 16 17 22) ⟨2,_,_,_,_,⟨by decide,by rw [na,<- hb,<- p6],fun _=>hy0 dc_,fun _=>rfl,by omega⟩,Z,Z,Z⟩
   ·refine G.tM 2 2 3 5 7 8 9 10 15 16 17 22 ?_;refine G.gt (.cut [0,1,2,3,4,5,6,7,8,9,10,11,12,13,14,15,16,17] (.alt 18 (.fin [19,20,21]) (.alt 19 (.fin [18,20,21]) .stop))) [(1,0),(6,0),(8,0),(10,0),(15,0),(17,0)] Z Z kr_ (fun R hB hR hH=>?_);refine G.mb hR (fun b11 b12=>[(2,[],.pointer (some ⟨b2,0,none⟩)),(3,[],.pointer (some ⟨b3,0,none⟩)),(5,[],.pointer (some ⟨b5,0,none⟩)),(7,[],.int .i64 i),(8,[],.pointer (some ⟨b8,0,none⟩)),(9,[],.bool b),(10,[],.int .i64 ((2:Nat):Int)),(11,[],.pointer (some ⟨b11,0,none⟩)),(12,[],.pointer (some ⟨b12,0,none⟩)),(15,[],.slice A2 tris.length c2),(16,[],.int .i64 tris.length),(17,[],.int .i64 i),(22,[],.int .i64 ((2:Nat):Int))]) (fun b11 b12=>[.obj b11 (.cells ⟨kR (cn pts t ((2+1) % 3))⟩ 97 (0,0)),.obj b12 (.cells ⟨kR (cn pts t ((2+2) % 3))⟩ 97 (0,0)),.obj b5 (.cells ⟨[aA y0,aA y1,aA y2]⟩ 318 (0,0))]) (fun hc=>?_) (fun b11 b12=>?_)
    ·refine D.ac ?_;refine D.am (fun _=>((bkT hb2 1).mono hB)) ?_;refine D.ac ?_;refine D.ar _ ?_;refine D.ox U6 om_ om_ U2 ?_;refine D.aE (((2+1) % 3)) U9 (fun _=>⟨by decide,by decide,Z⟩) U2 ?_;refine D.am (fun _=>((bkT hb8 1).mono hB)) ?_;refine D.ak h1.m_ U10 om_ (bg (hcg ((2+1) % 3))) fl_ (fun p32 hp32=>?_);refine D.am (fun _=>(hp32.mono hB)) ?_;refine D.ac ?_;refine D.am (fun _=>((bkT hb2 1).mono hB)) ?_;refine D.ac ?_;refine D.ar _ ?_;refine D.ox U6 om_ om_ U2 ?_;refine D.aE (((2+2) % 3)) U9 (fun _=>⟨by decide,by decide,Z⟩) U2 ?_;refine D.am (fun _=>((bkT hb8 1).mono hB)) ?_;refine D.ak h1.m_ U10 om_ (bg (hcg ((2+2) % 3))) fl_ (fun p41 hp41=>?_);refine D.am (fun _=>(hp41.mono hB)) ?_;refine D.eu hH Z ⟨?_, ?_,trivial⟩
     ·refine D.ai (fun b11=>?_);refine D.ai (fun b12=>?_);refine D.ae (j:=1) ?_;refine D.ae (j:=1) ?_;exact D.bA [(2,[],_),(3,[],_),(5,[],_),(7,[],_),(8,[],_),(9,[],.bool b),(10,[],.int .i64 ((2:Nat):Int)),(11,[],_),(12,[],_),(15,[],.slice A2 tris.length c2),(16,[],.int .i64 tris.length),(17,[],.int .i64 i),(22,[],.int .i64 ((2:Nat):Int))] ⟨Z,Z,Z,Z,Z,Z,Z,Z,Z,Z,Z,Z,Z,trivial⟩ (hR _ _ _ Z (G.perm _ ((aC (j:=1) Z).trans (List.Perm.cons _ (il _))) (hc b11 b12)))
     ·refine D.ai (fun b12=>?_);refine D.ai (fun b11=>?_);refine D.ae (j:=0) ?_;refine D.ae (j:=1) ?_;exact D.bA [(2,[],_),(3,[],_),(5,[],_),(7,[],_),(8,[],_),(9,[],.bool b),(10,[],.int .i64 ((2:Nat):Int)),(11,[],_),(12,[],_),(15,[],.slice A2 tris.length c2),(16,[],.int .i64 tris.length),(17,[],.int .i64 i),(22,[],.int .i64 ((2:Nat):Int))] ⟨Z,Z,Z,Z,Z,Z,Z,Z,Z,Z,Z,Z,Z,trivial⟩ (hR _ _ _ Z (G.perm _ ((aC (j:=1) Z).trans (List.Perm.cons _ (il _))) (hc b11 b12)))
    clear hR hH hB R;refine G.freeze 0 Z (fun C11 _ hb11=>?_);refine G.freeze 0 Z (fun C12 _ hb12=>?_);refine G.aG [0,1,2,3,4,5,6,7,8,9,10,11] [(4,1),(9,1),(10,1)] Z kr_ (fun R hB hR=>?_);refine D.ac ?_;refine D.aa (bkT hb12 1) ?_;refine D.ac ?_;refine D.aa (bkT hb11 1) ?_;refine D.ay (fun _=>(bH _ hT.m_ _ _ 2 dc_ dc_ (hcp ((2+2) % 3)).1 (hcp ((2+1) % 3)).1)) U9 ?_;refine D.ac ?_;refine D.aa (bkT hb3 1) ?_;refine D.ac ?_;refine D.aa (bkT hb11 1) ?_;refine D.ay (fun _=>(bH _ hT.m_ _ _ 2 dc_ dc_ hp.2.1 (hcp ((2+1) % 3)).2)) U9 ?_;refine D.ay (fun _=>(bt _ hT.m_ _ _ 5 dc_ dc_ (eH (hcp ((2+2) % 3)).1 (hcp ((2+1) % 3)).1) (eH hp.2.1 (hcp ((2+1) % 3)).2))) U9 ?_;refine D.ac ?_;refine D.Iu 2 3 5 7 8 9 10 11 12 13 15 16 17 22 hR ?_;clear hR hB R;refine G.aG [0,1,2,3,4,5,6,7,8,9,10,11,12,13,14,15] [(6,1),(11,1),(12,1),(13,1)] Z kr_ (fun R hB hR=>?_);refine D.ps 3 ?_;refine D.aa (bkT hb12 1) ?_;refine D.ac ?_;refine D.aa (bkT hb11 1) ?_;refine D.ay (fun _=>(bH _ hT.m_ _ _ 2 dc_ dc_ (hcp ((2+2) % 3)).2 (hcp ((2+1) % 3)).2)) U9 ?_;refine D.ac ?_;refine D.aa (bkT hb3 1) ?_;refine D.ac ?_;refine D.aa (bkT hb11 1) ?_;refine D.ay (fun _=>(bH _ hT.m_ _ _ 2 dc_ dc_ hp.1 (hcp ((2+1) % 3)).1)) U9 ?_;refine D.ay (fun _=>(bt _ hT.m_ _ _ 5 dc_ dc_ (eH (hcp ((2+2) % 3)).2 (hcp ((2+1) % 3)).2) (eH hp.1 (hcp ((2+1) % 3)).1))) U9 ?_;refine D.ay (fun _=>(bH _ hT.m_ _ _ 10 dc_ dc_ (IC (eH (hcp ((2+2) % 3)).1 (hcp ((2+1) % 3)).1) (eH hp.2.1 (hcp ((2+1) % 3)).2)) (IC (eH (hcp ((2+2) % 3)).2 (hcp ((2+1) % 3)).2) (eH hp.1 (hcp ((2+1) % 3)).1)))) U9 ?_;refine D.aE (2) U9 (fun _=>⟨by decide,by decide,Z⟩) U2 ?_;refine D.ae (j:=0) ?_;refine D.nX 2 3 5 7 8 9 10 15 16 17 22 hR ?_;clear hR hB R;refine G.rp 3 fun R hR=>?_;refine D.aE (2) U9 (fun _=>⟨by decide,by decide,Z⟩) U2 ?_;refine D.af (.head _) ?_;refine D.ay (fun _=>(io _ (arW pts t (p.1,p.2.1) 2) (sP ((hw 2).le dc_)))) U9 ?_;refine D.ac ?_;refine D.aw ?_;refine D.lc 1 2 3 5 7 8 9 15 16 17 22 hR ?_;clear hR R;refine G.rg fun R hR=>?_;refine D.ar _ ?_;refine D.lc 1 2 3 5 7 8 9 15 16 17 22 hR ?_;clear hR R;refine G.ax (m':=0) om_ mup (h_10 2 3 5 7 8 9 15 16 17 22) ⟨3,_,_,_,_,⟨by decide,by rw [na,<- hb,<- p6],fun _=>hy0 dc_,fun _=>hy1 dc_,fun _=>rfl⟩,Z,Z,Z⟩
  ·have hj3:j=3:=by
    have:=dj h23;omega
   subst hj3;rw [JB] at hb;obtain rfl:=hy0 dc_;obtain rfl:=hy1 dc_;obtain rfl:=hy2 dc_;refine G.z8 1 2 3 5 7 15 16 17 78 ?_;refine G.cd (fun h78=>?_) fun h78=>?_
   ·have hin:iA pts (p.1,p.2.1) t=true:=hb.symm.trans h78;have hfd:=Ct ht hno hin;refine G.aG [0,1,2,3,4] [] Z kr_ (fun R hB hR=>?_);refine D.ac ?_;refine D.af (.head _) ?_;refine D.ac ?_;refine D.ae (j:=0) ?_;refine D.ac ?_;refine D.e3 4 5 6 hR ?_;clear hR hB R;refine G.aB (G.xH (.head _) Z Z Z Z Z Z ?_);exact ⟨Z,i,wS pts t (p.1,p.2.1),by rw [hfd];rfl,Z,fun u hu=>by rw [hfd] at hu;cases hu;exact ⟨ht,Z⟩⟩
   ·have hin:iA pts (p.1,p.2.1) t=false:=hb.symm.trans h78;refine G.rg fun R hR=>?_;refine D.ar _ ?_;refine D.q6 1 2 3 5 15 16 17 hR ?_;clear hR R;refine G.ax (m':=tris.length-(i+1)) om_ mup (h_6 2 3 5 15 16 17) ⟨i+1,_,_,_,⟨by omega,zZ ht hno hin⟩,Z,Z,Z⟩
 ·have hil:i=tris.length:=by
   have:=dj h18;omega
  rw [hil,cK] at hno;have hfd:=Cr hno;refine G.aG [0,1,2,3] [] Z kr_ (fun R hB hR=>?_);refine D.af (.head _) ?_;refine D.ac ?_;refine D.ae (j:=0) ?_;refine D.ac ?_;refine D.e3 4 5 6 hR ?_;clear hR hB R;refine G.aB (G.xH (.head _) Z Z Z Z Z Z ?_);exact ⟨Z,0,[x0,x1,x2],by rw [hfd];rfl,Z,fun u hu=>by rw [hfd] at hu;cases hu⟩
def sW (pts:List Pt)(t:Tri)(p:Pt):Nat->Rat
 | 0=>0
 | j+1=>sW pts t p j+arW pts t p j
def sF (pts:List Pt)(t:Tri)(f:List Rat)(p:Pt):Nat->Rat
 | 0=>0
 | j+1=>sF pts t f p j+arW pts t p j*f.getD (fU t j) 0
theorem Jb {pts:List Pt}{tris:List Tri}(hM:MeshOk pts tris){t:Tri}(ht:t∈tris){p:Pt}(hp:QP 2 p):∀ j,QB (22*j+1) (sW pts t p j)
 | 0=>QB_zero
 | j+1=>(fA (Jb hM ht hp j) (tJ hM ht hp j)).le om_
theorem Jd {pts:List Pt}{tris:List Tri}(hM:MeshOk pts tris){t:Tri}(ht:t∈tris){p:Pt}(hp:QP 2 p){f:List Rat}(hf:∀ q∈f,QB 1 q):∀ j,QB (23*j+1) (sF pts t f p j)
 | 0=>QB_zero
 | j+1=>(fA (Jd hM ht hp hf j) (dz (tJ hM ht hp j) (kO dc_ hf _))).le om_
theorem Je (pts:List Pt)(t:Tri)(f:List Rat)(p:Pt):sF pts t f p 3 / sW pts t p 3=nh pts t f p:=by
 unfold nh;rw [<- Dt pts t p];unfold DZ;show (0+_+_+_) / (0+_+_+_)=_;rw [MM,MM]
theorem Jc {pts:List Pt}{tris:List Tri}(hM:MeshOk pts tris){t:Tri}(ht:t∈tris)(p:Pt):sW pts t p 3≠0:=by
 have h:=nL hM ht;rw [<- Dt pts t p] at h;show 0+_+_+_≠_;rw [MM];grind
theorem B5 (C:Mem)(hT:Tabs C)(v1 v2 fv:Value)(pts:List Pt)(tris:List Tri)(h2:Sl C 3 v2 (tris.map lE))(hM:MeshOk pts tris)(t:Tri)(i:Nat)(ht:tris[i]?=some t)(p:Pt)(hp:QP 2 p)(f:List Rat)(hf:Sl C 1 fv (f.map gK))(hfl:f.length=pts.length/\∀ q∈f,QB 1 q)
  (b1 b2 b3:Nat) (g1:C b1=some (.cells ⟨[v1,v2]⟩ 37 (0,0))) (g2:C b2=some (.cells ⟨[.int .i64 i]⟩ 3 (0,0))) (g3:C b3=some (.cells ⟨(wS pts t p).map aA⟩ 318 (0,0))) :
  Gives cx.P 208 [fv,.pointer (some ⟨b1,0,none⟩),.pointer (some ⟨b2,0,none⟩),.pointer (some ⟨b3,0,none⟩)] C (aA (qtx (nh pts t f p))):=by
 obtain ⟨A2,c2,rfl,hq3,hq4,_⟩:=id h2;obtain ⟨A4,c4,rfl,hq5,hq6,_⟩:=id hf;have hmx:maxLen<=9223372036854775807:=by simp [maxLen]
 have htm:=ba ht;have hil:=(aJ.1 ht).1;have hcg:=fun k=>(kY hM htm k).2.2;have hw:=fun k=>(tJ hM htm hp k).le (show 21<=70 by decide);have hg:=fun k=>kO dc_ hfl.2 (fU t k);have hsw:=Jb hM htm hp;have hsf:=Jd hM htm hp hfl.2;simp only [aH] at h2 hf hq3 hq5 g1 ⊢;refine Fn.it kr_ Tryz.func208 42 fun w0=>?_;refine G.z4 1 0 1 2 3 ?_;refine G.z6 2 0 1 2 3 6 7 ?_;refine G.rp 1 fun R hR=>?_;refine D.aa (bkT g1 1) ?_;refine D.aa (bkT g2 1) ?_;refine D.ak h2.m_ U10 om_ (bg ht) fl_ (fun p13 hp13=>?_);refine D.aa hp13 ?_;refine D.q6 1 0 3 6 7 14 15 hR ?_;rw [show Value.string { data:=#[48] }=aA (qtx 0) from by rw [qtx_zero];rfl];refine G.loop (fun fr C' L' μ=>∃ (j:Nat),(j<=3)/\fr=[(0,[],.slice A4 f.length c4),(3,[],.pointer (some ⟨b3,0,none⟩)),(6,[],aA (qtx (sW pts t p j))),(7,[],aA (qtx (sF pts t f p j))),(14,[],.agg ⟨lE t⟩),(15,[],.int .i64 j)]/\L'=[]/\μ=3-j) (h_6 0 3 6 7 14 15) ⟨0,by decide,Z,Z,Z⟩ (fun fr C0' L0' m _ hI=>?_);obtain ⟨j,hj,rfl,rfl,rfl⟩:=hI;refine G.z7 1 0 3 6 7 14 15 16 ?_;refine G.cd (fun h16=>?_) fun h16=>?_
 ·have hjl:j<3:=by have:=bi h16;omega
  rcases (by omega:j=0∨j=1∨j=2) with rfl | rfl | rfl
  ·refine G.rp 1 fun R hR=>?_;refine D.dO U11 (fun _=>⟨by decide,by decide,Z⟩) U2 ?_;refine D.q8 2 0 3 6 7 8 9 14 15 hR ?_;refine G.aG [0,1,2,3,4,5,6,7,8,9,10,11,12,13,14,15,16] [(4,1),(13,1),(14,1)] Z kr_ (fun R hB hR=>?_);refine D.ps 2 ?_;refine D.aE (0) U9 (fun _=>⟨by decide,by decide,Z⟩) U2 ?_;refine D.aa (bkT g3 1) ?_;refine D.ay (fun _=>(dZ _ hT.m_ (sW pts t p 0) (arW pts t p 0) 70 dc_ dc_ ((hsw 0).le dc_) (hw 0))) U9 ?_;refine D.ps 2 ?_;refine D.aE (0) U9 (fun _=>⟨by decide,by decide,Z⟩) U2 ?_;refine D.aa (bkT g3 1) ?_;refine D.ps 2 ?_;refine D.ak hf.m_ U10 om_ (bg (s5 (show fU t 0<f.length by rw [hfl.1];exact hcg 0))) fl_ (fun p30 hp30=>?_);refine D.aa hp30 ?_;refine D.ay (fun _=>(bt _ hT.m_ (arW pts t p 0) (f.getD (fU t 0) 0) 70 dc_ dc_ (hw 0) ((hg 0).le dc_))) U9 ?_;refine D.ay (fun _=>(dZ _ hT.m_ (sF pts t f p 0) (arW pts t p 0*f.getD (fU t 0) 0) 140 dc_ dc_ ((hsf 0).le dc_) (dU (hw 0) ((hg 0).le dc_)))) U9 ?_;refine D.q6 2 0 3 6 7 14 15 hR ?_;refine G.rg fun R hR=>?_;refine D.ar _ ?_;refine D.q6 1 0 3 6 7 14 15 hR ?_;refine G.ax (m':=2) om_ mup (h_6 0 3 6 7 14 15) ⟨1,by decide,Z,Z,Z⟩
  ·refine G.rp 1 fun R hR=>?_;refine D.dO U11 (fun _=>⟨by decide,by decide,Z⟩) U2 ?_;refine D.q8 2 0 3 6 7 8 9 14 15 hR ?_;refine G.aG [0,1,2,3,4,5,6,7,8,9,10,11,12,13,14,15,16] [(4,1),(13,1),(14,1)] Z kr_ (fun R hB hR=>?_);refine D.ps 2 ?_;refine D.aE (1) U9 (fun _=>⟨by decide,by decide,Z⟩) U2 ?_;refine D.aa (bkT g3 1) ?_;refine D.ay (fun _=>(dZ _ hT.m_ (sW pts t p 1) (arW pts t p 1) 70 dc_ dc_ ((hsw 1).le dc_) (hw 1))) U9 ?_;refine D.ps 2 ?_;refine D.aE (1) U9 (fun _=>⟨by decide,by decide,Z⟩) U2 ?_;refine D.aa (bkT g3 1) ?_;refine D.ps 2 ?_;refine D.ak hf.m_ U10 om_ (bg (s5 (show fU t 1<f.length by rw [hfl.1];exact hcg 1))) fl_ (fun p30 hp30=>?_);refine D.aa hp30 ?_;refine D.ay (fun _=>(bt _ hT.m_ (arW pts t p 1) (f.getD (fU t 1) 0) 70 dc_ dc_ (hw 1) ((hg 1).le dc_))) U9 ?_;refine D.ay (fun _=>(dZ _ hT.m_ (sF pts t f p 1) (arW pts t p 1*f.getD (fU t 1) 0) 140 dc_ dc_ ((hsf 1).le dc_) (dU (hw 1) ((hg 1).le dc_)))) U9 ?_;refine D.q6 2 0 3 6 7 14 15 hR ?_;refine G.rg fun R hR=>?_;refine D.ar _ ?_;refine D.q6 1 0 3 6 7 14 15 hR ?_;refine G.ax (m':=1) om_ mup (h_6 0 3 6 7 14 15) ⟨2,by decide,Z,Z,Z⟩
  ·refine G.rp 1 fun R hR=>?_;refine D.dO U11 (fun _=>⟨by decide,by decide,Z⟩) U2 ?_;refine D.q8 2 0 3 6 7 8 9 14 15 hR ?_;refine G.aG [0,1,2,3,4,5,6,7,8,9,10,11,12,13,14,15,16] [(4,1),(13,1),(14,1)] Z kr_ (fun R hB hR=>?_);refine D.ps 2 ?_;refine D.aE (2) U9 (fun _=>⟨by decide,by decide,Z⟩) U2 ?_;refine D.aa (bkT g3 1) ?_;refine D.ay (fun _=>(dZ _ hT.m_ (sW pts t p 2) (arW pts t p 2) 70 dc_ dc_ ((hsw 2).le dc_) (hw 2))) U9 ?_;refine D.ps 2 ?_;refine D.aE (2) U9 (fun _=>⟨by decide,by decide,Z⟩) U2 ?_;refine D.aa (bkT g3 1) ?_;refine D.ps 2 ?_;refine D.ak hf.m_ U10 om_ (bg (s5 (show fU t 2<f.length by rw [hfl.1];exact hcg 2))) fl_ (fun p30 hp30=>?_);refine D.aa hp30 ?_;refine D.ay (fun _=>(bt _ hT.m_ (arW pts t p 2) (f.getD (fU t 2) 0) 70 dc_ dc_ (hw 2) ((hg 2).le dc_))) U9 ?_;refine D.ay (fun _=>(dZ _ hT.m_ (sF pts t f p 2) (arW pts t p 2*f.getD (fU t 2) 0) 140 dc_ dc_ ((hsf 2).le dc_) (dU (hw 2) ((hg 2).le dc_)))) U9 ?_;refine D.q6 2 0 3 6 7 14 15 hR ?_;refine G.rg fun R hR=>?_;refine D.ar _ ?_;refine D.q6 1 0 3 6 7 14 15 hR ?_;refine G.ax (m':=0) om_ mup (h_6 0 3 6 7 14 15) ⟨3,by decide,Z,Z,Z⟩
 ·have hj3:j=3:=by
   have:=dj h16;omega
  subst hj3;refine G.rp 2 fun R hR=>?_;refine D.aj (uh _ hT.m_ (sF pts t f p 3) (sW pts t p 3) 70 dc_ dc_ (hsf 3) ((hsw 3).le dc_) (Jc hM htm p)) U7 fl_ ?_;refine D.q1 4 7 hR ?_;refine G.z1 2 5 ?_;refine G.rf ?_;exact ⟨by rw [Je],Z⟩
theorem rk (a b:Rat):decide (rM a b<0)=decide (a<b):=by
 rw [Lj];unfold rM;split
 ·rename_i h;exact ⟨fun _=>h,fun _=>by decide⟩
 ·split <;> rename_i h k
  ·exact ⟨fun g=>absurd g dc_,fun g=>absurd g h⟩
  ·exact ⟨fun g=>absurd g dc_,fun g=>absurd g h⟩
theorem rl (a b:Rat):decide (rM a b<=0)=decide (a<=b):=by
 rw [Lj];unfold rM;split
 ·rename_i h;exact ⟨fun _=>by grind,fun _=>by decide⟩
 ·split <;> rename_i h k
  ·exact ⟨fun g=>absurd g dc_,fun g=>by grind⟩
  ·exact ⟨fun g=>by grind,fun g=>by decide⟩
theorem rm (a b:Rat):decide (rM a b ≥ 0)=decide (b<=a):=by
 rw [Lj];unfold rM;split
 ·rename_i h;exact ⟨fun g=>absurd g dc_,fun g=>by grind⟩
 ·split <;> rename_i h k
  ·exact ⟨fun g=>by grind,fun g=>by decide⟩
  ·exact ⟨fun g=>by grind,fun g=>by decide⟩
theorem yU (C:Mem)(hT:Tabs C)(mv:Value)(pts:List Pt)(tris:List Tri)(hm:MeshIn C mv pts tris)(hG:Good pts tris)(e:Evt)(hE:EvO pts.length e)(A1 A2 A3:Option Addr)(n1 n2 c1 c2 c3:Nat)(p:V3)(hp:Q3 2 p)
  (hb:Sl C 1 (.slice A1 n1 c1) (e.base.map gK)) (hs:FldsIn C (.slice A3 e.surf.length c3) e.surf) :
  Gives cx.P 131 [mv,.agg ⟨[.slice A1 n1 c1,.slice A2 n2 c2,.slice A3 e.surf.length c3]⟩,vV p] C (.int .i64 (tW pts tris e.base e.surf p)):=by
 have hm0:=hm;obtain ⟨v1,v2,rfl,h1,h2⟩:=id hm.ex;obtain ⟨vs,hs1,hsl,hsf⟩:=hs;have hu2:=hE.u2;have hp2:QP 2 (p.1,p.2.1):=⟨hp.1,hp.2.1⟩;refine Fn.it kr_ Tryz.func131 51 fun w0=>?_;refine G.rg fun R hR=>?_;refine D.aD (fun b3=>?_);refine D.aD (fun b4=>?_);refine D.aD (fun b5=>?_);refine D.q3 1 3 4 5 hR ?_;refine G.freeze 2 Z (fun _ _ hb3=>?_);refine G.freeze 1 Z (fun _ _ hb4=>?_);refine G.freeze 0 Z (fun _ _ hb5=>?_);refine G.rg fun R hR=>?_;refine D.aa (bkT hb3 2) ?_;refine D.aa (bkT hb5 3) ?_;refine D.az (yC _ hT.m_ _ pts tris hm0.m_ hG p hp) (fun v15 _ _ hq15=>?_);obtain ⟨i,ws,rfl,hwl,hfd⟩:=hq15;obtain ⟨w0,w1,w2,rfl⟩:∃ w0 w1 w2,ws=[w0,w1,w2]:=by
  match ws,hwl with
  | [a,b,c],_=>exact ⟨a,b,c,rfl⟩
 refine D.ps 4 ?_;refine D.ai (fun b7=>?_);refine D.ai (fun b8=>?_);refine D.ae (j:=1) ?_;refine D.ae (j:=1) ?_;refine D.q6 1 3 4 5 7 8 9 hR ?_;refine G.z6 2 3 4 5 7 8 20 ?_;refine G.cd (fun h20=>?_) fun h20=>?_
 ·have hF:tris.find? (iA pts (p.1,p.2.1))=none:=by
   cases h:tris.find? (iA pts (p.1,p.2.1)) with
   | none=>rfl
   | some t=>rw [h] at h20;cases h20
  refine G.z1 1 6 ?_;refine G.rf ?_;exact ⟨by unfold tW;rw [hF],Z⟩
 ·obtain ⟨t,hF⟩:∃ t,tris.find? (iA pts (p.1,p.2.1))=some t:=by
   cases h:tris.find? (iA pts (p.1,p.2.1)) with
   | none=>rw [h] at h20;cases h20
   | some t=>exact ⟨t,rfl⟩
  obtain ⟨ht,hww⟩:=hfd t hF;have htm:=ba ht;refine G.freeze 1 Z (fun _ _ hb7=>?_);refine G.freeze 0 Z (fun C8 _ hb8=>?_);have hb9:C8 b8=some (.cells ⟨(wS pts t (p.1,p.2.1)).map aA⟩ 318 (0,0)):=by rw [<- hww];exact hb8
  have hqb:=fun f (hf:∀ q∈f,QB 1 q)=>HB hG.ok htm hp2 hf;have hh:=fun D (hD:C8.le D) fv f (hf:Sl D 1 fv (f.map gK)) hfl=>B5 D hT.m_ v1 v2 fv pts tris h2.m_ hG.ok t i ht (p.1,p.2.1) hp2 f hf hfl b3 b7 b8 (Mem.get hb3 mup) (Mem.get hb7 mup) (Mem.get hb9 mup);have hp22:QB 136 p.2.2:=hp.2.2.le dc_;refine G.z3 2 4 5 10 ?_;refine G.aG [0,1,2,3,4,5,6,7] [(5,1),(6,1)] Z kr_ (fun R hB hR=>?_);refine D.ac ?_;refine D.aa (bkT hb5 1) ?_;refine D.ps 2 ?_;refine D.aa (bkT hb4 1) ?_;refine D.aL (fun _=>(hh _ mup _ e.base hb.m_ ⟨hE.bl,hE.bq⟩)) ?_;refine D.ay (fun _=>(bY _ hT.m_ p.2.2 (nh pts t e.base (p.1,p.2.1)) 136 dc_ dc_ hp22 (hqb _ hE.bq))) U9 ?_;refine D.q4 1 4 5 10 29 hR ?_;refine G.cd (fun h29=>?_) fun h29=>?_
  ·rw [rk] at h29;refine G.z1 1 6 ?_;refine G.rf ?_;exact ⟨by unfold tW;rw [hF];show _=Value.int .i64 (if _ then _ else _);rw [bW (bi h29)],Z⟩
  ·rw [rk] at h29;refine G.z4 1 4 5 10 11 ?_;refine G.loop (fun fr C' L' μ=>∃ (n:Nat),(n<=e.surf.length/\∀ f∈e.surf.take n,nh pts t f (p.1,p.2.1)<=p.2.2)/\fr=[(4,[],.pointer (some ⟨b4,0,none⟩)),(5,[],.pointer (some ⟨b5,0,none⟩)),(10,[],.func (.func 208) #[] #[.pointer (some ⟨b3,0,none⟩),.pointer (some ⟨b7,0,none⟩),.pointer (some ⟨b8,0,none⟩)]),(11,[],.int .i64 n)]/\L'=[]/\μ=e.surf.length-n) (h_4 4 5 10 11) ⟨0,⟨ch _,by simp⟩,Z,Z,Z⟩ (fun fr C0' L0' m _ hI=>?_);obtain ⟨n,⟨hn,hall⟩,rfl,rfl,rfl⟩:=hI;have hlt:∀ {q:Prop},(decide ((n:Int)<((e.surf.length:Nat):Int))=true/\q)->n<e.surf.length:=fun h=>by have:=bi h.1;omega
   have hrow:n<e.surf.length->(vs.map fun w=>[w])[((n:Nat):Int).toNat]?=some [vs.getD n (.slice none 0 0)]:=fun h=>by rw [L5,bX,aF,aq om_];rfl
   have hq1:∀ q∈e.surf.getD n [],QB 1 q:=fun q hq=>by
    rw [aF] at hq;cases h:e.surf[n]? with
    | none=>rw [h] at hq;cases hq
    | some f=>rw [h] at hq;exact (hE.sl f (ba h)).2 q hq
   have hh8:=fun D (hD:C8.le D) (h:n<e.surf.length)=>hh D hD (vs.getD n (.slice none 0 0)) (e.surf.getD n []) ((hsf n _ _ (by rw [aF,aq om_];rfl) (by rw [aF,aq h];rfl)).mono mup) (hE.sl _ (by rw [aF,aq h];exact Mv h));refine G.aG [0,1,2,3,4,5,6,7,8,9,10,11,12,13,14,15,16,17] [] Z kr_ (fun R hB hR=>?_);refine D.ps 2 ?_;refine D.aa (bkT hb4 1) ?_;refine D.ps 5 ?_;refine D.aN U6 (fun _=>PtrTo.blockT (Mem.get hb4 mup) _ 1) U3 ?_;refine D.ac ?_;refine D.index U10 (fun hg=>⟨hs1.mono mup,by omega,hrow (hlt hg)⟩) fl_ Z (fun p40 hp40=>?_);refine D.aN U6 hp40 U3 ?_;refine D.ay (fun hg=>hh8 _ mup (by exact hlt (q:=True) ⟨hg.1,trivial⟩)) U9 ?_;refine D.ac ?_;refine D.aN U6 (fun _=>PtrTo.blockT (Mem.get hb5 mup) _ 1) U3 ?_;refine D.ay (fun _=>(bY _ hT.m_ (nh pts t (e.surf.getD n []) (p.1,p.2.1)) p.2.2 136 dc_ dc_ (hqb _ hq1) hp22)) U9 ?_;refine D.ac ?_;refine D.aw ?_;refine D.e5 4 5 10 11 47 hR ?_;refine G.cd (fun h47=>?_) fun h47=>?_
   ·rw [rl,bL,cH,cH] at h47;have hnl:n<e.surf.length:=by omega
    refine G.rp 1 fun R hR=>?_;refine D.ar _ ?_;refine D.q4 1 4 5 10 11 hR ?_;refine G.ax (m':=e.surf.length-(n+1)) om_ mup (h_4 4 5 10 11) ⟨n+1,⟨by omega,fun f hf=>by
     rw [xO,aq hnl] at hf;rcases Lh.1 hf with h | h
     ·exact hall f h
     ·have h3:=h47.2;rw [aF,aq hnl] at h3;have e5:f=e.surf[n]:=by simpa using h
      rw [e5];exact h3⟩,rfl,rfl,rfl⟩
   ·rw [rl,NU,Lc,Lc] at h47;have hpre:Bc (fun f=>decide (nh pts t f (p.1,p.2.1)<=p.2.2)) e.surf=n:=qv hn (fun f hf=>j9 (hall f hf)) (fun f hf=>by
     refine K3 (fun hc=>?_);have hnl:=(aJ.1 hf).1;rcases h47 with h | h
     ·omega
     ·rw [aF,hf] at h;exact h hc)
    refine G.z1 2 6 ?_;refine G.rf ?_;exact ⟨by unfold tW;rw [hF];show _=Value.int .i64 (if _ then _ else _);rw [a7 (dj h29),hpre],Z⟩

theorem gz {l:List (Rat × Rat)}{n:Nat}(h:n<l.length):(l.map rK)[n]?=some (rK (l.getD n (0,0))):=bg (Jw h)
theorem m6 {l:List (Rat × Rat)}(hq:∀ k∈l,QB 1 k.1/\QB 1 k.2)(n:Nat):QB 1 (l.getD n (0,0)).1/\QB 1 (l.getD n (0,0)).2:=by
 rw [aF];cases h:l[n]? with
 | none=>exact ⟨QB_zero,QB_zero⟩
 | some k=>exact hq k (ba h)
theorem wG (C:Mem)(hT:Tabs C)(A:Option Addr)(c:Nat)(l:List (Rat × Rat))(hv:Sl C 2 (.slice A l.length c) (l.map rK))(hq:∀ k∈l,QB 1 k.1/\QB 1 k.2)(hd:∀ i,i+1<l.length->(l.getD (i+1) (0,0)).1-(l.getD i (0,0)).1=2)(hl:l.length<=3)(u:Rat)(hu:QB 100 u) :
  Gives cx.P 134 [.slice A l.length c,aA (qtx u)] C (.tuple #[.int .i64 (knN l u:Nat),aA (qtx (knV l u))]):=by
 refine Fn.it kr_ Tryz.func134 83 fun w0=>?_;refine G.z2 2 0 1 ?_;refine G.z3 1 0 1 6 ?_;refine G.loop (fun fr C' L' μ=>∃ (n:Nat),(n<=l.length/\∀ k∈l.take n,k.1<=u)/\fr=[(0,[],.slice A l.length c),(1,[],aA (qtx u)),(6,[],.int .i64 n)]/\L'=[]/\μ=l.length-n) (h_3 0 1 6) ⟨0,⟨ch _,by simp⟩,Z,Z,Z⟩ (fun fr C0' L0' m _ hI=>?_);obtain ⟨n,⟨hn,hall⟩,rfl,rfl,rfl⟩:=hI;have hlt:∀ {q:Prop},(decide ((n:Int)<((l.length:Nat):Int))=true/\q)->n<l.length:=fun h=>by have:=bi h.1;omega
 refine G.rp 7 fun R hR=>?_;refine D.index U10 (fun hg=>⟨hv.mono mup,by omega,gz (hlt hg)⟩) fl_ Z (fun p18 hp18=>?_);refine D.gu U10 hp18 fl_ Z (fun p19 hp19=>?_);refine D.aN U6 hp19 U3 ?_;refine D.ac ?_;refine D.ay (fun _=>(bY _ hT.m_ (l.getD n (0,0)).1 u 100 dc_ dc_ ((m6 hq n).1.le dc_) hu)) U9 ?_;refine D.ac ?_;refine D.aw ?_;refine D.e4 0 1 6 24 hR ?_;clear hR R;refine G.cd (fun h24=>?_) fun h24=>?_
 ·rw [rl,bL,cH,cH] at h24;have hnl:n<l.length:=by omega
  refine G.rp 1 fun R hR=>?_;refine D.ar _ ?_;refine D.q3 1 0 1 6 hR ?_;clear hR R;refine G.ax (m':=l.length-(n+1)) om_ mup (h_3 0 1 6) ⟨n+1,⟨by omega,fun k hk=>by
   rw [xO,aq hnl] at hk;rcases Lh.1 hk with h | h
   ·exact hall k h
   ·have h3:=h24.2;rw [aF,aq hnl] at h3;have e5:k=l[n]:=by simpa using h
    rw [e5];exact h3⟩,rfl,rfl,rfl⟩
 ·rw [rl,NU,Lc,Lc] at h24;have hpre:knN l u=n:=qv hn (fun k hk=>j9 (hall k hk)) (fun k hk=>by
   refine K3 (fun hc=>?_);have hnl:=(aJ.1 hk).1;rcases h24 with h | h
   ·omega
   ·rw [aF,hk] at h;exact h hc)
  rw [hpre];refine G.z4 4 0 1 6 27 ?_;refine G.cd (fun h27=>?_) fun h27=>?_
  ·have hl0:l=[]:=by
    cases l with
    | nil=>rfl
    | cons a r=>simp at h27;omega
   subst hl0;obtain rfl:n=0:=by simpa using hn
   refine G.z2 2 4 5 ?_;refine G.aB (G.dropAll (G.a8 U3 ?_));exact ⟨by unfold knV;rw [bW Z,qtx_zero];rfl,Z⟩
  ·have hne:l≠[]:=fun e=>by rw [e] at h27;simp at h27
   have hpos:=K6.2 hne;refine G.z4 3 0 1 6 31 ?_;refine G.cd (fun h31=>?_) fun h31=>?_
   ·obtain rfl:n=0:=by simpa using h31
    refine G.aG [0,1,2,3,4,5] [] Z kr_ (fun R hB hR=>?_);refine D.ac ?_;refine D.ak hv.m_ U10 om_ (gz hpos) fl_ (fun p35 hp35=>?_);refine D.di hp35 U10 fl_ (fun p36 hp36=>?_);refine D.aa hp36 ?_;refine D.ps 2 ?_;refine D.e2 4 5 hR ?_;clear hR hB R;refine G.aB (G.dropAll (G.a8 U3 ?_));exact ⟨by unfold knV;rw [a7 hne,bW hpre];rfl,Z⟩
   ·have hn0:n≠0:=fun e=>by rw [e] at h31;simp at h31
    refine G.z4 5 0 1 6 38 ?_;refine G.cd (fun h38=>?_) fun h38=>?_
    ·have hnl:n=l.length:=by simp at h38;omega
     refine G.aG [0,1,2,3,4,5,6,7,8] [] Z kr_ (fun R hB hR=>?_);refine D.ps 3 ?_;refine D.ar _ ?_;refine D.ak hv.m_ U10 om_ (by rw [show ((n:Int)-1).toNat=n-1 by omega];exact gz om_) fl_ (fun p47 hp47=>?_);refine D.di hp47 U10 fl_ (fun p48 hp48=>?_);refine D.aa hp48 ?_;refine D.ps 2 ?_;refine D.e2 4 5 hR ?_;clear hR hB R;refine G.aB (G.dropAll (G.a8 U3 ?_));exact ⟨by unfold knV;rw [a7 hne,a7 om_,bW om_,<- hnl],Z⟩
    ·have hnl:n<l.length:=by simp at h38;omega
     have ka:=m6 hq (n-1);have kb:=m6 hq n;have kd:(l.getD n (0,0)).1-(l.getD (n-1) (0,0)).1≠0:=by
      have:=hd (n-1) om_;rw [Nu om_] at this;rw [this];decide
     have k1:=(gm hu ka.1).le (show 100+1+1<=102 by decide);have k2:=(gm kb.1 ka.1).le (show 1+1+1<=102 by decide);have k3:=xA k1 k2 kd;have k4:=(gm kb.2 ka.2).le (show 1+1+1<=204 by decide);refine G.gt (.cut [0,1,2,3,4,5,6,7,8] (.alt 9 (.fin [10,11,12]) (.alt 10 (.fin [9,11,12]) .stop))) [(4,0),(8,0)] Z Z kr_ (fun R hB hR hH=>?_);refine G.mb hR (fun b7 b8=>[(1,[],aA (qtx u)),(6,[],.int .i64 n),(7,[],.pointer (some ⟨b7,0,none⟩)),(8,[],.pointer (some ⟨b8,0,none⟩))]) (fun b7 b8=>[.obj b7 (.cells ⟨rK (l.getD (n-1) (0,0))⟩ 168 (0,0)),.obj b8 (.cells ⟨rK (l.getD n (0,0))⟩ 168 (0,0))]) (fun hc=>?_) (fun b7 b8=>?_)
     ·refine D.ps 2 ?_;refine D.ar _ ?_;refine D.ak hv.m_ U10 om_ (by rw [show ((n:Int)-1).toNat=n-1 by omega];exact gz om_) fl_ (fun p53 hp53=>?_);refine D.am (fun _=>(hp53.mono hB)) ?_;refine D.ps 2 ?_;refine D.ak hv.m_ U10 om_ (gz hnl) fl_ (fun p57 hp57=>?_);refine D.am (fun _=>(hp57.mono hB)) ?_;refine D.eu hH Z ⟨?_, ?_,trivial⟩
      ·refine D.ai (fun b7=>?_);refine D.ai (fun b8=>?_);refine D.ae (j:=1) ?_;refine D.ae (j:=1) ?_;exact D.bA [(1,[],_),(6,[],.int .i64 n),(7,[],_),(8,[],_)] ⟨Z,Z,Z,Z,trivial⟩ (hR _ _ _ Z (G.perm _ ((aC (j:=1) Z).trans (List.Perm.cons _ (il _))) (hc b7 b8)))
      ·refine D.ai (fun b8=>?_);refine D.ai (fun b7=>?_);refine D.ae (j:=0) ?_;refine D.ae (j:=1) ?_;exact D.bA [(1,[],_),(6,[],.int .i64 n),(7,[],_),(8,[],_)] ⟨Z,Z,Z,Z,trivial⟩ (hR _ _ _ Z (G.perm _ ((aC (j:=1) Z).trans (List.Perm.cons _ (il _))) (hc b7 b8)))
     clear hR hH hB R;refine G.freeze 0 Z (fun _ _ hb7=>?_);refine G.freeze 0 Z (fun _ _ hb8=>?_);refine G.aG [0,1,2,3,4,5,6,7,8,9,10,11,12,13,14] [(3,1),(8,1),(9,1)] Z kr_ (fun R hB hR=>?_);refine D.ps 2 ?_;refine D.aa (bkT hb7 1) ?_;refine D.ay (fun _=>(bH _ hT.m_ u (l.getD (n-1) (0,0)).1 100 dc_ dc_ hu (ka.1.le dc_))) U9 ?_;refine D.ac ?_;refine D.aa (bkT hb8 1) ?_;refine D.ac ?_;refine D.aa (bkT hb7 1) ?_;refine D.ay (fun _=>(bH _ hT.m_ (l.getD n (0,0)).1 (l.getD (n-1) (0,0)).1 1 dc_ dc_ kb.1 ka.1)) U9 ?_;refine D.ay (fun _=>(uh _ hT.m_ _ _ 102 dc_ dc_ k1 k2 kd)) U9 ?_;refine D.ps 5 ?_;refine D.e4 6 7 8 9 hR ?_;clear hR hB R;refine G.aG [0,1,2,3,4,5,6,7,8,9,10,11,12] [(8,1),(9,1),(10,1)] Z kr_ (fun R hB hR=>?_);refine D.ps 2 ?_;refine D.aa (bkT hb7 1) ?_;refine D.ps 2 ?_;refine D.aa (bkT hb8 1) ?_;refine D.ac ?_;refine D.aa (bkT hb7 1) ?_;refine D.ay (fun _=>(bH _ hT.m_ (l.getD n (0,0)).2 (l.getD (n-1) (0,0)).2 1 dc_ dc_ kb.2 ka.2)) U9 ?_;refine D.ay (fun _=>(bt _ hT.m_ _ _ 204 dc_ dc_ k3 k4)) U9 ?_;refine D.ay (fun _=>(dZ _ hT.m_ (l.getD (n-1) (0,0)).2 _ 408 dc_ dc_ (ka.2.le dc_) (dU k3 k4))) U9 ?_;refine D.ps 2 ?_;refine D.e2 4 5 hR ?_;clear hR hB R;refine G.aB (G.dropAll (G.a8 U3 ?_));exact ⟨by unfold knV;rw [a7 hne,a7 om_,a7 om_,hpre];rfl,Z⟩
theorem HP (C:Mem)(np:Nat)(e:Evt)(hE:EvO np e)(cs:List Value)(hc:EvM C e cs)(n:Int)(h2:-2<=n)(hn:e.kd=1->n<=e.surf.length)(hn9:n<=9) :
  Gives cx.P 66 [.agg ⟨cs⟩,.int .i64 n] C (.tuple #[aA ((gJ e n).getD []),.bool (gJ e n).isSome]):=by
 obtain ⟨nm,A1,A2,A3,A4,n1,n2,n3,n4,c1,c2,c3,c4,x,q,rfl,hg⟩:=hc.gen;have hun:=hE.un;refine Fn.it kr_ Tryz.func66 39 fun w0=>?_;refine G.rg fun R hR=>?_;refine D.aD (fun b2=>?_);refine D.q2 2 1 2 hR ?_;refine G.freeze 0 Z (fun _ _ hb2=>?_);refine G.rp 1 fun R hR=>?_;refine D.aa (bkT hb2 1) ?_;refine D.ps 4 ?_;refine D.aw ?_;refine D.q3 1 1 2 6 hR ?_;refine G.cd (fun h6=>?_) fun h6=>?_
 ·rw [bL,Lg,Lg] at h6;refine G.z2 2 4 5 ?_;refine G.aB (G.dropAll (G.a8 U3 ?_));exact ⟨by unfold gJ;rw [bW ⟨by omega,h6.2⟩];rfl,Z⟩
 ·have g6:¬ (e.kd=1/\n=-2):=fun h=>by rw [h.1,h.2] at h6;exact absurd h6 dc_
  refine G.rp 1 fun R hR=>?_;refine D.aa (bkT hb2 1) ?_;refine D.ps 4 ?_;refine D.aw ?_;refine D.q3 1 1 2 14 hR ?_;refine G.cd (fun h14=>?_) fun h14=>?_
  ·rw [bL,Lg,cH] at h14;have hk:e.kd=1:=by omega
   have h3:=hn hk;obtain ⟨rfl,rfl,rfl,_,hu,_⟩:=hg.h1 hk;refine G.rp 2 fun R hR=>?_;refine D.aa (bkT hb2 1) ?_;refine D.ac ?_;refine D.ak hu.m_ U10 om_ (bg (show e.units[n.toNat]?=some (e.units.getD n.toNat []) by rw [aF,aq om_];rfl)) fl_ (fun p26 hp26=>?_);refine D.aa hp26 ?_;refine D.q2 2 4 5 hR ?_;refine G.aB (G.dropAll (G.a8 U3 ?_));exact ⟨by unfold gJ;rw [a7 g6,bW ⟨hk,h14.2⟩];rfl,Z⟩
  ·have g14:¬ (e.kd=1/\0<=n):=fun h=>by rw [h.1,j9 h.2] at h14;exact absurd h14 dc_
   refine G.rp 1 fun R hR=>?_;refine D.aa (bkT hb2 1) ?_;refine D.ps 4 ?_;refine D.aw ?_;refine D.q2 1 2 28 hR ?_;refine G.cd (fun h28=>?_) fun h28=>?_
   ·rw [bL,Lg,Lg] at h28;have hk:e.kd=4:=by omega
    obtain rfl:=hg.h4 hk;refine G.rp 2 fun R hR=>?_;refine D.aa (bkT hb2 1) ?_;refine D.q2 2 4 5 hR ?_;refine G.aB (G.dropAll (G.a8 U3 ?_));exact ⟨by unfold gJ;rw [a7 g6,a7 g14,bW ⟨hk,h28.2⟩];rfl,Z⟩
   ·have g28:¬ (e.kd=4/\n=1):=fun h=>by rw [h.1,h.2] at h28;exact absurd h28 dc_
    refine G.z2 2 4 5 ?_;refine G.aB (G.dropAll (G.a8 U3 ?_));exact ⟨by unfold gJ;rw [a7 g6,a7 g14,a7 g28];rfl,Z⟩
theorem Wh.qb {c:Nat}{x:Rat}(h:Wh c x)(hc:c<1000000000):QB 1 x:=by
 obtain ⟨z,rfl,hz⟩:=h;exact DG (by show _<1000000000;omega) dc_
theorem Wh3.qb {c:Nat}{p:V3}(h:Wh3 c p)(hc:c<1000000000):Q3 1 p:=⟨h.1.qb hc,h.2.1.qb hc,h.2.2.qb hc⟩
theorem AA (q:Rat):decide (fg q.num<0)=decide (q<0):=by
 have h:=p6 q;rw [Lj] at h ⊢;constructor
 ·intro g;exact Rat.not_le.1 (fun k=>by have:=h.2 k;omega)
 ·intro g;exact Int.not_le.1 (fun k=>by have:=h.1 k;grind)
theorem BN (l:List (Rat × Rat))(u:Rat):knN l u<=l.length:=qo _ _
theorem yB (C:Mem)(hT:Tabs C)(mv:Value)(pts:List Pt)(tris:List Tri)(hm:MeshIn C mv pts tris)(hG:Good pts tris)(e:Evt)(hE:EvO pts.length e)(cs:List Value)(hc:EvM C e cs)(p:V3)(hp:Q3 2 p) :
  Gives cx.P 65 [mv,.agg ⟨cs⟩,vV p] C (.int .i64 (dX pts tris e p)):=by
 have hm0:=hm;obtain ⟨v1,v2,rfl,_⟩:=id hm.ex;obtain ⟨nm,A1,A2,A3,A4,n1,n2,n3,n4,c1,c2,c3,c4,x,q,rfl,hg⟩:=hc.gen;have hkk:=hg.k;have hnq:=hE.r.nr.qb dc_;have hoq:=hE.r.of.qb dc_;have hdq:QB 11 (ce e.nrm p):=(ra hnq hp).le dc_;have hsq:QB 13 (ce e.nrm p-e.off):=(gm hdq hoq).le dc_;refine Fn.it kr_ Tryz.func65 72 fun w0=>?_;refine G.rg fun R hR=>?_;refine D.aD (fun b3=>?_);refine D.aD (fun b4=>?_);refine D.aD (fun b5=>?_);refine D.q3 1 3 4 5 hR ?_;clear hR R;refine G.freeze 2 Z (fun _ _ hb3=>?_);refine G.freeze 1 Z (fun _ _ hb4=>?_);refine G.freeze 0 Z (fun _ _ hb5=>?_);refine G.rp 1 fun R hR=>?_;refine D.aa (bkT hb4 1) ?_;refine D.e4 3 4 5 11 hR ?_;clear hR R;refine G.z5 2 3 4 5 11 12 ?_;refine G.cd (fun h12=>?_) fun h12=>?_
 ·have hk:e.kd=1:=by simp at h12;omega
  obtain ⟨rfl,rfl,rfl,hb,_,hs⟩:=hg.h1 hk;refine G.rg fun R hR=>?_;refine D.aa (bkT hb3 2) ?_;refine D.ac ?_;refine D.aa (bkT hb4 3) ?_;refine D.aa (bkT hb5 3) ?_;refine D.ag (yU _ hT.m_ _ pts tris hm0.m_ hG e hE A1 A2 A3 _ _ c1 c2 c3 p hp hb.m_ hs.m_) ?_;refine D.q1 1 6 hR ?_;clear hR R;refine G.rf ?_;exact ⟨by unfold dX;rw [bW hk],Z⟩
 ·have k1:e.kd≠1:=fun h=>by rw [h] at h12;exact absurd h12 dc_
  refine G.z4 2 4 5 11 19 ?_;refine G.cd (fun h19=>?_) fun h19=>?_
  ·have hk:e.kd=2:=by simp at h19;omega
   obtain rfl:=hg.h2 hk;refine G.aG [0,1,2,3,4,5,6,7,8,9,10,11] [(5,1),(10,1),(3,0),(4,0),(9,0)] Z kr_ (fun R hB hR=>?_);refine D.ps 3 ?_;refine D.am (fun _=>((bkT hb4 3).mono hB)) ?_;refine D.am (fun _=>((bkT hb5 3).mono hB)) ?_;refine D.ay (fun _=>(jn _ hT.m_ e.nrm p 1 2 dc_ dc_ hnq hp)) U9 ?_;refine D.ps 3 ?_;refine D.am (fun _=>((bkT hb4 1).mono hB)) ?_;refine D.ay (fun _=>(bY _ hT.m_ (ce e.nrm p) e.off 11 dc_ dc_ hdq (hoq.le dc_))) U9 ?_;refine D.ac ?_;refine D.e1 32 hR ?_;clear hR hB R;refine G.cd (fun h32=>?_) fun h32=>?_
   ·rw [rm] at h32;refine G.z1 1 6 ?_;refine G.rf ?_;exact ⟨by unfold dX;rw [a7 k1,bW hk,bW (bi h32)],Z⟩
   ·rw [rm] at h32;refine G.z1 1 6 ?_;refine G.rf ?_;exact ⟨by unfold dX;rw [a7 k1,bW hk,a7 (dj h32)],Z⟩
  ·have k2:e.kd≠2:=fun h=>by rw [h] at h19;exact absurd h19 dc_
   refine G.z4 2 4 5 11 33 ?_;refine G.cd (fun h33=>?_) fun h33=>?_
   ·have hk:e.kd=3:=by simp at h33;omega
    obtain ⟨rfl,rfl,hkn⟩:=hg.h3 hk;refine G.aG [0,1,2,3,4,5,6,7,8,9,10,11,12,13] [(7,1),(8,1),(2,0),(5,0),(6,0)] Z kr_ (fun R hB hR=>?_);refine D.ps 2 ?_;refine D.am (fun _=>((bkT hb4 1).mono hB)) ?_;refine D.ps 2 ?_;refine D.am (fun _=>((bkT hb4 3).mono hB)) ?_;refine D.am (fun _=>((bkT hb5 3).mono hB)) ?_;refine D.ay (fun _=>(jn _ hT.m_ e.nrm p 1 2 dc_ dc_ hnq hp)) U9 ?_;refine D.ay (fun _=>(wG _ hT.m_ A4 c4 e.knots hkn.m_ hE.kq hE.r.ka hE.r.kl (ce e.nrm p) (hdq.le dc_))) U9 ?_;refine D.ps 5 ?_;refine D.e1 7 hR ?_;clear hR hB R;refine G.z1 2 6 ?_;refine G.rf ?_;exact ⟨by unfold dX;rw [a7 k1,a7 k2,bW hk],Z⟩
   ·have k3:e.kd≠3:=fun h=>by rw [h] at h33;exact absurd h33 dc_
    refine G.z3 2 4 5 48 ?_;refine G.cd (fun h48=>?_) fun h48=>?_
    ·have hk:e.kd=4:=by simp at h48;omega
     obtain rfl:=hg.h4 hk;refine G.aG [0,1,2,3,4,5,6,7,8,9,10,11] [(5,1),(10,1),(3,0),(4,0),(9,0)] Z kr_ (fun R hB hR=>?_);refine D.ps 3 ?_;refine D.am (fun _=>((bkT hb4 3).mono hB)) ?_;refine D.am (fun _=>((bkT hb5 3).mono hB)) ?_;refine D.ay (fun _=>(jn _ hT.m_ e.nrm p 1 2 dc_ dc_ hnq hp)) U9 ?_;refine D.ps 3 ?_;refine D.am (fun _=>((bkT hb4 1).mono hB)) ?_;refine D.ay (fun _=>(bH _ hT.m_ (ce e.nrm p) e.off 11 dc_ dc_ hdq (hoq.le dc_))) U9 ?_;refine D.ac ?_;refine D.e2 4 9 hR ?_;clear hR hB R;refine G.rp 1 fun R hR=>?_;refine D.aj (io _ (ce e.nrm p-e.off) (sP (hsq.le dc_))) U7 fl_ ?_;refine D.q3 2 4 9 61 hR ?_;clear hR R;refine G.cd (fun h61=>?_) fun h61=>?_
     ·rw [AA] at h61;refine G.z1 1 6 ?_;refine G.rf ?_;exact ⟨by unfold dX;rw [a7 k1,a7 k2,a7 k3,bW hk,bW (bi h61)],Z⟩
     ·rw [AA] at h61;refine G.rp 3 fun R hR=>?_;refine D.aa (bkT hb4 1) ?_;refine D.aj (bY _ hT.m_ (ce e.nrm p-e.off) e.width 13 dc_ dc_ hsq (hE.wq.le dc_)) U7 fl_ ?_;refine D.q1 2 65 hR ?_;clear hR R;refine G.cd (fun h65=>?_) fun h65=>?_
      ·rw [rk] at h65;refine G.z1 1 6 ?_;refine G.rf ?_;exact ⟨by unfold dX;rw [a7 k1,a7 k2,a7 k3,bW hk,a7 (dj h61),bW (bi h65)],Z⟩
      ·rw [rk] at h65;refine G.z1 1 6 ?_;refine G.rf ?_;exact ⟨by unfold dX;rw [a7 k1,a7 k2,a7 k3,bW hk,a7 (dj h61),a7 (dj h65)],Z⟩
    ·have k4:e.kd≠4:=fun h=>by rw [h] at h48;exact absurd h48 dc_
     refine G.z1 1 6 ?_;refine G.rf ?_;exact ⟨by unfold dX;rw [a7 k1,a7 k2,a7 k3,a7 k4],Z⟩

theorem kN (C:Mem)(hT:Tabs C)(a b:V3)(k:Nat)(hk0:0<k)(hk:k<=9000)(ha:Q3 k a)(hb:Q3 k b):Gives cx.P 136 [vV a,vV b] C (vV (add3 a b)):=by
 refine Fn.it kr_ Tryz.func136 21 fun w0=>?_;refine G.rg fun R hR=>?_;refine D.aD (fun b2=>?_);refine D.aD (fun b3=>?_);refine D.ai (fun b4=>?_);refine D.e3 2 3 4 hR ?_;refine G.freeze 2 Z (fun _ _ hb2=>?_);refine G.freeze 1 Z (fun _ _ hb3=>?_);refine G.aG [0,1,2,3,4,5,6,7,8,9,10,11,12,13,14,15,16] [(4,1),(9,1),(14,1)] Z kr_ (fun R hB hR=>?_);refine D.ac ?_;refine D.aa (bkT hb2 1) ?_;refine D.ac ?_;refine D.aa (bkT hb3 1) ?_;refine D.ay (fun _=>(dZ _ hT.m_ a.1 b.1 k hk0 om_ ha.1 hb.1)) U9 ?_;refine D.ac ?_;refine D.aa (bkT hb2 1) ?_;refine D.ac ?_;refine D.aa (bkT hb3 1) ?_;refine D.ay (fun _=>(dZ _ hT.m_ a.2.1 b.2.1 k hk0 om_ ha.2.1 hb.2.1)) U9 ?_;refine D.ac ?_;refine D.aa (bkT hb2 1) ?_;refine D.ac ?_;refine D.aa (bkT hb3 1) ?_;refine D.ay (fun _=>(dZ _ hT.m_ a.2.2 b.2.2 k hk0 om_ ha.2.2 hb.2.2)) U9 ?_;refine D.ap (nB (add3 a b)) ?_;refine D.ae (j:=0) ?_;refine D.e1 4 hR ?_;refine G.aB (G.aR (.head _) U4 ?_);exact ⟨Z,Z⟩
theorem fP (C:Mem)(hT:Tabs C)(a:V3)(q:Rat)(k:Nat)(hk0:0<k)(hk:k<=9000)(ha:Q3 k a)(hq:QB k q):Gives cx.P 137 [vV a,aA (qtx q)] C (vV (kC a q)):=by
 refine Fn.it kr_ Tryz.func137 18 fun w0=>?_;refine G.rg fun R hR=>?_;refine D.aD (fun b2=>?_);refine D.ai (fun b4=>?_);refine D.e3 1 2 4 hR ?_;refine G.freeze 1 Z (fun _ _ hb2=>?_);refine G.aG [0,1,2,3,4,5,6,7,8,9,10,11,12,13] [(3,1),(7,1),(11,1)] Z kr_ (fun R hB hR=>?_);refine D.ac ?_;refine D.aa (bkT hb2 1) ?_;refine D.ac ?_;refine D.ay (fun _=>(bt _ hT.m_ a.1 q k hk0 om_ ha.1 hq)) U9 ?_;refine D.ac ?_;refine D.aa (bkT hb2 1) ?_;refine D.ac ?_;refine D.ay (fun _=>(bt _ hT.m_ a.2.1 q k hk0 om_ ha.2.1 hq)) U9 ?_;refine D.ac ?_;refine D.aa (bkT hb2 1) ?_;refine D.ac ?_;refine D.ay (fun _=>(bt _ hT.m_ a.2.2 q k hk0 om_ ha.2.2 hq)) U9 ?_;refine D.ap (nB (kC a q)) ?_;refine D.ae (j:=0) ?_;refine D.e1 4 hR ?_;refine G.aB (G.aR (.head _) U4 ?_);exact ⟨Z,Z⟩
end Go.Proofs.YtgfiffppookakaaGreatDoor
