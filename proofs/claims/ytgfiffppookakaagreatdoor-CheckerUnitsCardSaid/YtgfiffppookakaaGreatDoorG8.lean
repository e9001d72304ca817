/- Laws that the proofs of this seat share, part 8. -/
import Derived.Test.YtgfiffppookakaaGreatDoorG7
import Derived.Test.YtgfiffppookakaaGreatDoorShelf
set_option maxHeartbeats 4000000
namespace Go.Proofs.YtgfiffppookakaaGreatDoor
open Go Go.Jog
set_option maxRecDepth 100000

theorem EJ {m:IJ}{s:gB}:(dS m (s.2,s.1)).isSome=!iO (m.map (·.1)) s:=by
 unfold iO I5;rw [Bool.not_not];cases h:dS m (s.2,s.1) with
 | none=>rw [dp] at h;simp [h]
 | some v =>
  have:=Nf (f:=(·.1)) (iz h);simp only [Option.isSome_some];exact (j9 this).symm
theorem EF (C:Mem)(v1 v2:Value)(b:Nat)(m:IJ)(hb:C b=some (bf nC m))(hn:(m.map (·.1)).Nodup)(h0:∀ s∈m.map (·.1),0<=s.1)(hml:m.length<=1000000) :
  Pur cx.P 121 [.agg ⟨[v1,v2]⟩,.map (some b)] C fun u D=>∃ v,u=.tuple #[v,.bool (decide (sE (m.map (·.1))≠[]))]/\Sl D 1 v ((sE (m.map (·.1))).map dB):=by
 have hmx:maxLen<=9223372036854775807:=by simp [maxLen]
 have hopp:=fun s:gB=>EJ (m:=m) (s:=s);obtain ⟨ks,hks⟩:∃ ks,m.map (·.1)=ks:=⟨_,rfl⟩;rw [hks] at hn h0 ⊢;simp only [hks] at hopp;have hkl:ks.length=m.length:=by rw [<- hks];simp
 refine Fn.it kr_ Tryz.func121 93 fun w0=>?_;refine G.rg fun R hR=>?_;refine D.aD (fun b2=>?_);refine D.q1 2 1 hR ?_;clear hR R;refine G.rg fun R hR=>?_;refine D.makeMap keyZ Z Z Z Z fl_ (fun b17=>?_);refine D.q2 1 1 6 hR ?_;clear hR R;refine G.z3 1 1 6 7 ?_;refine G.rp 1 fun R hR=>?_;refine D.vl kI2.enc (Mem.get hb mup) Z Z Z Z Z Z Z fl_ (fun b19=>?_);refine D.e4 1 6 7 19 hR ?_;clear hR R;refine G.eF 2 Z ?_;refine G.loop (fun fr C' L' μ=>∃ (seen:List Nat)(f:Int),(seen.Nodup/\(∀ j∈seen,j<ks.length)/\((eI ks seen).map (·.1)).Nodup/\jO (eI ks seen) f)/\fr=[(1,[],.map (some b)),(6,[],.map (some b17)),(7,[],.int .i64 f),(19,[],.pointer (some ⟨b19,0,none⟩))]/\L'=[.obj b19 (bZ b m.length seen),.obj b17 (bf keyZ.enc (qE (eI ks seen)))]/\μ=ks.length-seen.length) (h_4 1 6 7 19) ⟨[], -1,⟨List.nodup_nil,by simp,by simp [eI],.inl ⟨Z,Z⟩⟩,Z,Z,Z⟩ (fun fr C0' L0' m _ hI=>?_);obtain ⟨seen,f,⟨hsn,hsl,hbn,hle⟩,rfl,rfl,rfl⟩:=hI;refine G.rg fun R hR=>?_;refine D.zw kI2.enc (q:=0) (Mem.get hb mup) Z Z Z Z Z Z fl_ (fun go20 rs20 sn20 hn20=>?_);refine D.q5 1 1 6 7 19 21 hR ?_;clear hR R;refine G.cd (fun h21=>?_) fun h21=>?_
 ·obtain ⟨hgo1,j,hj,hjs,rfl⟩:go20=true/\∃ j,j<m.length/\j ∉ seen/\sn20=seen++[j]:=by
   rcases hn20 with ⟨h1,_⟩ | h1
   ·rw [h1] at h21;cases h21
   ·exact h1
  rw [<- hkl] at hj;obtain ⟨⟨s,bv⟩,hs⟩:∃ p,m[j]?=some p:=⟨m[j]'om_,aq om_⟩;have hsk:ks[j]?=some s:=by rw [<- hks,bX,hs];rfl
  have hsn2:(seen++[j]).Nodup:=by
   rw [ME];exact ⟨hsn,by simp,fun a ha b hb e=>by rw [K5.1 hb] at e;subst e;exact hjs ha⟩
  have hsl2:∀ i∈seen++[j],i<ks.length:=fun i hi=>by
   rcases Lh.1 hi with h | h
   ·exact hsl i h
   ·rw [K5.1 h];exact hj
  have hslen:(seen++[j]).length<=ks.length:=by
   have:=List.Nodup.length_le_of_subset hsn2 (l₂:=List.range ks.length) (fun i hi=>Md.2 (hsl2 i hi));simpa using this
  have hslen3:(seen++[j]).length=seen.length+1:=by simp
  have hB:=ya hsk (seen:=seen);have hs0:0<=s.1:=h0 s (ba hsk);refine G.rg fun R hR=>?_;refine D.vt kI2.enc (Mem.get hb mup) hs (.head _) Z Z Z Z Z Z Z ?_;refine D.ac ?_;refine D.ai (fun b8=>?_);refine D.ae (j:=0) ?_;refine D.e5 1 6 7 8 19 hR ?_;clear hR R;refine G.rp 1 fun R hR=>?_;refine D.aE (1) U9 (fun _=>⟨by decide,by decide,Z⟩) U2 ?_;refine D.af (.head _) ?_;refine D.aE (0) U9 (fun _=>⟨by decide,by decide,Z⟩) U2 ?_;refine D.af (.head _) ?_;refine D.ap [.int .i64 s.2,.int .i64 s.1] ?_;refine D.zx kI2 (fun _=>(Mem.get hb mup)) Z Z Z Z Z Z Z Z Z (mX _ (dS m (s.2,s.1))) Z Z ?_;refine D.q6 5 1 6 7 8 10 19 hR ?_;clear hR R;refine G.z6 1 1 6 7 8 19 34 ?_;refine G.cd (fun h34=>?_) fun h34=>?_
  ·have hbd:iO ks s=false:=by
    have h:(dS m (s.2,s.1)).isSome=true:=h34;rw [hopp] at h;simpa using h
   rw [hbd] at hB;simp only [LG,LZ,LY] at hB;refine G.eF 0 Z ?_;refine G.be (L':=[.obj b19 (bZ b m.length (seen++[j])),.obj b17 (bf keyZ.enc (qE (eI ks (seen++[j]))))]) (by rw [hB];rfl) ?_;refine G.ax (m':=ks.length-(seen++[j]).length) om_ mup (h_4 1 6 7 19) ⟨seen++[j],f,⟨hsn2,hsl2,by rw [hB];exact hbn,by rw [hB];exact hle⟩,Z,Z,Z⟩
  ·have hbd:iO ks s=true:=by
    have h:(dS m (s.2,s.1)).isSome=false:=h34;rw [hopp] at h;simpa using h
   rw [hbd] at hB;simp only [Mb] at hB;refine G.rp 1 fun R hR=>?_;refine D.aE (0) U9 (fun _=>⟨by decide,by decide,Z⟩) U2 ?_;refine D.af (.head _) ?_;refine D.fT keyZ (.tail _ (.tail _ (.head _))) Z Z Z Z Z Z Z Z kr_ Z (mX _ (dS (qE (eI ks seen)) s.1)) Z Z ?_;refine D.q6 5 1 6 7 8 12 19 hR ?_;clear hR R;refine G.z6 1 1 6 7 8 19 42 ?_;refine G.cd (fun h42=>?_) fun h42=>?_
   ·have h42':(dS (qE (eI ks seen)) s.1).isSome=true:=h42;rw [f5] at h42';have hno:zz ks=none:=by
     cases hq:dS (eI ks seen) s.1 with
     | none=>rw [hq] at h42';cases h42'
     | some q=>exact yn (B:=eI ks seen) (s:=s) (t:=(s.1,q)) (by rw [<- hB];exact ue hn hsn2 hsl2) (by rw [<- hB];exact AH hsl2) (iz hq) rfl
    have hnl:sE ks=[]:=by unfold sE;rw [hno];rfl
    refine G.z2 2 4 5 ?_;refine G.aB (G.dropAll (G.a8 U3 ?_));exact ⟨Z,.slice none 0 0,by rw [hnl];rfl,by rw [hnl];exact Sl.nil _ _⟩
   ·have h42':(dS (qE (eI ks seen)) s.1).isSome=false:=h42;have hnone:dS (eI ks seen) s.1=none:=by
     rw [f5] at h42';cases hq:dS (eI ks seen) s.1 with
     | none=>rfl
     | some q=>rw [hq] at h42';cases h42'
    have hbn2:((eI ks (seen++[j])).map (·.1)).Nodup:=by
     rw [hB,LC,ME];refine ⟨hbn,by simp,fun a ha b hb e=>?_⟩;rw [List.map_singleton,K5] at hb;subst hb;subst e;exact (dp.1 hnone) ha
    have hle2:=mZ hle s hs0;refine G.rp 1 fun R hR=>?_;refine D.aE (0) U9 (fun _=>⟨by decide,by decide,Z⟩) U2 ?_;refine D.af (.head _) ?_;refine D.aE (1) U9 (fun _=>⟨by decide,by decide,Z⟩) U2 ?_;refine D.af (.head _) ?_;refine D.mapUpdate keyZ (j:=2) Z Z Z Z Z Z Z Z Z Z kr_ ?_;refine D.e5 1 6 7 8 19 hR ?_;clear hR R;refine G.rp 3 fun R hR=>?_;refine D.aE (0) U9 (fun _=>⟨by decide,by decide,Z⟩) U2 ?_;refine D.af (.tail _ (.head _)) ?_;refine D.ps 2 ?_;refine D.aI ?_;refine D.e6 1 6 7 8 19 55 hR ?_;clear hR R;refine G.cd (fun h55=>?_) fun h55=>?_
    ·have h55':f<0∨s.1<f:=by simpa using h55
     rw [bW h55'] at hle2;refine G.rg fun R hR=>?_;refine D.aE (0) U9 (fun _=>⟨by decide,by decide,Z⟩) U2 ?_;refine D.af (.tail _ (.head _)) ?_;refine D.q4 1 1 6 7 19 hR ?_;clear hR R;refine G.eF 1 Z ?_;refine G.perm (L':=[.obj b19 (bZ b m.length (seen++[j])),.obj b17 (bf keyZ.enc (qE (eI ks (seen++[j]))))]) (by
      rw [hB,<- wt hnone];exact List.Perm.swap _ _ _) ?_
     refine G.ax (m':=ks.length-(seen++[j]).length) om_ mup (h_4 1 6 7 19) ⟨seen++[j],s.1,⟨hsn2,hsl2,hbn2,by rw [hB];exact hle2⟩,Z,Z,Z⟩
    ·have h55':¬ (f<0∨s.1<f):=by simpa using h55
     rw [a7 h55'] at hle2;refine G.eF 1 Z ?_;refine G.perm (L':=[.obj b19 (bZ b m.length (seen++[j])),.obj b17 (bf keyZ.enc (qE (eI ks (seen++[j]))))]) (by
      rw [hB,<- wt hnone];exact List.Perm.swap _ _ _) ?_
     refine G.ax (m':=ks.length-(seen++[j]).length) om_ mup (h_4 1 6 7 19) ⟨seen++[j],f,⟨hsn2,hsl2,hbn2,by rw [hB];exact hle2⟩,Z,Z,Z⟩
 ·obtain ⟨hgo0,rfl,hall⟩:go20=false/\sn20=seen/\∀ j,j<m.length->j∈seen:=by
   rcases hn20 with h1 | ⟨h1,_⟩
   ·exact h1
   ·rw [h1] at h21;cases h21
  rw [<- hkl] at hall;have hp:(eI ks sn20).Perm (ks.filter (iO ks)):=(AG hsn hsl hall).filter _;obtain ⟨B,hB⟩:∃ B,eI ks sn20=B:=⟨_,rfl⟩;rw [hB] at hp hbn hle;have hO:=EG hp hbn h0 hle;have hBl:B.length<=ks.length:=by rw [hp.length_eq];exact NT _ _
  refine G.z3 1 6 7 13 ?_;refine G.z4 2 6 7 13 14 ?_;refine G.eF 0 Z ?_;refine G.nilArr 3 1 ?_;refine G.be (L':=[.arr (.slice none 0 0) 3 1 0 [],.obj b17 (bf keyZ.enc (qE B))]) (by rw [hB];rfl) ?_;refine G.loop (fun fr C' L' μ=>∃ (out:List Int)(w:Value)(p:Int),(out.length<=B.length/\gC B f (B.length-out.length) p out=zz ks)/\fr=[(6,[],.map (some b17)),(7,[],.int .i64 f),(13,[],w),(14,[],.int .i64 p)]/\L'=[.arr w 3 1 out.length (out.map (Value.int .i64)),.obj b17 (bf keyZ.enc (qE B))]/\μ=B.length-out.length) (h_4 6 7 13 14) ⟨[],_,f,⟨ch _,hO.symm⟩,Z,Z,Z⟩ (fun fr C1' L1' m _ hI=>?_);obtain ⟨out,w,p,⟨hol,hwk⟩,rfl,rfl,rfl⟩:=hI;refine G.Ii (.head _) (fun Aw cw hw hxl hlw hcw=>?_);subst hw;refine G.aY [(3,1)] Z (fun R hR=>?_);refine D.ps 3 ?_;refine D.tQ keyZ.enc (.tail _ (.head _)) Z Z Z Z Z Z Z Z Z ?_;refine D.q5 1 6 7 13 14 63 hR ?_;clear hR R;refine G.cd (fun h63=>?_) fun h63=>?_
  ·have hlt:out.length<B.length:=by
    simp only [cH,wv] at h63;omega
   obtain ⟨r,hr⟩:∃ r,B.length-out.length=r+1:=⟨B.length-out.length-1,by omega⟩;rw [hr] at hwk;refine G.rp 2 fun R hR=>?_;refine D.fT keyZ (.tail _ (.head _)) Z Z Z Z Z Z Z Z kr_ Z (mX _ (dS (qE B) p)) Z Z ?_;refine D.q5 5 6 7 13 14 16 hR ?_;clear hR R;refine G.rp 10 fun R hR=>?_;refine D.aw ?_;refine D.aI ?_;refine D.e5 6 7 13 14 84 hR ?_;clear hR R;refine G.cd (fun h84=>?_) fun h84=>?_
   ·have hno:zz ks=none:=by
     rw [<- hwk];refine xS ?_;rw [f5] at h84;cases hq:dS B p with
     | none=>exact .inl rfl
     | some q =>
      rw [hq] at h84;simp only [MR,Option.isSome_some,Bool.not_true,Bool.false_or,bL,Lg,cH] at h84;exact .inr ⟨h84.1,fun e=>by rw [e] at h84;simp at h84⟩
    have hnl:sE ks=[]:=by unfold sE;rw [hno];rfl
    refine G.z2 2 4 5 ?_;refine G.aB (G.dropAll (G.a8 U3 ?_));exact ⟨Z,.slice none 0 0,by rw [hnl];rfl,by rw [hnl];exact Sl.nil _ _⟩
   ·obtain ⟨q,hq⟩:∃ q,dS B p=some q:=by
     rw [f5] at h84;cases hq:dS B p with
     | some q=>exact ⟨q,rfl⟩
     | none=>rw [hq] at h84;simp at h84
    have hpf:¬ (p=f/\out≠[]):=by
     rintro ⟨e1,e2⟩;rw [f5,hq] at h84;have:=K6.2 e2;simp [e1] at h84;exact e2 h84
    rw [xR hq hpf] at hwk;have hol3:(out++[p]).length=out.length+1:=by simp
    refine G.rp 2 fun R hR=>?_;refine D.ah [dB p] (fun p87 _ _ hs87=>?_);refine D.append (j:=0) U11 hs87 Z (by simp only [bz,maxLen];omega) (by simp only [bz];omega) fl_ (fun v88=>?_);refine D.q4 1 6 7 13 14 hR ?_;clear hR R;refine G.rp 2 fun R hR=>?_;refine D.fT keyZ (.tail _ (.head _)) Z Z Z Z Z Z Z Z kr_ Z (by rw [f5,hq];rfl:iM _ false (dS (qE B) p)=.int .i64 q) Z Z ?_;refine D.q4 1 6 7 13 14 hR ?_;clear hR R;refine G.be (L':=[.arr v88 3 1 (out++[p]).length ((out++[p]).map (Value.int .i64)),.obj b17 (bf keyZ.enc (qE B))]) (by simp [dB]) ?_;refine G.ax (m':=B.length-(out++[p]).length) om_ mup (h_4 6 7 13 14) ⟨out++[p],v88,q,⟨by omega,by rw [show B.length-(out++[p]).length=r by omega];exact hwk⟩,Z,Z,Z⟩
  ·have hle3:B.length<=out.length:=by
    simp only [Lc,wv] at h63;omega
   have hfin:sE ks=out:=by
    rw [show B.length-out.length=0 by omega] at hwk;unfold sE;rw [<- hwk];rfl
   refine G.z2 6 4 5 ?_;refine G.be (L':=[.arr (.slice Aw out.length cw) 3 1 out.length (out.map dB).flatten,.obj b17 (bf keyZ.enc (qE B))]) (by rw [show (out.map dB).flatten=out.map (Value.int .i64) from eo _ _]) ?_;refine G.freezeArr 0 (out.map dB) U2 (by intro r hr;obtain ⟨y,_,rfl⟩:=j5.1 hr;rfl) (by simp) (fun Cg hg hsl3=>?_);refine G.aB (G.dropAll (G.a8 U3 ?_));refine ⟨Z,_, ?_,by rw [hfin];exact hsl3⟩;rw [hfin];have:decide ((out.length:Int) > 0)=decide (out≠[]):=by
    rw [Lj,<- K6];omega
   rw [<- this]

def ot (pts:List Pt)(cyc:List Nat)(i:Nat):Pt:=pts.getD (cyc.getD (i % cyc.length) 0) (0,0)
def upB (p q:Pt):Bool:=decide (p.2<q.2) || (decide (p.2=q.2) && decide (p.1<q.1))
def Fa (pts:List Pt)(cyc:List Nat)(i:Nat):Bool:=!upB (ot pts cyc i) (ot pts cyc (i+1)) && upB (ot pts cyc (i+1)) (ot pts cyc (i+1+1))
def sQ (pts:List Pt)(cyc:List Nat)(i:Nat):Bool:=decide (0<=eE (ot pts cyc i) (ot pts cyc (i+1)) (ot pts cyc (i+2)))
def EN (pts:List Pt)(cyc:List Nat):Bool:=(List.range cyc.length).all (sQ pts cyc) && decide (((List.range cyc.length).filter (Fa pts cyc)).length=1)
structure OnceC (C:Mem)(b2 b3 b5:Nat)(pts:List Pt)(cyc:List Nat):Prop where
 ex:∃ v1 v2,C b2=some (.cells ⟨[v1,v2]⟩ 37 (0,0))/\Sl C 2 v1 (pts.map kR)
 ey:∃ cv,C b3=some (.cells ⟨[cv]⟩ 48 (0,0))/\Sl C 1 cv (cyc.map dG)
 ez:C b5=some (.cells ⟨[.int .i64 (cyc.length:Nat)]⟩ 3 (0,0))
 ne:0<cyc.length
 ins:∀ z∈cyc,z<pts.length
 q:∀ p∈pts,QP 1 p
theorem OnceC.mono {C D:Mem}{b2 b3 b5:Nat}{pts:List Pt}{cyc:List Nat}(h:OnceC C b2 b3 b5 pts cyc)(hl:C.le D):OnceC D b2 b3 b5 pts cyc:=by
 obtain ⟨v1,v2,h1,h2⟩:=h.ex;obtain ⟨cv,h3,h4⟩:=h.ey;exact ⟨⟨v1,v2,hl _ _ h1,h2.mono hl⟩,⟨cv,hl _ _ h3,h4.mono hl⟩,hl _ _ h.ez,h.ne,h.ins,h.q⟩
theorem OnceC.m_ {C D:Mem}{b2 b3 b5:Nat}{pts:List Pt}{cyc:List Nat}(h:OnceC C b2 b3 b5 pts cyc)(hl:C.le D:=by exact mup):OnceC D b2 b3 b5 pts cyc:=OnceC.mono h hl
theorem Gz {pts:List Pt}{cyc:List Nat}(h:0<cyc.length)(hin:∀ z∈cyc,z<pts.length)(i:Nat):∃ z,cyc[i % cyc.length]?=some z/\pts[z]?=some (ot pts cyc i):=by
 have hi:=K9 i h;refine ⟨cyc[i % cyc.length],aq hi, ?_⟩;have hz:=hin _ (Mv hi);simp [ot,aF,aq hi,aq hz]
theorem Gy {pts:List Pt}{cyc:List Nat}(h:0<cyc.length)(hin:∀ z∈cyc,z<pts.length)(hq:∀ p∈pts,QP 1 p)(i:Nat):QP 1 (ot pts cyc i):=by
 obtain ⟨z,_,h2⟩:=Gz h hin i;exact hq _ (ba h2)
theorem mK (C:Mem)(b2 b3 b5:Nat)(pts:List Pt)(cyc:List Nat)(h:OnceC C b2 b3 b5 pts cyc)(i:Nat) :
  Gives cx.P 176 [.int .i64 i,.pointer (some ⟨b2,0,none⟩),.pointer (some ⟨b3,0,none⟩),.pointer (some ⟨b5,0,none⟩)] C (ptV (ot pts cyc i)):=by
 obtain ⟨v1,v2,hb2,h1⟩:=h.ex;obtain ⟨cv,hb3,h3⟩:=h.ey;have hb5:=h.ez;have hne:=h.ne;obtain ⟨z,hz,hp⟩:=Gz h.ne h.ins i;obtain ⟨A1,c1,rfl,hq1,hq2,_⟩:=id h1;obtain ⟨A3,c3,rfl,hq3,hq4,_⟩:=id h3;simp only [aH] at h1 h3 hb2 hb3;refine Fn.it kr_ Tryz.func176 16 fun w0=>?_;refine G.rg fun R hR=>?_;refine D.ai (fun b5=>?_);refine D.e5 0 1 2 3 5 hR ?_;refine G.aG [0,1,2,3,4,5,6,7,8,9,10] [] Z kr_ (fun R hB hR=>?_);refine D.ac ?_;refine D.aa (PtrTo.block (Mem.get hb2 mup) _) ?_;refine D.aa (PtrTo.block (Mem.get hb3 mup) _) ?_;refine D.ac ?_;refine D.aa (PtrTo.block (Mem.get hb5 mup) _) ?_;refine D.dV (i) (cyc.length) U6 om_ U2 ?_;refine D.ak h3.m_ U10 om_ (by rw [bX,show ((i % cyc.length:Nat):Int).toNat=i % cyc.length from Z,hz];rfl:(cyc.map dG)[((i % cyc.length:Nat):Int).toNat]?=some (dG z)) fl_ (fun p12 hp12=>?_);refine D.aa hp12 ?_;refine D.ak h1.m_ U10 om_ (by rw [bX,show ((z:Nat):Int).toNat=z from Z,hp];rfl:(pts.map kR)[((z:Nat):Int).toNat]?=some (kR (ot pts cyc i))) fl_ (fun p14 hp14=>?_);refine D.aa hp14 ?_;refine D.ae (j:=0) ?_;refine D.e1 5 hR ?_;refine G.aB (G.aR (.head _) U4 ?_);exact ⟨Z,Z⟩
def fn1V (b2 b3 b5:Nat):Value:=.func (.func 176) #[] #[.pointer (some ⟨b2,0,none⟩),.pointer (some ⟨b3,0,none⟩),.pointer (some ⟨b5,0,none⟩)]
theorem CY (a b:Rat):decide (rM a b > 0)=decide (b<a):=by
 unfold rM;by_cases h1:a<b
 ·have:¬ b<a:=by grind
  simp [h1,this]
 ·by_cases h2:b<a <;> simp [h1,h2]
theorem H6 (a b:Rat):(rM a b == 0)=decide (b=a):=by
 unfold rM;by_cases h1:a<b
 ·have:¬ b=a:=by grind
  simp [h1,this]
 ·by_cases h2:b<a
  ·have:¬ b=a:=by grind
   simp [h1,h2,this]
  ·have:b=a:=by grind
   subst this;simp [h1]
theorem F2 (C:Mem)(hT:Tabs C)(b2 b3 b5 b6:Nat)(pts:List Pt)(cyc:List Nat)(h:OnceC C b2 b3 b5 pts cyc)(hb6:C b6=some (.cells ⟨[fn1V b2 b3 b5]⟩ 313 (0,0)))(i:Nat)(hi:i<=1000000) :
  Gives cx.P 177 [.int .i64 i,.pointer (some ⟨b6,0,none⟩)] C (.bool (upB (ot pts cyc i) (ot pts cyc (i+1)))):=by
 have hP:=fun i=>Gy h.ne h.ins h.q i;unfold fn1V at hb6;refine Fn.it kr_ Tryz.func177 34 fun w0=>?_;refine G.z2 1 0 1 ?_;refine G.aG [0,1,2,3,4,5,6,7,8,9,10] [(3,1),(7,1),(9,1)] Z kr_ (fun R hB hR=>?_);refine D.aa (PtrTo.block (Mem.get hb6 mup) _) ?_;refine D.ac ?_;refine D.ar _ ?_;refine D.aL (fun _=>(mK _ b2 b3 b5 pts cyc h.m_ (i+1))) ?_;refine D.ci U12 ?_;refine D.aa (PtrTo.block (Mem.get hb6 mup) _) ?_;refine D.ac ?_;refine D.aL (fun _=>(mK _ b2 b3 b5 pts cyc h.m_ i)) ?_;refine D.ci U12 ?_;refine D.ay (fun _=>(bY _ hT.m_ (ot pts cyc (i+1)).2 (ot pts cyc i).2 1 dc_ dc_ (hP (i+1)).2 (hP i).2)) U9 ?_;refine D.q3 1 0 1 4 hR ?_;refine G.aG [0,1,2,3,4,5,6,7,8,9,10,11,12,13,14,15,16,17,18,19] [] Z kr_ (fun R hB hR=>?_);refine D.ps 6 ?_;refine D.aN U6 (fun _=>PtrTo.block (Mem.get hb6 mup) _) U3 ?_;refine D.ac ?_;refine D.ar _ ?_;refine D.aL (fun _=>(mK _ b2 b3 b5 pts cyc h.m_ (i+1))) ?_;refine D.ci U12 ?_;refine D.aN U6 (fun _=>PtrTo.block (Mem.get hb6 mup) _) U3 ?_;refine D.ac ?_;refine D.aL (fun _=>(mK _ b2 b3 b5 pts cyc h.m_ i)) ?_;refine D.ci U12 ?_;refine D.ay (fun _=>(bY _ hT.m_ (ot pts cyc (i+1)).1 (ot pts cyc i).1 1 dc_ dc_ (hP (i+1)).1 (hP i).1)) U9 ?_;refine D.ac ?_;refine D.aw ?_;refine D.aI ?_;refine D.q1 1 3 hR ?_;refine G.rf ?_;refine ⟨?_,Z⟩;rw [CY,H6,CY];rfl
theorem Aq (q:Rat):decide (fg q.num<0)=!decide (0<=q):=by
 rw [<- decide_not,Lj,<- Of];rcases eM q.num with h | h | h <;> omega
theorem Hg (C:Mem)(hT:Tabs C)(v1 v2 cv:Value)(pts:List Pt)(cyc:List Nat)(h1:Sl C 2 v1 (pts.map kR))(h3:Sl C 1 cv (cyc.map dG))(hne:0<cyc.length)(hins:∀ z∈cyc,z<pts.length)(hq:∀ p∈pts,QP 1 p)(hlen:cyc.length<=100000) :
  Gives cx.P 122 [.agg ⟨[v1,v2]⟩,cv] C (.bool (EN pts cyc)):=by
 obtain ⟨A3,c3,rfl,hq3,hq4,_⟩:=id h3;simp only [aH] at h3 ⊢;refine Fn.it kr_ Tryz.func122 46 fun w0=>?_;refine G.rg fun R hR=>?_;refine D.aD (fun b2=>?_);refine D.aD (fun b3=>?_);refine D.q2 1 2 3 hR ?_;refine G.rg fun R hR=>?_;refine D.af (.head _) ?_;refine D.ac ?_;refine D.ai (fun b5=>?_);refine D.ae (j:=0) ?_;refine D.e3 2 3 5 hR ?_;refine G.rp 1 fun R hR=>?_;refine D.ai (fun b6=>?_);refine D.ae (j:=0) ?_;refine D.e2 5 6 hR ?_;refine G.freeze 0 Z (fun _ _ hb6=>?_);refine G.freeze 0 Z (fun _ _ hb5=>?_);refine G.freeze 0 Z (fun _ _ hb3=>?_);refine G.freeze 0 Z (fun C2 _ hb2=>?_);have hO:OnceC C2 b2 b3 b5 pts cyc:=⟨⟨v1,v2,hb2,h1.mono mup⟩,⟨_,Mem.get hb3 mup,h3.mono mup⟩,Mem.get hb5 mup,hne,hins,hq⟩;have hP:=fun i=>Gy hO.ne hO.ins hO.q i;refine G.z3 2 5 6 7 ?_;refine G.z4 1 5 6 7 8 ?_;refine G.rg fun R hR=>?_;refine D.aa (PtrTo.block (Mem.get hb5 mup) _) ?_;refine D.q5 1 6 7 8 14 15 hR ?_;refine G.loop (fun fr C' L' μ=>∃ (i k:Nat),(i<=cyc.length/\(List.range i).all (sQ pts cyc)=true/\((List.range i).filter (Fa pts cyc)).length=k)/\fr=[(6,[],.pointer (some ⟨b6,0,none⟩)),(7,[],.func (.func 177) #[] #[.pointer (some ⟨b6,0,none⟩)]),(8,[],.int .i64 k),(14,[],.int .i64 cyc.length),(15,[],.int .i64 i)]/\L'=[]/\μ=cyc.length-i) (h_5 6 7 8 14 15) ⟨0,0,⟨ch _,Z,Z⟩,Z,Z,Z⟩ (fun fr C0' L0' m hle0 hI=>?_);obtain ⟨i,k,⟨hi,hall,hk⟩,rfl,rfl,rfl⟩:=hI;refine G.z6 1 6 7 8 14 15 16 ?_;refine G.cd (fun h16=>?_) fun h16=>?_
 ·have hil:i<cyc.length:=by simpa using h16
  have hkl:k<=i:=by
   rw [<- hk];exact LE (NT _ _) (by simp)
  refine G.z6 2 6 7 8 9 14 15 ?_;refine G.aG [0,1,2,3,4,5,6,7,8,9,10,11,12] [(2,1),(6,1),(10,1),(11,1)] Z kr_ (fun R hB hR=>?_);refine D.aa (PtrTo.block (Mem.get hb6 mup) _) ?_;refine D.ac ?_;refine D.aL (fun _=>(mK _ b2 b3 b5 pts cyc hO.m_ i)) ?_;refine D.aa (PtrTo.block (Mem.get hb6 mup) _) ?_;refine D.ac ?_;refine D.ar _ ?_;refine D.aL (fun _=>(mK _ b2 b3 b5 pts cyc hO.m_ (i+1))) ?_;refine D.aa (PtrTo.block (Mem.get hb6 mup) _) ?_;refine D.ac ?_;refine D.ar _ ?_;refine D.aL (fun _=>(mK _ b2 b3 b5 pts cyc hO.m_ (i+2))) ?_;refine D.ay (fun _=>(zR _ hT.m_ (ot pts cyc i) (ot pts cyc (i+1)) (ot pts cyc (i+2)) 1 dc_ dc_ (hP i) (hP (i+1)) (hP (i+2)))) U9 ?_;refine D.q7 1 6 7 8 9 14 15 30 hR ?_;refine G.cd (fun h30=>?_) fun h30=>?_
  ·have hno:sQ pts cyc i=false:=by
    rw [Aq] at h30;simpa [sQ] using h30
   refine G.z1 1 4 ?_;refine G.rf ?_;refine ⟨?_,Z⟩;have:(List.range cyc.length).all (sQ pts cyc)=false:=M9.2 ⟨i,Md.2 hil,by rw [hno];decide⟩;unfold EN;rw [this];rfl
  ·have hyes:sQ pts cyc i=true:=by
    rw [Aq] at h30;simpa [sQ] using h30
   have hall2:(List.range (i+1)).all (sQ pts cyc)=true:=by rw [MV,OM,hall];simp [hyes]
   refine G.rp 2 fun R hR=>?_;refine D.aj (F2 _ hT.m_ b2 b3 b5 b6 pts cyc hO.m_ (Mem.get hb6 mup) i om_) U7 fl_ ?_;refine D.ps 4 ?_;refine D.ar _ ?_;refine D.ay (fun _=>(F2 _ hT.m_ b2 b3 b5 b6 pts cyc hO.m_ (Mem.get hb6 mup) (i+1) om_)) U9 ?_;refine D.aw ?_;refine D.e6 6 7 8 14 15 40 hR ?_;refine G.cd (fun h40=>?_) fun h40=>?_
   ·have hf:Fa pts cyc i=true:=h40;refine G.rp 1 fun R hR=>?_;refine D.ar _ ?_;refine D.q5 1 6 7 8 14 15 hR ?_;refine G.rg fun R hR=>?_;refine D.ar _ ?_;refine D.q5 1 6 7 8 14 15 hR ?_;refine G.ax (m':=cyc.length-(i+1)) om_ hle0 (h_5 6 7 8 14 15) ⟨i+1,k+1,⟨by omega,hall2,by rw [MV,Od,eh,hk];simp [hf]⟩,Z,Z,Z⟩
   ·have hf:Fa pts cyc i=false:=h40;refine G.rg fun R hR=>?_;refine D.ar _ ?_;refine D.q5 1 6 7 8 14 15 hR ?_;refine G.ax (m':=cyc.length-(i+1)) om_ hle0 (h_5 6 7 8 14 15) ⟨i+1,k,⟨by omega,hall2,by rw [MV,Od,eh,hk];simp [hf]⟩,Z,Z,Z⟩
 ·have hil:i=cyc.length:=by
   have:¬ i<cyc.length:=by simpa using h16
   omega
  refine G.z1 3 4 ?_;refine G.rf ?_;refine ⟨?_,Z⟩;rw [hil] at hall hk;unfold EN;rw [hall,hk,NL];congr 1;rw [Mq,cH];simp;omega

/-! The sides of triangles, in order. -/
def od (t:Tri):List gB:=[mC t 0,mC t 1,mC t 2]
def cq (tris:List Tri):List gB:=tris.flatMap od
theorem vP (t:Tri){k:Nat}(hk:k<3):(od t)[k]?=some (mC t k):=by
 rcases (by omega:k=0∨k=1∨k=2) with rfl | rfl | rfl <;> rfl
theorem mN (m:IJ)(i:Nat)(t:Tri):∀ k,k<=3->(m.map (·.1)++(od t).take k).Nodup->(zy m i t k).map (·.1)=m.map (·.1)++(od t).take k
 | 0,_,_=>by simp [zy]
 | k+1,hk,hn=>by
  have h3:=vP t (show k<3 by omega);rw [xO,h3,LP,<- LN] at hn ⊢;have hn0:=(ME.1 hn);have ih:=mN m i t k om_ hn0.1;have hnone:dS (zy m i t k) (mC t k)=none:=by
   rw [dp,ih];intro h;exact hn0.2.2 _ h _ (by simp) Z
  rw [zy,lT hnone,LC,ih];rfl
theorem mA {tris:List Tri}{n:Nat}{t:Tri}(h:tris[n]?=some t):cq (tris.take (n+1))=cq (tris.take n)++od t:=by
 unfold cq;rw [xO,h,List.flatMap_append];simp
theorem oG {tris:List Tri}(h:(cq tris).Nodup)(n:Nat):(cq (tris.take n)).Nodup:=by
 have:cq tris=cq (tris.take n)++cq (tris.drop n):=by
  unfold cq;rw [<- List.flatMap_append,LQ]
 rw [this] at h;exact (ME.1 h).1
theorem fM {tris:List Tri}(h:(cq tris).Nodup):∀ n,n<=tris.length->(tV tris n).map (·.1)=cq (tris.take n)
 | 0,_=>by simp [tV,cq]
 | n+1,hn=>by
  have ht:tris[n]?=some tris[n]:=aq om_;have h1:=oG h (n+1);rw [mA ht] at h1 ⊢;have ih:=fM h n om_;rw [tV,aF,ht];show (zy (tV tris n) n tris[n] 3).map (·.1)=_;rw [mN _ _ _ 3 (aP _) (by rw [ih];exact h1),ih];rfl
theorem ym {tris:List Tri}(h:(cq tris).Nodup)(i:Nat)(t:Tri)(k:Nat)(ht:tris[i]?=some t)(hk:k<3):dS (zy (tV tris i) i t k) (mC t k)=none:=by
 have hi:=(aJ.1 ht).1;have h1:=oG h (i+1);rw [mA ht] at h1;have ih:=fM h i om_;have h3:=vP t hk;have h2:(cq (tris.take i)++(od t).take (k+1)).Nodup:=by
  refine List.Nodup.sublist (List.Sublist.append (List.Sublist.refl _) (List.take_sublist _ _)) h1
 rw [xO,h3,LP,<- LN] at h2;have h4:=ME.1 h2;rw [dp,mN _ _ _ k om_ (by rw [ih];exact h4.1),ih];intro h5;exact h4.2.2 _ h5 _ (by simp) Z
theorem rR {B:List gB}{first:Int}:∀ (k:Nat)(p:Int)(out r:List Int),gC B first k p out=some r->(∀ z∈out,z∈B.map (·.1))->∀ z∈r,z∈B.map (·.1)
 | 0,p,out,r,h,ho=>by simp only [gC,zl] at h;subst h;exact ho
 | k+1,p,out,r,h,ho=>by
  simp only [gC] at h;cases hq:dS B p with
  | none=>rw [hq] at h;cases h
  | some q =>
   rw [hq] at h;simp only at h;split at h
   ·cases h
   ·refine rR k q _ r h (fun z hz=>?_);rcases Lh.1 hz with hz | hz
    ·exact ho z hz
    ·rw [K5.1 hz];exact Nf (f:=(·.1)) (iz hq)
theorem rS {B:List gB}{first:Int}:∀ (k:Nat)(p:Int)(out r:List Int),gC B first k p out=some r->r.length=out.length+k
 | 0,p,out,r,h=>by simp only [gC,zl] at h;subst h;rfl
 | k+1,p,out,r,h=>by
  simp only [gC] at h;cases hq:dS B p with
  | none=>rw [hq] at h;cases h
  | some q =>
   rw [hq] at h;simp only at h;split at h
   ·cases h
   ·have:=rS k q _ r h;simp at this;omega
theorem wm {ks:List gB}:∀ z∈sE ks,z∈ks.map (·.1):=by
 intro z hz;unfold sE at hz;cases ho:zz ks with
 | none=>rw [ho] at hz;simp at hz
 | some r =>
  rw [ho] at hz;simp only [NG] at hz;unfold zz at ho;split at ho
  ·have:=rR _ _ _ _ ho (by simp) z hz;obtain ⟨s,hs,rfl⟩:=j5.1 this;exact Nf (f:=(·.1)) (N6.1 hs).1
  ·cases ho
theorem EH (ks:List gB):(sE ks).length<=ks.length:=by
 unfold sE;cases ho:zz ks with
 | none=>simp
 | some r =>
  unfold zz at ho;split at ho
  ·have:=rS _ _ _ _ ho;have h2:=NT (iO ks) ks;simp at this ⊢;omega
  ·cases ho
def ow (n:Nat)(t:Tri):Prop:=t.1<n/\t.2.1<n/\t.2.2<n
theorem Em {n:Nat}{t:Tri}(h:ow n t):∀ s∈od t,0<=s.1/\s.1.toNat<n:=by
 obtain ⟨h1,h2,h3⟩:=h;intro s hs;simp only [od,cI,L4,Nk] at hs;rcases hs with rfl | rfl | rfl <;> simp [mC,zU] <;> omega
theorem mB {n:Nat}{tris:List Tri}(h:∀ t∈tris,ow n t):∀ s∈cq tris,0<=s.1/\s.1.toNat<n:=by
 intro s hs;obtain ⟨t,ht,hs⟩:=List.mem_flatMap.1 hs;exact Em (h t ht) s hs
theorem oI (tris:List Tri):(cq tris).length=3*tris.length:=by
 induction tris with
 | nil=>rfl
 | cons t l ih =>
  have:cq (t::l)=od t++cq l:=rfl;rw [this,eh,ih];simp [od];omega
def fe (tris:List Tri):List Nat:=(sE (cq tris)).map Int.toNat
theorem zc {n:Nat}{tris:List Tri}(h:∀ t∈tris,ow n t):∀ z∈fe tris,z<n:=by
 intro z hz;obtain ⟨y,hy,rfl⟩:=j5.1 hz;obtain ⟨s,hs,rfl⟩:=j5.1 (wm y hy);exact (mB h s hs).2
theorem u7 {n:Nat}{tris:List Tri}(h:∀ t∈tris,ow n t):(sE (cq tris)).map dB=(fe tris).map dG:=by
 unfold fe;rw [Ns];refine List.map_congr_left (fun y hy=>?_);obtain ⟨s,hs,rfl⟩:=j5.1 (wm y hy);have:=(mB h s hs).1;show dB s.1=dG s.1.toNat;unfold dB dG;rw [Int.toNat_of_nonneg this]
/-! Sets of ints as maps. -/
def DX (ks:List Int):List (Int × Value):=ks.map fun z=>(z,.bool true)
def JU (ks:List Int)(z:Int):List Int:=if z∈ks then ks else ks++[z]
theorem Eq (ks:List Int):(DX ks).length=ks.length:=by simp [DX]
theorem sM:∀ {ks:List Int}{z:Int},fo (DX ks) z (.bool true)=DX (JU ks z)
 | [],z=>by simp [DX,fo,JU]
 | k::ks,z=>by
  have ih:=sM (ks:=ks) (z:=z);unfold DX at ih ⊢;simp only [Li,fo];by_cases e:k=z
  ·subst e;simp [JU]
  ·have e2:¬ z=k:=fun h=>e h.symm;rw [a7 e,ih];unfold JU;by_cases h:z∈ks
   ·simp [h]
   ·simp [h,e2]
def GS (ks:List Int)(t:Tri):Nat->List Int
 | 0=>ks
 | k+1=>JU (GS ks t k) (zU t k)
def rX (tris:List Tri):Nat->List Int
 | 0=>[]
 | n+1=>GS (rX tris n) (tris.getD n (0,0,0)) 3
theorem CD (t:Tri){k:Nat}(hk:k<3):(lE t)[k]?=some (.int .i64 (zU t k)):=by
 rcases (by omega:k=0∨k=1∨k=2) with rfl | rfl | rfl <;> rfl
theorem zb {tris:List Tri}(h:decide (sE (cq tris)≠[])=true):0<(fe tris).length:=by
 unfold fe;rw [aH];exact K6.2 (bi h)
theorem Dh (tris:List Tri):decide (sE (cq tris)≠[])=decide (fe tris≠[]):=by
 rw [Lj];unfold fe;simp
def lf (pts:List Pt)(tris:List Tri):Bool:=decide (fe tris≠[]) && (decide ((rX tris tris.length).length=pts.length) && EN pts (fe tris))
theorem pS (C:Mem)(hT:Tabs C)(v1 v2:Value)(pts:List Pt)(tris:List Tri)(h0:tris≠[])(h1:Sl C 2 v1 (pts.map kR))(h2:Sl C 3 v2 (tris.map lE))(hs:(cq tris).Nodup)(hin:∀ t∈tris,ow pts.length t)(hq:∀ p∈pts,QP 1 p)(hl:tris.length<=10000) :
  Gives cx.P 57 [.agg ⟨[v1,v2]⟩] C (.bool (lf pts tris)):=by
 obtain ⟨A1,c1,rfl,hq1,hq2,_⟩:=id h1;obtain ⟨A2,c2,rfl,hq3,hq4,_⟩:=id h2;have hmx:maxLen<=9223372036854775807:=by simp [maxLen]
 simp only [aH] at h1 h2 hq1 hq3 ⊢;refine Fn.it kr_ Tryz.func57 55 fun w0=>?_;refine G.rg fun R hR=>?_;refine D.aD (fun b1=>?_);refine D.q1 1 1 hR ?_;refine G.freeze 0 Z (fun _ hle1 hb1=>?_);refine G.rg fun R hR=>?_;refine D.aa (PtrTo.block (Mem.get hb1 mup) _) ?_;refine D.az (Bi _ _ _ tris h0 h2.m_ (ym hs)) (fun v14 _ _ hq14=>?_);obtain ⟨bo,rfl,hbo⟩:=hq14;refine D.q3 5 1 3 4 hR ?_;refine G.z3 2 1 3 18 ?_;refine G.cd (fun h18=>?_) fun h18=>?_
 ·exact absurd h18 dc_
 ·refine G.rg fun R hR=>?_;refine D.makeMap keyZ Z Z Z Z fl_ (fun b19=>?_);refine D.q3 1 1 3 5 hR ?_;refine G.rp 1 fun R hR=>?_;refine D.aa (PtrTo.block (Mem.get hb1 mup) _) ?_;refine D.q6 2 1 3 5 21 22 23 hR ?_;refine G.loop (fun fr C' L' μ=>∃ (i:Nat),(i<=tris.length)/\fr=[(1,[],.pointer (some ⟨b1,0,none⟩)),(3,[],.map (some bo)),(5,[],.map (some b19)),(21,[],.slice A2 tris.length c2),(22,[],.int .i64 tris.length),(23,[],.int .i64 i)]/\L'=[.obj b19 (bf keyZ.enc (DX (rX tris i)))]/\μ=tris.length-i) (h_6 1 3 5 21 22 23) ⟨0,ch _,Z,Z,Z⟩ (fun fr C0' L0' m _ hI=>?_);obtain ⟨i,hi,rfl,rfl,rfl⟩:=hI;refine G.z7 1 1 3 5 21 22 23 24 ?_;refine G.cd (fun h24=>?_) fun h24=>?_
  ·have hil:i<tris.length:=by simpa using h24
   obtain ⟨t,ht⟩:∃ t,tris[i]?=some t:=⟨tris[i],aq hil⟩;refine G.rg fun R hR=>?_;refine D.ak h2.m_ U10 om_ (by rw [bX,ht];rfl:(tris.map lE)[i]?=some (lE t)) fl_ (fun p25 hp25=>?_);refine D.aa hp25 ?_;refine D.ai (fun b7=>?_);refine D.ae (j:=0) ?_;refine D.e7 1 3 5 7 21 22 23 hR ?_;refine G.rg fun R hR=>?_;refine D.af (.head _) ?_;refine D.q8 1 1 3 5 21 22 23 27 28 hR ?_;refine G.eF 0 Z ?_;refine G.loop (fun fr C' L' μ=>∃ (j:Nat),(j<=3)/\fr=[(1,[],.pointer (some ⟨b1,0,none⟩)),(3,[],.map (some bo)),(5,[],.map (some b19)),(21,[],.slice A2 tris.length c2),(22,[],.int .i64 tris.length),(23,[],.int .i64 i),(27,[],.agg ⟨lE t⟩),(28,[],.int .i64 j)]/\L'=[.obj b19 (bf keyZ.enc (DX (GS (rX tris i) t j)))]/\μ=3-j) (h_8 1 3 5 21 22 23 27 28) ⟨0,ch _,Z,Z,Z⟩ (fun fr C1' L1' m hle1 hI=>?_);obtain ⟨j,hj,rfl,rfl,rfl⟩:=hI;refine G.z9 1 1 3 5 21 22 23 27 28 29 ?_;refine G.cd (fun h29=>?_) fun h29=>?_
   ·have hjl:j<3:=by
     simp only [cH] at h29;omega
    refine G.rg fun R hR=>?_;refine D.dO U11 (fun _=>⟨by omega,by omega,CD t hjl⟩) U2 ?_;refine D.q9 1 1 3 5 9 21 22 23 27 28 hR ?_;refine G.rp 2 fun R hR=>?_;refine D.mapUpdate keyZ (j:=0) Z Z Z Z Z Z Z Z Z Z kr_ ?_;refine D.e8 1 3 5 21 22 23 27 28 hR ?_;refine G.rg fun R hR=>?_;refine D.ar _ ?_;refine D.q8 1 1 3 5 21 22 23 27 28 hR ?_;rw [sM];refine G.ax (m':=3-(j+1)) om_ hle1 (h_8 1 3 5 21 22 23 27 28) ⟨j+1,om_,Z,Z,Z⟩
   ·have hjl:j=3:=by
     simp only [Lc] at h29;omega
    subst hjl;refine G.rg fun R hR=>?_;refine D.ar _ ?_;refine D.q6 1 1 3 5 21 22 23 hR ?_;refine G.be (L':=[.obj b19 (bf keyZ.enc (DX (rX tris (i+1))))]) (by rw [rX,aF,ht];rfl) ?_;refine G.ax (m':=tris.length-(i+1)) om_ mup (h_6 1 3 5 21 22 23) ⟨i+1,om_,Z,Z,Z⟩
  ·have hil:i=tris.length:=by
    have:¬ i<tris.length:=by simpa using h24
    omega
   subst hil;refine G.rg fun R hR=>?_;refine D.aa (PtrTo.block (Mem.get hb1 mup) _) ?_;refine D.ac ?_;refine D.au (EF _ _ _ bo (tV tris tris.length) (Mem.get hbo mup) (by rw [fM hs _ (aP _),cK];exact hs) (by rw [fM hs _ (aP _),cK];exact fun s hh=>(mB hin s hh).1) (by have:=congrArg List.length (fM hs _ (aP _));rw [cK,oI,aH] at this;omega)) U7 fl_ (fun v38 _ _ hq38=>?_);rw [fM hs _ (aP _),cK] at hq38;obtain ⟨bv,rfl,hbv⟩:=hq38;rw [u7 hin] at hbv;refine D.q4 5 1 5 10 11 hR ?_;refine G.aY [(3,1)] Z (fun R hR=>?_);refine D.ps 3 ?_;refine D.tQ keyZ.enc (.head _) Z Z Z Z Z Z Z Z Z ?_;refine D.ac ?_;refine D.aN U6 (fun _=>PtrTo.block (Mem.get hb1 mup) _) U3 ?_;refine D.ps 2 ?_;refine D.aw ?_;refine D.ac ?_;refine D.aN U6 (fun _=>PtrTo.block (Mem.get hb1 mup) _) U3 ?_;refine D.ac ?_;refine D.ay (fun hg=>(Hg _ hT.m_ _ _ bv pts (fe tris) h1.m_ hbv.m_ (by exact zb (OK.1 (show (decide (sE (cq tris)≠[]) && _)=true/\True from hg).1).1) (zc hin) hq (by have:=EH (cq tris);rw [oI] at this;unfold fe;rw [aH];omega))) U9 ?_;refine D.aw ?_;refine D.q1 1 2 hR ?_;refine G.rf ?_;refine ⟨?_,Z⟩;have hl:(((DX (rX tris tris.length)).length:Int) == (pts.length:Int))=decide ((rX tris tris.length).length=pts.length):=by
    rw [Eq,Mq,Lg,cH];omega
   unfold lf;rw [<- Dh,<- hl,<- Bool.and_assoc]

noncomputable def kP2:KeyP cx.P 97 (Str × Str):=KB rfl rfl rfl dc_ dc_ rfl rfl kr_
def ptK (p:Pt):Str × Str:=(qtx p.1,qtx p.2)
theorem Ha {p q:Pt}(h:ptK p=ptK q):p=q:=by
 have h1:=wc (congrArg (·.1) h);have h2:=wc (congrArg (·.2) h);exact Prod.ext h1 h2
def ES (l:List Pt):List ((Str × Str) × Value):=l.map fun p=>(ptK p,.bool true)
theorem wD {l:List Pt}{p:Pt}(h:p ∉ l):dS (ES l) (ptK p)=none:=by
 rw [dp];unfold ES;rw [Ns];intro hm;obtain ⟨q,hq,he⟩:=j5.1 hm;exact h (Ha he ▸ hq)
theorem Hs {l:List Pt}{p:Pt}(h:p ∉ l):fo (ES l) (ptK p) (.bool true)=ES (l++[p]):=by
 rw [lT (wD h)];simp [ES]
def lY (n:Nat)(X:Nat->Nat->Bool):Bool:=(List.range n).any fun i=>(List.range i).any fun k=>X i k
def uw (pts:List Pt)(tris:List Tri)(X:Nat->Nat->Bool):Int:=if tris=[] then 13 else if lf pts tris then 0 else if lY tris.length X then 26 else 25
structure MeshOk (pts:List Pt)(tris:List Tri):Prop where
 q:∀ p∈pts,QP 1 p
 nd:pts.Nodup
 ins:∀ t∈tris,ow pts.length t
 pos:∀ t∈tris,0<eE (pts.getD t.1 (0,0)) (pts.getD t.2.1 (0,0)) (pts.getD t.2.2 (0,0))
 sides:(cq tris).Nodup
 lt:tris.length<=800
 lp:pts.length<=400
theorem AZ {pts:List Pt}{i:Nat}(h:i<pts.length):pts[i]?=some (pts.getD i (0,0)):=by
 rw [aF,aq h];rfl
theorem we {pts:List Pt}{i:Nat}(h:i<pts.length):pts.getD i (0,0)∈pts:=ba (AZ h)
def fU (t:Tri)(j:Nat):Nat:=if j=0 then t.1 else if j=1 then t.2.1 else t.2.2
theorem I0 (t:Tri)(j:Nat):zU t j=(fU t j:Nat):=by
 unfold zU fU;split
 ·rfl
 ·split <;> rfl
theorem GW {n:Nat}{t:Tri}(h:ow n t)(j:Nat):fU t j<n:=by
 obtain ⟨h1,h2,h3⟩:=h;unfold fU;split
 ·exact h1
 ·split <;> assumption
theorem F7 (q:Rat):decide (fg q.num<=0)=!decide (0<q):=by
 have h1:=Ez q;have h2:q.num=0 ↔ q=0:=M5;rw [<- decide_not,Lj];have h3:¬ 0<q ↔ (q<0∨q=0):=by grind
 rw [h3,<- h1,<- h2];rcases eM q.num with h | h | h <;> omega
theorem Bz (C:Mem)(hT:Tabs C)(v1 v2:Value)(pts:List Pt)(tris:List Tri)(X:Nat->Nat->Bool)(h1:Sl C 2 v1 (pts.map kR))(h2:Sl C 3 v2 (tris.map lE))(hM:MeshOk pts tris)
  (hX:tris≠[]->lf pts tris=false->∀ D:Mem,C.le D->∀ i k:Nat,i<tris.length->k<i->Gives cx.P 58 [.agg ⟨[v1,v2]⟩,.int .i64 i,.int .i64 k] D (.bool (X i k))) :
  Gives cx.P 20 [.agg ⟨[v1,v2]⟩] C (.int .i64 (uw pts tris X)):=by
 obtain ⟨A1,c1,rfl,hq1,hq2,_⟩:=id h1;obtain ⟨A2,c2,rfl,hq3,hq4,_⟩:=id h2;have hmx:maxLen<=9223372036854775807:=by simp [maxLen]
 have hlt:=hM.lt;have hlp:=hM.lp;simp only [aH] at h1 h2 hq1 hq3 hX ⊢;refine Fn.it kr_ Tryz.func20 105 fun w0=>?_;refine G.rg fun R hR=>?_;refine D.aD (fun b1=>?_);refine D.q1 1 1 hR ?_;refine G.freeze 0 Z (fun _ _ hb1=>?_);refine G.rp 1 fun R hR=>?_;refine D.aa (PtrTo.block (Mem.get hb1 mup) _) ?_;refine D.q2 3 1 12 hR ?_;refine G.cd (fun h12=>?_) fun h12=>?_
 ·have h0:tris=[]:=by
   have h:((tris.length:Nat):Int)=0:=by simpa using h12
   exact LL om_
  refine G.z1 1 2 ?_;refine G.rf ?_;exact ⟨by unfold uw;rw [bW h0],Z⟩
 ·have h0:tris≠[]:=by
   intro e;rw [e] at h12;exact absurd h12 dc_
  refine G.rp 1 fun R hR=>?_;refine D.aa (PtrTo.block (Mem.get hb1 mup) _) ?_;refine D.ps 4 ?_;refine D.aN U6 (fun _=>PtrTo.block (Mem.get hb1 mup) _) U3 ?_;refine D.ps 2 ?_;refine D.aI ?_;refine D.q2 1 1 17 hR ?_;refine G.cd (fun h17=>?_) fun h17=>?_
  ·exfalso;simp only [Mp,cH] at h17;omega
  ·refine G.rg fun R hR=>?_;refine D.pM kP2 Z Z Z Z fl_ (fun b28=>?_);refine D.q2 1 1 3 hR ?_;refine G.rp 1 fun R hR=>?_;refine D.aa (PtrTo.block (Mem.get hb1 mup) _) ?_;refine D.q5 2 1 3 30 31 32 hR ?_;refine G.loop (fun fr C' L' μ=>∃ (i:Nat),(i<=pts.length)/\fr=[(1,[],.pointer (some ⟨b1,0,none⟩)),(3,[],.map (some b28)),(30,[],.slice A1 pts.length c1),(31,[],.int .i64 pts.length),(32,[],.int .i64 i)]/\L'=[.obj b28 (bf yM (ES (pts.take i)))]/\μ=pts.length-i) (h_5 1 3 30 31 32) ⟨0,ch _,Z,Z,Z⟩ (fun fr C0' L0' m _ hI=>?_);obtain ⟨i,hi,rfl,rfl,rfl⟩:=hI;refine G.z6 1 1 3 30 31 32 33 ?_;refine G.cd (fun h33=>?_) fun h33=>?_
   ·have hil:i<pts.length:=by simpa using h33
    obtain ⟨p,hp⟩:∃ p,pts[i]?=some p:=⟨pts[i],aq hil⟩;have hpq:=hM.q p (ba hp);have hnew:p ∉ pts.take i:=by
     intro hm;obtain ⟨j,hj⟩:=Ma hm;rw [Ly] at hj;split at hj
     ·rename_i hji;have h3:=(aJ.1 hj);have h4:=(aJ.1 hp);have:=(List.getElem_inj hM.nd).1 (h3.2.trans h4.2.symm);omega
     ·cases hj
    have hone:ES (pts.take (i+1))=ES (pts.take i++[p]):=by rw [xO,hp];rfl
    refine G.rg fun R hR=>?_;refine D.ak h1.m_ U10 om_ (by rw [bX,hp];rfl:(pts.map kR)[i]?=some (kR p)) fl_ (fun p34 hp34=>?_);refine D.aa hp34 ?_;refine D.ai (fun b5=>?_);refine D.ae (j:=0) ?_;refine D.e6 1 3 5 30 31 32 hR ?_;refine G.rg fun R hR=>?_;refine D.af (.head _) ?_;refine D.aj (ro _ hT.m_ (qtx p.1) (qtx p.2) (by have:=cC hpq.1 dc_;omega) (by have:=cC hpq.2 dc_;omega)) U7 fl_ ?_;refine D.q7 1 1 3 5 30 31 32 38 hR ?_;refine G.cd (fun h38=>?_) fun h38=>?_
    ·exfalso;rw [dC (hpq.1.le dc_),dC (hpq.2.le dc_)] at h38;exact absurd h38 dc_
    ·refine G.rp 1 fun R hR=>?_;refine D.af (.head _) ?_;refine D.pN kP2 (.tail _ (.head _)) Z Z Z Z Z Z Z Z Z (congrArg (iM (.bool false) false) (wD hnew)) Z Z ?_;refine D.e7 1 3 5 30 31 32 41 hR ?_;refine G.cd (fun h41=>?_) fun h41=>?_
     ·exact absurd h41 dc_
     ·refine G.rp 1 fun R hR=>?_;refine D.af (.head _) ?_;refine D.lB kP2 (j:=1) (key:=ptK p) Z Z Z Z Z Z Z Z Z Z ?_;refine D.e5 1 3 30 31 32 hR ?_;refine G.rg fun R hR=>?_;refine D.ar _ ?_;refine D.q5 1 1 3 30 31 32 hR ?_;refine G.eF 1 Z ?_;refine G.be (L':=[.obj b28 (bf yM (ES (pts.take (i+1))))]) (by rw [hone,<- Hs hnew];rfl) ?_;refine G.ax (m':=pts.length-(i+1)) om_ mup (h_5 1 3 30 31 32) ⟨i+1,om_,Z,Z,Z⟩
   ·refine G.rp 1 fun R hR=>?_;refine D.aa (PtrTo.block (Mem.get hb1 mup) _) ?_;refine D.q4 2 1 46 47 48 hR ?_;refine G.dropAll ?_;refine G.loop (fun fr C' L' μ=>∃ (i:Nat),(i<=tris.length)/\fr=[(1,[],.pointer (some ⟨b1,0,none⟩)),(46,[],.slice A2 tris.length c2),(47,[],.int .i64 tris.length),(48,[],.int .i64 i)]/\L'=[]/\μ=tris.length-i) (h_4 1 46 47 48) ⟨0,ch _,Z,Z,Z⟩ (fun fr C1' L1' m _ hI=>?_);obtain ⟨i,hi,rfl,rfl,rfl⟩:=hI;refine G.z5 1 1 46 47 48 49 ?_;refine G.cd (fun h49=>?_) fun h49=>?_
    ·have hil:i<tris.length:=by simpa using h49
     obtain ⟨t,ht⟩:∃ t,tris[i]?=some t:=⟨tris[i],aq hil⟩;have htm:=ba ht;have hti:=hM.ins t htm;have hpos:=hM.pos t htm;refine G.rg fun R hR=>?_;refine D.ak h2.m_ U10 om_ (by rw [bX,ht];rfl:(tris.map lE)[i]?=some (lE t)) fl_ (fun p50 hp50=>?_);refine D.aa hp50 ?_;refine D.ai (fun b7=>?_);refine D.ae (j:=0) ?_;refine D.e5 1 7 46 47 48 hR ?_;refine G.rg fun R hR=>?_;refine D.af (.head _) ?_;refine D.q7 1 1 7 46 47 48 52 53 hR ?_;refine G.loop (fun fr C' L' μ=>∃ (j:Nat),(j<=3)/\fr=[(1,[],.pointer (some ⟨b1,0,none⟩)),(7,[],.pointer (some ⟨b7,0,none⟩)),(46,[],.slice A2 tris.length c2),(47,[],.int .i64 tris.length),(48,[],.int .i64 i),(52,[],.agg ⟨lE t⟩),(53,[],.int .i64 j)]/\L'=[.obj b7 (.cells ⟨lE t⟩ 178 (0,0))]/\μ=3-j) (h_7 1 7 46 47 48 52 53) ⟨0,ch _,Z,Z,Z⟩ (fun fr C2' L2' m hle2 hI=>?_);obtain ⟨j,hj,rfl,rfl,rfl⟩:=hI;refine G.z8 1 1 7 46 47 48 52 53 54 ?_;refine G.cd (fun h54=>?_) fun h54=>?_
     ·have hjl:j<3:=by
       simp only [cH] at h54;omega
      have hin:=GW hti j;refine G.rg fun R hR=>?_;refine D.dO U11 (fun _=>⟨by omega,by omega,(show (lE t)[((j:Nat):Int).toNat]?=some (.int .i64 ((fU t j:Nat):Int)) from by rw [<- I0];exact CD t hjl)⟩) U2 ?_;refine D.q8 1 1 7 9 46 47 48 52 53 hR ?_;refine G.rp 5 fun R hR=>?_;refine D.aN U6 (fun _=>PtrTo.block (Mem.get hb1 mup) _) U3 ?_;refine D.ps 2 ?_;refine D.aI ?_;refine D.e8 1 7 46 47 48 52 53 64 hR ?_;refine G.cd (fun h64=>?_) fun h64=>?_
      ·exfalso;simp only [Mp,cH] at h64;omega
      ·refine G.rg fun R hR=>?_;refine D.ar _ ?_;refine D.q7 1 1 7 46 47 48 52 53 hR ?_;refine G.ax (m':=3-(j+1)) om_ hle2 (h_7 1 7 46 47 48 52 53) ⟨j+1,om_,Z,Z,Z⟩
     ·clear h54;refine G.aG [0,1,2,3,4,5,6,7,8,9,10,11,12,13,14,15,16,17,18,19] [(18,1)] Z kr_ (fun R hB hR=>?_);refine D.ac ?_;refine D.aa (PtrTo.block (Mem.get hb1 mup) _) ?_;refine D.aE (0) U9 (fun _=>⟨by decide,by decide,Z⟩) U2 ?_;refine D.af (.head _) ?_;refine D.ak h1.m_ U10 om_ (by rw [bX,show (((t.1:Nat):Int)).toNat=t.1 from Z,AZ hti.1];rfl:(pts.map kR)[(((t.1:Nat):Int)).toNat]?=some (kR (pts.getD t.1 (0,0)))) fl_ (fun p70 hp70=>?_);refine D.aa hp70 ?_;refine D.ac ?_;refine D.aa (PtrTo.block (Mem.get hb1 mup) _) ?_;refine D.aE (1) U9 (fun _=>⟨by decide,by decide,Z⟩) U2 ?_;refine D.af (.head _) ?_;refine D.ak h1.m_ U10 om_ (by rw [bX,show (((t.2.1:Nat):Int)).toNat=t.2.1 from Z,AZ hti.2.1];rfl:(pts.map kR)[(((t.2.1:Nat):Int)).toNat]?=some (kR (pts.getD t.2.1 (0,0)))) fl_ (fun p76 hp76=>?_);refine D.aa hp76 ?_;refine D.ac ?_;refine D.aa (PtrTo.block (Mem.get hb1 mup) _) ?_;refine D.aE (2) U9 (fun _=>⟨by decide,by decide,Z⟩) U2 ?_;refine D.af (.head _) ?_;refine D.ak h1.m_ U10 om_ (by rw [bX,show (((t.2.2:Nat):Int)).toNat=t.2.2 from Z,AZ hti.2.2];rfl:(pts.map kR)[(((t.2.2:Nat):Int)).toNat]?=some (kR (pts.getD t.2.2 (0,0)))) fl_ (fun p82 hp82=>?_);refine D.aa hp82 ?_;refine D.ay (fun _=>(zR _ hT.m_ (pts.getD t.1 (0,0)) (pts.getD t.2.1 (0,0)) (pts.getD t.2.2 (0,0)) 1 dc_ dc_ (hM.q _ (we hti.1)) (hM.q _ (we hti.2.1)) (hM.q _ (we hti.2.2)))) U9 ?_;refine D.q5 1 1 46 47 48 85 hR ?_;refine G.cd (fun h85=>?_) fun h85=>?_
      ·exfalso;rw [F7,j9 hpos] at h85;exact absurd h85 dc_
      ·refine G.rg fun R hR=>?_;refine D.ar _ ?_;refine D.q4 1 1 46 47 48 hR ?_;refine G.dropAll ?_;refine G.ax (m':=tris.length-(i+1)) om_ mup (h_4 1 46 47 48) ⟨i+1,om_,Z,Z,Z⟩
    ·clear h49;refine G.rg fun R hR=>?_;refine D.aa (PtrTo.block (Mem.get hb1 mup) _) ?_;refine D.aj (pS _ hT.m_ _ _ pts tris h0 h1.m_ h2.m_ hM.sides hM.ins hM.q om_) U7 fl_ ?_;refine D.e2 1 88 hR ?_;refine G.cd (fun h88=>?_) fun h88=>?_
     ·have hw:lf pts tris=true:=h88;refine G.z1 1 2 ?_;refine G.rf ?_;exact ⟨by unfold uw;rw [a7 h0,bW hw],Z⟩
     ·have hw:lf pts tris=false:=h88;refine G.rp 1 fun R hR=>?_;refine D.aa (PtrTo.block (Mem.get hb1 mup) _) ?_;refine D.q3 2 1 91 92 hR ?_;refine G.loop (fun fr C' L' μ=>∃ (i:Nat),(i<=tris.length/\lY i X=false)/\fr=[(1,[],.pointer (some ⟨b1,0,none⟩)),(91,[],.int .i64 tris.length),(92,[],.int .i64 i)]/\L'=[]/\μ=tris.length-i) (h_3 1 91 92) ⟨0,⟨ch _,Z⟩,Z,Z,Z⟩ (fun fr C3' L3' m _ hI=>?_);obtain ⟨i,⟨hi3,hno⟩,rfl,rfl,rfl⟩:=hI;refine G.z4 1 1 91 92 93 ?_;refine G.cd (fun h93=>?_) fun h93=>?_
      ·have hil:i<tris.length:=by simpa using h93
       refine G.z4 2 1 10 91 92 ?_;refine G.z6 2 1 10 91 92 95 96 ?_;refine G.loop (fun fr C' L' μ=>∃ (k:Nat),(k<=i/\(List.range k).any (fun k=>X i k)=false)/\fr=[(1,[],.pointer (some ⟨b1,0,none⟩)),(10,[],.int .i64 i),(91,[],.int .i64 tris.length),(92,[],.int .i64 i),(95,[],.int .i64 i),(96,[],.int .i64 k)]/\L'=[]/\μ=i-k) (h_6 1 10 91 92 95 96) ⟨0,⟨ch _,Z⟩,Z,Z,Z⟩ (fun fr C4' L4' m hle4 hI=>?_);obtain ⟨k,⟨hk4,hno4⟩,rfl,rfl,rfl⟩:=hI;refine G.z7 1 1 10 91 92 95 96 97 ?_;refine G.cd (fun h97=>?_) fun h97=>?_
       ·have hki:k<i:=by simpa using h97
        refine G.z7 2 1 10 11 91 92 95 96 ?_;refine G.rg fun R hR=>?_;refine D.aa (PtrTo.block (Mem.get hb1 mup) _) ?_;refine D.ps 2 ?_;refine D.ag (hX h0 hw _ mup i k hil hki) ?_;refine D.e7 1 10 91 92 95 96 102 hR ?_;refine G.cd (fun h102=>?_) fun h102=>?_
        ·have hyes:X i k=true:=h102;have hc:lY tris.length X=true:=Nh.2 ⟨i,Md.2 hil,Nh.2 ⟨k,Md.2 hki,hyes⟩⟩;refine G.z1 1 2 ?_;refine G.rf ?_;exact ⟨by unfold uw;rw [a7 h0,hw,a7 dc_,bW hc],Z⟩
        ·have hno5:X i k=false:=h102;refine G.rg fun R hR=>?_;refine D.ar _ ?_;refine D.q6 1 1 10 91 92 95 96 hR ?_;refine G.ax (m':=i-(k+1)) om_ hle4 (h_6 1 10 91 92 95 96) ⟨k+1,⟨by omega,by rw [MV,List.any_append,hno4];simp [hno5]⟩,Z,Z,Z⟩
       ·have hki:k=i:=by
         have:¬ k<i:=by simpa using h97
         omega
        subst hki;refine G.rg fun R hR=>?_;refine D.ar _ ?_;refine D.q3 1 1 91 92 hR ?_;refine G.ax (m':=tris.length-(k+1)) om_ mup (h_3 1 91 92) ⟨k+1,⟨by omega,by unfold lY at hno ⊢;rw [MV,List.any_append,hno];simp [hno4]⟩,Z,Z,Z⟩
      ·have hil:i=tris.length:=by
        have:¬ i<tris.length:=by simpa using h93
        omega
       refine G.z1 1 2 ?_;refine G.rf ?_;refine ⟨?_,Z⟩;rw [hil] at hno;unfold uw;rw [a7 h0,hw,a7 dc_,hno];rfl

structure Good (pts:List Pt)(tris:List Tri):Prop where
 ok:MeshOk pts tris
 ne:tris≠[]
 whole:lf pts tris=true
structure MeshIn (C:Mem)(mv:Value)(pts:List Pt)(tris:List Tri):Prop where
 ex:∃ v1 v2,mv=.agg ⟨[v1,v2]⟩/\Sl C 2 v1 (pts.map kR)/\Sl C 3 v2 (tris.map lE)
theorem MeshIn.mono {C D:Mem}{mv:Value}{pts:List Pt}{tris:List Tri}(h:MeshIn C mv pts tris)(hl:C.le D):MeshIn D mv pts tris:=by
 obtain ⟨v1,v2,h1,h2,h3⟩:=h.ex;exact ⟨v1,v2,h1,h2.mono hl,h3.mono hl⟩
theorem MeshIn.m_ {C D:Mem}{mv:Value}{pts:List Pt}{tris:List Tri}(h:MeshIn C mv pts tris)(hl:C.le D:=by exact mup):MeshIn D mv pts tris:=MeshIn.mono h hl
def nox:Nat->Nat->Bool:=fun _ _=>false
theorem fQ (C:Mem)(hT:Tabs C)(mv:Value)(pts:List Pt)(tris:List Tri)(hm:MeshIn C mv pts tris)(hG:Good pts tris):Gives cx.P 20 [mv] C (.int .i64 0):=by
 obtain ⟨v1,v2,rfl,h1,h2⟩:=hm.ex;have h:=Bz C hT v1 v2 pts tris nox h1 h2 hG.ok (fun _ h3=>by rw [hG.whole] at h3;cases h3);have e:uw pts tris nox=0:=by unfold uw;rw [a7 hG.ne,bW hG.whole]
 rwa [e] at h
def cor (pts:List Pt)(t:Tri)(j:Nat):Pt:=pts.getD (fU t j) (0,0)
def KD (pts:List Pt)(p:Pt)(t:Tri):Bool:=decide (0<=eE (cor pts t 0) (cor pts t 1) p) && decide (0<=eE (cor pts t 1) (cor pts t 2) p) && decide (0<=eE (cor pts t 2) (cor pts t 0) p)
def KA (pts:List Pt)(tris:List Tri)(p:Pt):List Nat:=(List.range tris.length).filter fun i=>KD pts p (tris.getD i (0,0,0))

theorem bg {α:Type}{f:α->List Value}{l:List α}{i:Nat}{x:α}(h:l[i]?=some x):(l.map f)[i]?=some (f x):=by rw [bX,h];rfl
def HJ (n:Nat)(l:List Str):Int:=if l.length=n then w7 (l.all cQ) else 5
theorem CZ (C:Mem)(hT:Tabs C)(mv v fv:Value)(pts:List Pt)(tris:List Tri)(l:List Str)(hm:MeshIn C mv pts tris)(hG:Good pts tris)(hv:Sl C 1 v [[fv]])(hf:Sl C 1 fv (l.map bN))(hl:∀ s∈l,s.length<=999998) :
  Gives cx.P 294 [mv,v] C (.int .i64 (HJ pts.length l)):=by
 have hm0:=hm;have hlp:=hG.ok.lp;obtain ⟨v1,v2,rfl,h1,h2⟩:=id hm.ex;obtain ⟨A1,c1,rfl,hq1,hq2,_⟩:=id h1;obtain ⟨A3,c3,rfl,hq3,hq4,_⟩:=id hv;obtain ⟨A4,c4,rfl,hq5,hq6,_⟩:=id hf;have hmx:maxLen<=9223372036854775807:=by simp [maxLen]
 simp only [aH,bz] at h1 hv hf hm0 hq5 ⊢;refine Fn.it kr_ Tryz.func294 41 fun w0=>?_;refine G.rg fun R hR=>?_;refine D.aD (fun b2=>?_);refine D.q2 1 1 2 hR ?_;refine G.freeze 0 Z (fun _ _ hb2=>?_);refine G.rg fun R hR=>?_;refine D.aa (PtrTo.block (Mem.get hb2 mup) _) ?_;refine D.ag (fQ _ hT.m_ _ pts tris hm0.m_ hG) ?_;refine D.q3 1 1 2 5 hR ?_;refine G.z4 2 1 2 5 14 ?_;refine G.cd (fun h14=>?_) fun h14=>?_
 ·exact absurd h14 dc_
 ·refine G.z4 3 2 16 17 18 ?_;refine G.loop (fun fr C' L' μ=>∃ (i:Nat),(i<=1/\(i=1->l.length=pts.length/\l.all cQ=true))/\fr=[(2,[],.pointer (some ⟨b2,0,none⟩)),(16,[],.slice A3 1 c3),(17,[],.int .i64 1),(18,[],.int .i64 i)]/\L'=[]/\μ=1-i) (h_4 2 16 17 18) ⟨0,⟨ch _,fun h=>absurd h dc_⟩,Z,Z,Z⟩ (fun fr C0' L0' m _ hI=>?_);obtain ⟨i,⟨hi,hall⟩,rfl,rfl,rfl⟩:=hI;refine G.z5 1 2 16 17 18 19 ?_;refine G.cd (fun h19=>?_) fun h19=>?_
  ·obtain rfl:i=0:=by
    simp only [cH] at h19;omega
   refine G.rg fun R hR=>?_;refine D.ak hv.m_ U10 om_ (rfl:([[.slice A4 l.length c4]]:List (List Value))[0]?=some [.slice A4 l.length c4]) fl_ (fun p20 hp20=>?_);refine D.aa hp20 ?_;refine D.q5 1 2 7 16 17 18 hR ?_;refine G.rp 3 fun R hR=>?_;refine D.aa (PtrTo.block (Mem.get hb2 mup) _) ?_;refine D.q6 2 2 7 16 17 18 27 hR ?_;refine G.cd (fun h27=>?_) fun h27=>?_
   ·have hne:l.length≠pts.length:=by
     intro e;rw [e] at h27;simp at h27
    refine G.z1 1 4 ?_;refine G.rf ?_;exact ⟨by unfold HJ;rw [a7 hne],Z⟩
   ·have hlen:l.length=pts.length:=by
     have h:((l.length:Nat):Int)=(pts.length:Nat):=by simpa using h27
     omega
    refine G.z7 3 2 16 17 18 28 29 30 ?_;refine G.loop (fun fr C' L' μ=>∃ (j:Nat),(j<=l.length/\(l.take j).all cQ=true)/\fr=[(2,[],.pointer (some ⟨b2,0,none⟩)),(16,[],.slice A3 1 c3),(17,[],.int .i64 1),(18,[],.int .i64 0),(28,[],.slice A4 l.length c4),(29,[],.int .i64 l.length),(30,[],.int .i64 j)]/\L'=[]/\μ=l.length-j) (h_7 2 16 17 18 28 29 30) ⟨0,⟨ch _,by simp⟩,Z,Z,Z⟩ (fun fr C1' L1' m hle1 hI=>?_);obtain ⟨j,⟨hj,hj2⟩,rfl,rfl,rfl⟩:=hI;refine G.z8 1 2 16 17 18 28 29 30 31 ?_;refine G.cd (fun h31=>?_) fun h31=>?_
    ·have hjl:j<l.length:=by simpa using h31
     obtain ⟨s,hs⟩:∃ s,l[j]?=some s:=⟨l[j],aq hjl⟩;refine G.rg fun R hR=>?_;refine D.ak hf.m_ U10 om_ (bg hs) fl_ (fun p32 hp32=>?_);refine D.aa hp32 ?_;refine D.q8 1 2 9 16 17 18 28 29 30 hR ?_;refine G.rp 1 fun R hR=>?_;refine D.ag (jG _ hT.m_ s (hl s (ba hs))) ?_;refine D.q8 1 2 10 16 17 18 28 29 30 hR ?_;refine G.z9 2 2 10 16 17 18 28 29 30 37 ?_;refine G.cd (fun h37=>?_) fun h37=>?_
     ·have hno:cQ s=false:=by
       rcases j2 (cQ s) with ⟨h1,h2⟩ | ⟨h1,h2⟩
       ·rw [h1] at h37;exact absurd h37 dc_
       ·exact h2
      refine G.z1 2 4 ?_;refine G.rf ?_;refine ⟨?_,Z⟩;unfold HJ;rw [bW hlen,hno,show l.all cQ=false from M9.2 ⟨s,ba hs,by rw [hno];decide⟩]
     ·have hyes:cQ s=true:=by
       rcases j2 (cQ s) with ⟨h1,h2⟩ | ⟨h1,h2⟩
       ·exact h2
       ·rw [h1] at h37;exact absurd h37 dc_
      refine G.rg fun R hR=>?_;refine D.ar _ ?_;refine D.q7 1 2 16 17 18 28 29 30 hR ?_;refine G.ax (m':=l.length-(j+1)) om_ hle1 (h_7 2 16 17 18 28 29 30) ⟨j+1,⟨by omega,by rw [xO,hs,OM,hj2];simp [hyes]⟩,Z,Z,Z⟩
    ·have hjl:j=l.length:=by
      have:¬ j<l.length:=by simpa using h31
      omega
     refine G.rg fun R hR=>?_;refine D.ar _ ?_;refine D.q4 1 2 16 17 18 hR ?_;refine G.ax (m':=0) om_ mup (h_4 2 16 17 18) ⟨1,⟨aP _,fun _=>⟨hlen,by rw [hjl,cK] at hj2;exact hj2⟩⟩,Z,Z,Z⟩
  ·have hi1:i=1:=by
    simp only [Lc] at h19;omega
   refine G.z1 1 4 ?_;refine G.rf ?_;refine ⟨?_,Z⟩;obtain ⟨h3,h4⟩:=hall hi1;unfold HJ;rw [bW h3,h4];rfl
theorem qY (C:Mem)(hT:Tabs C)(mv fv:Value)(pts:List Pt)(tris:List Tri)(l:List Str)(hm:MeshIn C mv pts tris)(hG:Good pts tris)(hf:Sl C 1 fv (l.map bN))(hl:∀ s∈l,s.length<=999998) :
  Gives cx.P 254 [mv,fv] C (.int .i64 (HJ pts.length l)):=by
 have hm0:=hm;obtain ⟨v1,v2,rfl,h1,h2⟩:=id hm.ex;obtain ⟨A4,c4,rfl,hq5,hq6,_⟩:=id hf;simp only [aH] at hf ⊢;refine Fn.it kr_ Tryz.func254 9 fun w0=>?_;refine G.rg fun R hR=>?_;refine D.aD (fun b2=>?_);refine D.q2 1 1 2 hR ?_;refine G.rg fun R hR=>?_;refine D.af (.head _) ?_;refine D.ac ?_;refine D.ah [[.slice A4 l.length c4]] (fun p7 _ _ hs7=>?_);refine D.ag (CZ _ hT.m_ _ _ _ pts tris l hm0.m_ hG hs7.m_ hf.m_ hl) ?_;refine D.q1 1 4 hR ?_;refine G.rf ?_;exact ⟨Z,Z⟩
def gK (q:Rat):List Value:=[aA (qtx q)]
def fz (fs:List Rat)(t:Tri)(j:Nat):Rat:=fs.getD (fU t j) 0
theorem s5 {fs:List Rat}{i:Nat}(h:i<fs.length):fs[i]?=some (fs.getD i 0):=by
 rw [aF,aq h];rfl

/-! Finer bounds. -/
theorem dz {a b:Rat}{k m:Nat}(ha:QB k a)(hb:QB m b):QB (k+m) (a*b):=by
 rw [eN];refine f7 (Nat.mul_ne_zero a.den_nz b.den_nz) ?_ ?_
 ·rw [Mo,MX];exact Ms ha.1 hb.1
 ·rw [MX];exact Ms ha.2 hb.2
theorem fA {a b:Rat}{k m:Nat}(ha:QB k a)(hb:QB m b):QB (k+m+1) (a+b):=by
 rw [eO];have e:B9 ^ (k+m+1)=B9 ^ k*B9 ^ m*B9:=by rw [Lb,MX]
 have p1:(a.num*b.den).natAbs<B9 ^ k*B9 ^ m:=by rw [Mo,J9];exact Ms ha.1 hb.2
 have p2:(b.num*a.den).natAbs<B9 ^ k*B9 ^ m:=by rw [Mo,J9,K8];exact Ms ha.2 hb.1
 have p3:a.den*b.den<B9 ^ k*B9 ^ m:=Ms ha.2 hb.2;have hB:2*(B9 ^ k*B9 ^ m)<=B9 ^ k*B9 ^ m*B9:=by
  rw [K8];exact Ln _ dc_
 refine f7 (Nat.mul_ne_zero a.den_nz b.den_nz) ?_ ?_
 ·rw [e];have:=Oi (a.num*b.den) (b.num*a.den);omega
 ·rw [e];omega
theorem gm {a b:Rat}{k m:Nat}(ha:QB k a)(hb:QB m b):QB (k+m+1) (a-b):=by
 rw [MJ];exact fA ha (pE hb)
theorem QB_one:QB 1 1:=⟨by decide,by decide⟩
theorem QB_zero:QB 1 0:=⟨by decide,by decide⟩

def r7 (l:List Rat):Rat:=l.foldl (·+·) 0
theorem Af (l:List Rat)(q:Rat):r7 (l++[q])=r7 l+q:=by unfold r7;rw [List.foldl_append];rfl
theorem AM (C:Mem)(hT:Tabs C)(v:Value)(l:List Rat)(k:Nat)(hk0:0<k)(hk:k<=10000)(hv:Sl C 1 v (l.map gK))(hl:∀ q∈l,QB k q)(hs:∀ i,QB k (r7 (l.take i))) :
  Gives cx.P 214 [v] C (aA (qtx (r7 l))):=by
 obtain ⟨A0,c0,rfl,hc1,hc2,_⟩:=id hv;have hmx:maxLen<=9223372036854775807:=by simp [maxLen]
 simp only [aH] at hv hc1 ⊢;refine Fn.it kr_ Tryz.func214 17 fun w0=>?_;refine G.z1 1 0 ?_;refine G.z2 1 0 3 ?_;refine G.z4 3 3 6 7 8 ?_;refine G.loop (fun fr C' L' μ=>∃ (i:Nat)(s:Str),(i<=l.length/\s=qtx (r7 (l.take i)))/\fr=[(3,[],aA s),(6,[],.slice A0 l.length c0),(7,[],.int .i64 l.length),(8,[],.int .i64 i)]/\L'=[]/\μ=l.length-i) (h_4 3 6 7 8) ⟨0,[48],⟨ch _,qtx_zero.symm⟩,Z,Z,Z⟩ (fun fr C0' L0' m hle0 hI=>?_);obtain ⟨i,s,⟨hi,hse⟩,rfl,rfl,rfl⟩:=hI;refine G.z5 1 3 6 7 8 9 ?_;refine G.cd (fun h9=>?_) fun h9=>?_
 ·have hil:i<l.length:=by simpa using h9
  obtain ⟨q,hq⟩:∃ q,l[i]?=some q:=⟨l[i],aq hil⟩;subst hse;refine G.rg fun R hR=>?_;refine D.ak hv.m_ U10 om_ (bg hq) fl_ (fun p10 hp10=>?_);refine D.aa hp10 ?_;refine D.q5 1 3 5 6 7 8 hR ?_;refine G.rp 2 fun R hR=>?_;refine D.ag (dZ _ hT.m_ (r7 (l.take i)) q k hk0 hk (hs i) (hl q (ba hq))) ?_;refine D.q4 1 3 6 7 8 hR ?_;refine G.rg fun R hR=>?_;refine D.ar _ ?_;refine D.q4 1 3 6 7 8 hR ?_;refine G.ax (m':=l.length-(i+1)) om_ hle0 (h_4 3 6 7 8) ⟨i+1,_,⟨by omega,by rw [xO,hq,LP,Af]⟩,Z,Z,Z⟩
 ·have hil:i=l.length:=by
   have:¬ i<l.length:=by simpa using h9
   omega
  refine G.z1 2 2 ?_;refine G.rf ?_;exact ⟨by rw [hse,hil,cK],Z⟩
theorem Dz {fs:List Rat}(h:∀ q∈fs,cQ (qtx q)=true):(fs.map qtx).all cQ=true:=by
 rw [ep];intro s hs;obtain ⟨q,hq,rfl⟩:=j5.1 hs;exact h q hq

abbrev V3:=Rat × Rat × Rat
def ce (a b:V3):Rat:=a.1*b.1+a.2.1*b.2.1+a.2.2*b.2.2
def add3 (a b:V3):V3:=(a.1+b.1,a.2.1+b.2.1,a.2.2+b.2.2)
def kC (a:V3)(k:Rat):V3:=(a.1*k,a.2.1*k,a.2.2*k)
def w6 (a b:V3):V3:=(a.2.1*b.2.2-a.2.2*b.2.1,a.2.2*b.1-a.1*b.2.2,a.1*b.2.1-a.2.1*b.1)
structure Evt where
 kd:Nat
 base:List Rat
 units:List Str
 surf:List (List Rat)
 nrm:V3
 off:Rat
 slip:V3
 knots:List (Rat × Rat)
 width:Rat
 unit:Str
 turn:Int × Int × Int × Int
 ctr:V3
def cn (pts:List Pt)(t:Tri)(i:Nat):Pt:=pts.getD (fU t i) (0,0)
def arW (pts:List Pt)(t:Tri)(p:Pt)(i:Nat):Rat:=eE (cn pts t ((i+1) % 3)) (cn pts t ((i+2) % 3)) p
def iA (pts:List Pt)(p:Pt)(t:Tri):Bool:=decide (0<=arW pts t p 0) && (decide (0<=arW pts t p 1) && decide (0<=arW pts t p 2))
def DZ (pts:List Pt)(t:Tri)(f:List Rat)(p:Pt):Rat:=arW pts t p 0*f.getD (fU t 0) 0+arW pts t p 1*f.getD (fU t 1) 0+arW pts t p 2*f.getD (fU t 2) 0
def nh (pts:List Pt)(t:Tri)(f:List Rat)(p:Pt):Rat:=DZ pts t f p / eE (cn pts t 0) (cn pts t 1) (cn pts t 2)
theorem Dt (pts:List Pt)(t:Tri)(p:Pt):arW pts t p 0+arW pts t p 1+arW pts t p 2=eE (cn pts t 0) (cn pts t 1) (cn pts t 2):=by
 unfold arW eE;simp only [show (0+1) % 3=1 from rfl,show (0+2) % 3=2 from rfl,show (1+2) % 3=0 from rfl];grind
def Bc {α:Type}(f:α->Bool)(l:List α):Nat:=(l.takeWhile f).length
theorem qo {α:Type}(f:α->Bool)(l:List α):Bc f l<=l.length:=(List.takeWhile_prefix f).length_le
theorem qv {α:Type}{f:α->Bool}:∀ {l:List α}{n:Nat},n<=l.length->(∀ x∈l.take n,f x=true)->(∀ x,l[n]?=some x->f x=false)->Bc f l=n
 | [],n,hn,_,_=>by simp at hn;subst hn;rfl
 | a::l,0,_,_,h=>by
  have:=h a rfl;simp [Bc,this]
 | a::l,n+1,hn,h1,h2=>by
  have ha:=h1 a (by simp);have ih:=qv (f:=f) (l:=l) (n:=n) (by simpa using hn) (fun x hx=>h1 x (by simp [hx])) (fun x hx=>h2 x (by simpa using hx));simp only [Bc,List.takeWhile_cons,ha] at ih ⊢;simp [ih]
def tW (pts:List Pt)(tris:List Tri)(base:List Rat)(surf:List (List Rat))(p:V3):Int :=
 match tris.find? (iA pts (p.1,p.2.1)) with
 | none=>-2
 | some t=>if p.2.2<nh pts t base (p.1,p.2.1) then -1 else ((Bc (fun f=>decide (nh pts t f (p.1,p.2.1)<=p.2.2)) surf:Nat):Int)
def knN (l:List (Rat × Rat))(u:Rat):Nat:=Bc (fun k=>decide (k.1<=u)) l
def knI (a b:Rat × Rat)(u:Rat):Rat:=a.2+(u-a.1) / (b.1-a.1)*(b.2-a.2)
def knV (l:List (Rat × Rat))(u:Rat):Rat :=
 if l=[] then 0 else if knN l u=0 then (l.getD 0 (0,0)).2 else if knN l u=l.length then (l.getD (l.length-1) (0,0)).2 else knI (l.getD (knN l u-1) (0,0)) (l.getD (knN l u) (0,0)) u
def rI (w:Rat)(u v:V3):V3:=kC (add3 (add3 (kC v (w*w-ce u u)) (kC u (2*ce u v))) (kC (w6 u v) (2*w))) (1 / (w*w+ce u u))
def rY (e:Evt):V3:=(e.turn.2.1,e.turn.2.2.1,e.turn.2.2.2)
def dX (pts:List Pt)(tris:List Tri)(e:Evt)(p:V3):Int :=
 if e.kd=1 then tW pts tris e.base e.surf p else if e.kd=2 then (if e.off<=ce e.nrm p then 1 else 0) else if e.kd=3 then ((knN e.knots (ce e.nrm p):Nat):Int)
 else if e.kd=4 then (if ce e.nrm p-e.off<0 then 0 else if ce e.nrm p-e.off<e.width then 1 else 2) else 0
def gJ (e:Evt)(n:Int):Option Str :=
 if e.kd=1/\n=-2 then some [] else if e.kd=1/\0<=n then some (e.units.getD n.toNat []) else if e.kd=4/\n=1 then some e.unit else none
def js (e:Evt)(p:V3):V3 :=
 if e.kd=2 then (if e.off<=ce e.nrm p then add3 p (kC e.slip (-1)) else p) else if e.kd=3 then add3 p (kC e.slip (-1*knV e.knots (ce e.nrm p)))
 else if e.kd=5 then add3 (rI (-(e.turn.1:Rat)) (rY e) (add3 p (kC e.ctr (-1)))) e.ctr else p
def oF (pts:List Pt)(tris:List Tri)(bas:Str):List Evt->V3->List Int × Str × Int × V3
 | [],p=>([],bas, -1,p)
 | e::es,p =>
  match gJ e (dX pts tris e p) with
  | some u=>([dX pts tris e p],u,(es.length:Nat),p)
  | none=>(dX pts tris e p::(oF pts tris bas es (js e p)).1,(oF pts tris bas es (js e p)).2)
def pC (pts:List Pt)(tris:List Tri)(bas:Str):List Evt->V3->List Int->Str->Bool
 | [],_,path,u=>decide (path=[]/\u=bas)
 | e::es,p,path,u =>
  match path with
  | []=>false
  | n::ns=>if n=dX pts tris e p then (match gJ e n with | some v=>decide (ns=[]/\u=v) | none=>pC pts tris bas es (js e p) ns u) else false
theorem kw {pts:List Pt}{tris:List Tri}{bas u:Str}{e:Evt}{es:List Evt}{p:V3}(h:gJ e (dX pts tris e p)=some u):oF pts tris bas (e::es) p=([dX pts tris e p],u,((es.length:Nat):Int),p):=by
 simp only [oF,h]
theorem oE {pts:List Pt}{tris:List Tri}{bas:Str}{e:Evt}{es:List Evt}{p:V3}(h:gJ e (dX pts tris e p)=none):oF pts tris bas (e::es) p=(dX pts tris e p::(oF pts tris bas es (js e p)).1,(oF pts tris bas es (js e p)).2):=by
 simp only [oF,h]
theorem DC (pts:List Pt)(tris:List Tri)(bas:Str):∀ (es:List Evt)(p:V3)(path:List Int)(u:Str),pC pts tris bas es p path u=true ↔ path=(oF pts tris bas es p).1/\u=(oF pts tris bas es p).2.1
 | [],p,path,u=>by simp [pC,oF]
 | e::es,p,[],u=>by
  cases h:gJ e (dX pts tris e p) with
  | some v=>rw [kw h];simp [pC]
  | none=>rw [oE h];simp [pC]
 | e::es,p,n::ns,u=>by
  have ih:=DC pts tris bas es (js e p) ns u;by_cases hn:n=dX pts tris e p
  ·subst hn;cases h:gJ e (dX pts tris e p) with
   | some v=>rw [kw h];simp [pC,h]
   | none=>rw [oE h];simp [pC,h,ih]
  ·cases h:gJ e (dX pts tris e p) with
   | some v=>rw [kw h];simp [pC,hn]
   | none=>rw [oE h];simp [pC,hn]

theorem IW (a b c d:Rat)(v:V3):(rI (-a) (b,c,d) v).1=((a*a+b*b-(c*c+d*d))*v.1+2*(b*c+a*d)*v.2.1+2*(b*d + -a*c)*v.2.2) / (a*a+b*b+c*c+d*d):=by
 unfold rI kC add3 w6 ce;simp only [Np,Rat.one_mul];have h:-a * -a+(b*b+c*c+d*d)=a*a+b*b+c*c+d*d:=by grind
 rw [h];generalize (a*a+b*b+c*c+d*d)⁻¹=i;grind
theorem IV (a b c d:Rat)(v:V3):(rI (-a) (b,c,d) v).2.1=(2*(b*c + -a*d)*v.1+(a*a+c*c-(b*b+d*d))*v.2.1+2*(c*d+a*b)*v.2.2) / (a*a+b*b+c*c+d*d):=by
 unfold rI kC add3 w6 ce;simp only [Np,Rat.one_mul];have h:-a * -a+(b*b+c*c+d*d)=a*a+b*b+c*c+d*d:=by grind
 rw [h];generalize (a*a+b*b+c*c+d*d)⁻¹=i;grind
theorem IU (a b c d:Rat)(v:V3):(rI (-a) (b,c,d) v).2.2=(2*(b*d+a*c)*v.1+2*(c*d + -a*b)*v.2.1+(a*a+d*d-(b*b+c*c))*v.2.2) / (a*a+b*b+c*c+d*d):=by
 unfold rI kC add3 w6 ce;simp only [Np,Rat.one_mul];have h:-a * -a+(b*b+c*c+d*d)=a*a+b*b+c*c+d*d:=by grind
 rw [h];generalize (a*a+b*b+c*c+d*d)⁻¹=i;grind
theorem Bb {α:Type}{f:α->Bool}:∀ {l:List α},l.Pairwise (fun a b=>f b=true->f a=true)->Bc f l=(l.filter f).length
 | [],_=>rfl
 | a::l,h=>by
  have h1:=(Ls.1 h).1;have ih:=Bb (f:=f) (Ls.1 h).2;unfold Bc at ih ⊢;cases ha:f a with
  | true=>rw [List.takeWhile_cons,List.filter_cons,ha];simp [ih]
  | false =>
   have h2:l.filter f=[]:=List.filter_eq_nil_iff.2 fun b hb hf=>by rw [h1 b hb hf] at ha;cases ha
   rw [List.takeWhile_cons,List.filter_cons,ha,h2];simp
theorem JD {pts:List Pt}{t:Tri}{f g:List Rat}{p:Pt}(hin:iA pts p t=true)(ha:0<eE (cn pts t 0) (cn pts t 1) (cn pts t 2))(h:∀ j,f.getD (fU t j) 0<=g.getD (fU t j) 0):nh pts t f p<=nh pts t g p:=by
 unfold iA at hin;simp only [bL,cH] at hin;obtain ⟨w0,w1,w2⟩:=hin;have h0:=NO (h 0) w0;have h1:=NO (h 1) w1;have h2:=NO (h 2) w2;have hn:DZ pts t f p<=DZ pts t g p:=by unfold DZ;grind
 have hi:0<=(eE (cn pts t 0) (cn pts t 1) (cn pts t 2))⁻¹:=Rat.le_of_lt (Rat.inv_pos.2 ha);unfold nh;rw [Np,Np];exact Rat.mul_le_mul_of_nonneg_right hn hi
def Dn (D M:Nat)(x:Rat):Prop:=∃ N:Int,x*(D:Rat)=(N:Rat)/\N.natAbs<=M
theorem Dn.le {D M K:Nat}{x:Rat}(h:Dn D M x)(hk:M<=K):Dn D K x:=by
 obtain ⟨N,h1,h2⟩:=h;exact ⟨N,h1,by omega⟩
theorem Dn.add {D M K:Nat}{x y:Rat}(h:Dn D M x)(k:Dn D K y):Dn D (M+K) (x+y):=by
 obtain ⟨N,h1,h2⟩:=h;obtain ⟨L,k1,k2⟩:=k;exact ⟨N+L,by rw [Rat.add_mul,h1,k1,Ny],by omega⟩
theorem Dn.neg {D M:Nat}{x:Rat}(h:Dn D M x):Dn D M (-x):=by
 obtain ⟨N,h1,h2⟩:=h;exact ⟨-N,by rw [Rat.neg_mul,h1,Rat.intCast_neg],by omega⟩
theorem Dn.mulz {D M c:Nat}{x:Rat}(h:Dn D M x)(k:Int)(hk:k.natAbs<=c):Dn D (M*c) (x*(k:Rat)):=by
 obtain ⟨N,h1,h2⟩:=h;refine ⟨N*k, ?_, ?_⟩
 ·rw [N0,Mk (k:Rat),<- N0,h1,Mi]
 ·rw [Mo];exact NF h2 hk
theorem Dn.up {D M:Nat}{x:Rat}(h:Dn D M x)(m:Nat):Dn (D*m) (M*m) x:=by
 obtain ⟨N,h1,h2⟩:=h;refine ⟨N*m, ?_, ?_⟩
 ·rw [Rat.natCast_mul,<- N0,h1,Mi];rfl
 ·rw [Mo,J9];exact Lm m h2
theorem Dn.quo {D M:Nat}{x:Rat}(h:Dn D M x){m:Nat}(hm:(m:Rat)≠0):Dn (D*m) M (x / (m:Rat)):=by
 obtain ⟨N,h1,h2⟩:=h;refine ⟨N, ?_,h2⟩;rw [Rat.natCast_mul,Np,Mk (D:Rat),<- N0,N0 x,Rat.inv_mul_cancel _ hm,Rat.mul_one,h1]
theorem Dn.int (D:Nat)(z:Int):Dn D (z.natAbs*D) (z:Rat):=⟨z*D,by rw [Mi];rfl,by rw [Mo,J9];exact aP _⟩

theorem Dn.qb {D M k:Nat}{x:Rat}(h:Dn D M x)(hD:0<D)(h1:D<B9 ^ k)(h2:M<B9 ^ k):QB k x:=by
 obtain ⟨N,e,hN⟩:=h;have hd:(D:Rat)≠0:=by exact_mod_cast (show D≠0 by omega)
 have hx:x=mkRat N D:=by
  rw [M0,<- e];show x=x*(D:Rat) / (D:Rat);rw [Rat.mul_div_cancel hd]
 rw [hx];exact f7 om_ om_ h1
def Dn3 (D M:Nat)(p:V3):Prop:=Dn D M p.1/\Dn D M p.2.1/\Dn D M p.2.2
def Wh (c:Nat)(x:Rat):Prop:=∃ z:Int,x=(z:Rat)/\z.natAbs<=c
def Wh3 (c:Nat)(p:V3):Prop:=Wh c p.1/\Wh c p.2.1/\Wh c p.2.2
theorem Wh.dn {c:Nat}{x:Rat}(h:Wh c x)(D:Nat):Dn D (c*D) x:=by
 obtain ⟨z,rfl,hz⟩:=h;exact (Dn.int D z).le (Lm D hz)
theorem Dn.mulw {D M c:Nat}{x y:Rat}(h:Dn D M x)(k:Wh c y):Dn D (M*c) (x*y):=by
 obtain ⟨z,rfl,hz⟩:=k;exact h.mulz z hz
theorem Dn.sub {D M K:Nat}{x y:Rat}(h:Dn D M x)(k:Dn D K y):Dn D (M+K) (x-y):=by
 rw [MJ];exact h.add k.neg
theorem Dn.add3 {D M K:Nat}{p q:V3}(h:Dn3 D M p)(k:Dn3 D K q):Dn3 D (M+K) (add3 p q):=⟨h.1.add k.1,h.2.1.add k.2.1,h.2.2.add k.2.2⟩
theorem Wh3.scl {D M c:Nat}{p:V3}{x:Rat}(h:Wh3 c p)(k:Dn D M x):Dn3 D (M*c) (kC p x):=by
 refine ⟨?_, ?_, ?_⟩
 ·show Dn D (M*c) (p.1*x);rw [Mk];exact k.mulw h.1
 ·show Dn D (M*c) (p.2.1*x);rw [Mk];exact k.mulw h.2.1
 ·show Dn D (M*c) (p.2.2*x);rw [Mk];exact k.mulw h.2.2
theorem Wh3.dot {D M c:Nat}{n p:V3}(h:Wh3 c n)(k:Dn3 D M p):Dn D (M*c*3) (ce n p):=by
 unfold ce;rw [Mk n.1,Mk n.2.1,Mk n.2.2];exact (((k.1.mulw h.1).add (k.2.1.mulw h.2.1)).add (k.2.2.mulw h.2.2)).le om_
structure KnR (k:Rat × Rat):Prop where
 a:Wh 6 k.1
 v:Wh 6 (k.2*2)
structure EvR (e:Evt):Prop where
 k0:0<e.kd
 k5:e.kd<6
 nr:Wh3 2 e.nrm
 of:Wh 4 e.off
 sl:Wh3 8 e.slip
 kn:∀ k∈e.knots,KnR k
 ka:∀ i,i+1<e.knots.length->(e.knots.getD (i+1) (0,0)).1-(e.knots.getD i (0,0)).1=2
 kl:e.knots.length<=3
 ct:Wh3 2 e.ctr
 tu:e.turn∈[((1:Int),(0:Int),(0:Int),(1:Int)),(2,1,0,0),(1,1,1,1),(3,0,1,0),(0,1,0,0),(1,0,0,0)]
theorem B7 {x:Rat}{c:Nat}(h:Wh c (x*2))(D:Nat):Dn (D*2) (c*D) x:=by
 obtain ⟨z,e,hz⟩:=h;refine ⟨z*D, ?_, ?_⟩
 ·rw [Rat.natCast_mul,Mk (D:Rat),<- N0,show x*((2:Nat):Rat)=(z:Rat) from e,Mi];rfl
 ·rw [Mo,J9];exact Lm D hz
theorem uH {l:List (Rat × Rat)}(h:∀ k∈l,KnR k){i:Nat}(hi:i<l.length):KnR (l.getD i (0,0)):=by
 rw [aF,aq hi];exact h _ (Mv hi)
theorem Jz {e:Evt}(h:EvR e){D M:Nat}{u:Rat}(hu:Dn D M u):Dn (D*4) (M*24+D*200) (knV e.knots u):=by
 have hle:=qo (fun k:Rat × Rat=>decide (k.1<=u)) e.knots;have hv:∀ i,i<e.knots.length->Dn (D*4) (M*24+D*200) (e.knots.getD i (0,0)).2:=fun i hi=>by
  have h1:=(B7 (uH h.kn hi).v D).up 2;rw [K7 D] at h1;exact h1.le om_
 unfold knV;split
 ·exact (show Dn (D*4) 0 0 from ⟨0,by rw [Rat.zero_mul];rfl,aP _⟩).le (ch _)
 ·rename_i h0;have hp:=K6.2 h0;split
  ·exact hv 0 hp
  ·split
   ·exact hv _ om_
   ·rename_i h1 h2;have hlt:knN e.knots u<e.knots.length:=by
     have:knN e.knots u<=e.knots.length:=hle;omega
    have hd:=h.ka (knN e.knots u-1) om_;rw [Nu om_] at hd;have ka:=uH h.kn (show knN e.knots u-1<e.knots.length by omega);have kb:=uH h.kn hlt;unfold knI;rw [hd];have g1:=(hu.sub (ka.a.dn D)).quo (m:=2) dc_;have hw:Wh 12 (((e.knots.getD (knN e.knots u) (0,0)).2-(e.knots.getD (knN e.knots u-1) (0,0)).2)*2):=by
     obtain ⟨z,ez,hz⟩:=kb.v;obtain ⟨y,ey,hy⟩:=ka.v;exact ⟨z-y,by rw [show ∀ a b:Rat,(a-b)*2=a*2-b*2 from fun a b=>by grind,ez,ey,NN],by omega⟩
    have g2:=(g1.mulw hw).quo (m:=2) dc_;have e2:∀ x y:Rat,x*(y*2) / ((2:Nat):Rat)=x*y:=fun x y=>by
     show x*(y*2) / 2=x*y;grind
    rw [e2,K7 D] at g2;have g3:=(B7 ka.v D).up 2;rw [K7 D] at g3;exact (g3.add g2).le om_
theorem KW {x y z w:Int}(a:x.natAbs<=9)(b:y.natAbs<=9)(c:z.natAbs<=9)(d:w.natAbs<=9):(x+y-(z+w)).natAbs<=36:=by omega
theorem KY {x y:Int}(a:x.natAbs<=9)(b:y.natAbs<=9):(2*(x+y)).natAbs<=36:=by omega
theorem KX {x y:Int}(a:x.natAbs<=9)(b:y.natAbs<=9):(2*(x-y)).natAbs<=36:=by omega
theorem IZ {a b c d:Int}{v:V3}{D M S:Nat}(hv:Dn3 D M v)(hs:(a*a+b*b+c*c+d*d:Int)=(S:Nat))(hS:0<S)
  (ha:a.natAbs<=3) (hb:b.natAbs<=3) (hc:c.natAbs<=3) (hd:d.natAbs<=3):Dn3 (D*S) (M*120) (rI (-(a:Rat)) ((b:Rat),(c:Rat),(d:Rat)) v):=by
 have hS0:((S:Nat):Rat)≠0:=by exact_mod_cast (show S≠0 by omega)
 have es:(a:Rat)*a+b*b+c*c+d*d=((S:Nat):Rat):=by
  have h2:((a*a+b*b+c*c+d*d:Int):Rat)=(((S:Nat):Int):Rat):=by rw [hs]
  simp only [Ny,Mi] at h2;rw [h2];rfl
 have pr:∀ x y:Int,x.natAbs<=3->y.natAbs<=3->(x*y).natAbs<=9:=fun x y hx hy=>by
  rw [Mo];exact NF hx hy
 have paa:=pr a a ha ha;have pbb:=pr b b hb hb;have pcc:=pr c c hc hc;have pdd:=pr d d hd hd;have pbc:=pr b c hb hc;have pad:=pr a d ha hd;have pbd:=pr b d hb hd;have pac:=pr a c ha hc;have pcd:=pr c d hc hd;have pab:=pr a b ha hb;have row:∀ p q r:Int,p.natAbs<=36->q.natAbs<=36->r.natAbs<=36->Dn (D*S) (M*120) (((p:Rat)*v.1+(q:Rat)*v.2.1+(r:Rat)*v.2.2) / ((S:Nat):Rat)):=fun p q r hp hq hr=>by
  rw [Mk (p:Rat),Mk (q:Rat),Mk (r:Rat)];exact ((((hv.1.mulz p hp).add (hv.2.1.mulz q hq)).add (hv.2.2.mulz r hr)).quo hS0).le om_
 refine ⟨?_, ?_, ?_⟩
 ·rw [IW,es];have h:=row (a*a+b*b-(c*c+d*d)) (2*(b*c+a*d)) (2*(b*d-a*c)) (KW paa pbb pcc pdd) (KY pbc pad) (KX pbd pac);simp only [Ny,Mi,NN] at h;rw [show (2:Rat)*((b:Rat)*d + -(a:Rat)*c)=((2:Int):Rat)*((b:Rat)*d-a*c) from by grind];exact h
 ·rw [IV,es];have h:=row (2*(b*c-a*d)) (a*a+c*c-(b*b+d*d)) (2*(c*d+a*b)) (KX pbc pad) (KW paa pcc pbb pdd) (KY pcd pab);simp only [Ny,Mi,NN] at h;rw [show (2:Rat)*((b:Rat)*c + -(a:Rat)*d)=((2:Int):Rat)*((b:Rat)*c-a*d) from by grind];exact h
 ·rw [IU,es];have h:=row (2*(b*d+a*c)) (2*(c*d-a*b)) (a*a+d*d-(b*b+c*c)) (KY pbd pac) (KX pcd pab) (KW paa pdd pbb pcc);simp only [Ny,Mi,NN] at h;rw [show (2:Rat)*((c:Rat)*d + -(a:Rat)*b)=((2:Int):Rat)*((c:Rat)*d-a*b) from by grind];exact h

theorem Dn3.le {D M K:Nat}{p:V3}(h:Dn3 D M p)(hk:M<=K):Dn3 D K p:=⟨h.1.le hk,h.2.1.le hk,h.2.2.le hk⟩
theorem Dn3.up {D M:Nat}{p:V3}(h:Dn3 D M p)(m:Nat):Dn3 (D*m) (M*m) p:=⟨h.1.up m,h.2.1.up m,h.2.2.up m⟩
theorem Wh3.dn {c:Nat}{p:V3}(h:Wh3 c p)(D:Nat):Dn3 D (c*D) p:=⟨h.1.dn D,h.2.1.dn D,h.2.2.dn D⟩
theorem Gg (D:Nat):Dn D D (-1):=by
 have h:=Dn.int D (-1);exact h.le (by simp)
theorem kz {a b c d:Int}{p ct:V3}{D M S m:Nat}(hp:Dn3 D M p)(hc:Wh3 2 ct)(hs:(a*a+b*b+c*c+d*d:Int)=(S:Nat))(hm:S*m=20)(hS:0<S)(hm0:0<m)
  (ha:a.natAbs<=3) (hb:b.natAbs<=3) (hcc:c.natAbs<=3) (hd:d.natAbs<=3) :
  Dn3 (D*20) ((M+D)*9000) (add3 (rI (-(a:Rat)) ((b:Rat),(c:Rat),(d:Rat)) (add3 p (kC ct (-1)))) ct):=by
 have h1:=Dn.add3 hp (Wh3.scl hc (Gg D));have h2:=Dn.add3 (IZ h1 hs hS ha hb hcc hd) (hc.dn (D*S));have h3:=h2.up m;rw [K7 D,hm] at h3;refine h3.le ?_;have hm20:m<=20:=by
  have:1*m<=S*m:=Lm m hS;omega
 have e:(M+D*2)*120*m+2*(D*S)*m<=(M+D)*9000:=by
  have g1:(M+D*2)*120*m<=(M+D*2)*120*20:=Ln _ hm20;have g2:2*(D*S)*m=2*D*20:=by rw [<- hm];simp only [K7]
  omega
 rw [L9];exact e
theorem Js {e:Evt}(h:EvR e){D M:Nat}{p:V3}(hp:Dn3 D M p):Dn3 (D*20) ((M+D)*9000) (js e p):=by
 have stay:Dn3 (D*20) ((M+D)*9000) p:=(hp.up 20).le om_;unfold js;split
 ·split
  ·have h1:=(Dn.add3 hp (Wh3.scl h.sl (Gg D))).up 20;exact h1.le om_
  ·exact stay
 ·split
  ·have h1:=Jz h (Wh3.dot h.nr hp);have h2:Dn (D*4) (M*2*3*24+D*200) (-1*knV e.knots (ce e.nrm p)):=by
    have g:=h1.mulz (-1) (c:=1) dc_;rw [Nl,Mk] at g;exact g
   have h3:=(Dn.add3 (hp.up 4) (Wh3.scl h.sl h2)).up 5;rw [K7 D] at h3;exact h3.le om_
  ·split
   ·have ht:=h.tu;obtain ⟨⟨a,b,c,d⟩,htu⟩:∃ t,e.turn=t:=⟨_,rfl⟩;unfold rY;rw [htu] at ht ⊢;simp only [cI,L4,Nk,Na] at ht;rcases ht with ⟨rfl,rfl,rfl,rfl⟩ | ⟨rfl,rfl,rfl,rfl⟩ | ⟨rfl,rfl,rfl,rfl⟩ | ⟨rfl,rfl,rfl,rfl⟩ | ⟨rfl,rfl,rfl,rfl⟩ | ⟨rfl,rfl,rfl,rfl⟩
    ·exact kz (S:=2) (m:=10) hp h.ct dc_ dc_ dc_ dc_ dc_ dc_ dc_ dc_
    ·exact kz (S:=5) (m:=4) hp h.ct dc_ dc_ dc_ dc_ dc_ dc_ dc_ dc_
    ·exact kz (S:=4) (m:=5) hp h.ct dc_ dc_ dc_ dc_ dc_ dc_ dc_ dc_
    ·exact kz (S:=10) (m:=2) hp h.ct dc_ dc_ dc_ dc_ dc_ dc_ dc_ dc_
    ·exact kz (S:=1) (m:=20) hp h.ct dc_ dc_ dc_ dc_ dc_ dc_ dc_ dc_
    ·exact kz (S:=1) (m:=20) hp h.ct dc_ dc_ dc_ dc_ dc_ dc_ dc_ dc_
   ·exact stay
def szD:Nat->Nat
 | 0=>4
 | n+1=>szD n*20
def szM:Nat->Nat
 | 0=>1000
 | n+1=>(szM n+szD n)*9000
def PlR (n:Nat)(p:V3):Prop:=Dn3 (szD n) (szM n) p
theorem PlR.mov {n:Nat}{p:V3}{e:Evt}(h:PlR n p)(he:EvR e):PlR (n+1) (js e p):=Js he h
theorem PlR.qb {n:Nat}{p:V3}(h:PlR n p)(hn:n<=3):QB 2 p.1/\QB 2 p.2.1/\QB 2 p.2.2:=by
 have k:∀ n ≤ 3,0<szD n/\szD n<B9 ^ 2/\szM n<B9 ^ 2:=by decide
 obtain ⟨a,b,c⟩:=k n hn;exact ⟨h.1.qb a b c,h.2.1.qb a b c,h.2.2.qb a b c⟩
theorem F3 (pts:List Pt)(tris:List Tri)(bas:Str):∀ (es:List Evt)(p:V3)(n:Nat),(∀ e∈es,EvR e)->n+es.length<=3->PlR n p->∃ k,k<=3/\PlR k (oF pts tris bas es p).2.2.2
 | [],p,n,_,hn,hp=>⟨n,by simpa using hn,hp⟩
 | e::es,p,n,he,hn,hp=>by
  rw [fh] at hn;cases h:gJ e (dX pts tris e p) with
  | some u=>rw [kw h];exact ⟨n,by omega,hp⟩
  | none=>rw [oE h];exact F3 pts tris bas es (js e p) (n+1) (fun x hx=>he x (.tail _ hx)) om_ (hp.mov (he e (.head _)))

def nB (p:V3):List Value:=[aA (qtx p.1),aA (qtx p.2.1),aA (qtx p.2.2)]
def vV (p:V3):Value:=.agg ⟨nB p⟩
def Q3 (k:Nat)(p:V3):Prop:=QB k p.1/\QB k p.2.1/\QB k p.2.2
theorem Q3.le {k m:Nat}{p:V3}(h:Q3 k p)(hk:k<=m):Q3 m p:=⟨h.1.le hk,h.2.1.le hk,h.2.2.le hk⟩
theorem Kc (x y z:Rat):r7 [x,y,z]=x+y+z:=by simp [r7,MM]
theorem tY {x y z:Rat}{k:Nat}(hx:QB k x)(hy:QB k y)(hz:QB k z):∀ i,QB (3*k+2) (r7 ([x,y,z].take i))
 | 0=>QB_zero.le om_
 | 1=>by
  show QB _ (r7 [x]);rw [show r7 [x]=x by simp [r7,MM]];exact hx.le om_
 | 2=>by
  show QB _ (r7 [x,y]);rw [show r7 [x,y]=x+y by simp [r7,MM]];exact (fA hx hy).le om_
 | n+3=>by
  show QB _ (r7 ([x,y,z].take (n+3)));rw [gG (by simp),Kc];exact (fA (fA hx hy) hz).le om_
theorem vN {x y z:Rat}{k:Nat}(hx:QB k x)(hy:QB k y)(hz:QB k z):∀ q∈[x,y,z],QB (3*k+2) q:=by
 intro q hq;simp only [cI,L4,Nk] at hq;rcases hq with rfl | rfl | rfl
 ·exact hx.le om_
 ·exact hy.le om_
 ·exact hz.le om_
theorem ra {a b:V3}{k m:Nat}(ha:Q3 k a)(hb:Q3 m b):QB (3*(k+m)+2) (ce a b):=by
 have h:=tY (dz ha.1 hb.1) (dz ha.2.1 hb.2.1) (dz ha.2.2 hb.2.2) 3;rw [gG (by simp),Kc] at h;exact h
theorem HQ (C:Mem)(hT:Tabs C)(a b:V3)(k m:Nat)(hk0:0<k)(hkm:k+m<=3000)(ha:Q3 k a)(hb:Q3 m b):Gives cx.P 257 [vV a,vV b] C (aA (qtx (ce a b))):=by
 have a2:=ha.le (show k<=k+m by omega);have b2':=hb.le (show m<=k+m by omega);have h1:=dz ha.1 hb.1;have h2:=dz ha.2.1 hb.2.1;have h3:=dz ha.2.2 hb.2.2;refine Fn.it kr_ Tryz.func257 22 fun w0=>?_;refine G.rg fun R hR=>?_;refine D.aD (fun b2=>?_);refine D.aD (fun b3=>?_);refine D.q2 1 2 3 hR ?_;refine G.freeze 1 Z (fun _ _ hb2=>?_);refine G.freeze 0 Z (fun _ _ hb3=>?_);refine G.aG [0,1,2,3,4,5,6,7,8,9,10,11,12,13,14,15,16,17] [(4,1),(9,1),(14,1),(16,1)] Z kr_ (fun R hB hR=>?_);refine D.ac ?_;refine D.aa (bkT hb2 1) ?_;refine D.ac ?_;refine D.aa (bkT hb3 1) ?_;refine D.ay (fun _=>(bt _ hT.m_ _ _ (k+m) om_ om_ a2.1 b2'.1)) U9 ?_;refine D.ac ?_;refine D.aa (bkT hb2 1) ?_;refine D.ac ?_;refine D.aa (bkT hb3 1) ?_;refine D.ay (fun _=>(bt _ hT.m_ _ _ (k+m) om_ om_ a2.2.1 b2'.2.1)) U9 ?_;refine D.ac ?_;refine D.aa (bkT hb2 1) ?_;refine D.ac ?_;refine D.aa (bkT hb3 1) ?_;refine D.ay (fun _=>(bt _ hT.m_ _ _ (k+m) om_ om_ a2.2.2 b2'.2.2)) U9 ?_;refine D.ah ([a.1*b.1,a.2.1*b.2.1,a.2.2*b.2.2].map gK) (fun p20 _ _ hs20=>?_);refine D.ay (fun _=>(AM _ hT.m_ _ [a.1*b.1,a.2.1*b.2.1,a.2.2*b.2.2] (3*(k+m)+2) om_ om_ hs20.m_ (vN h1 h2 h3) (tY h1 h2 h3))) U9 ?_;refine D.q1 1 4 hR ?_;refine G.rf ?_;exact ⟨by rw [Kc];rfl,Z⟩
theorem jn (C:Mem)(hT:Tabs C)(a b:V3)(k m:Nat)(hk0:0<k)(hkm:k+m<=3000)(ha:Q3 k a)(hb:Q3 m b):Gives cx.P 133 [vV a,vV b] C (aA (qtx (ce a b))):=by
 have a2:=ha.le (show k<=k+m by omega);have b2':=hb.le (show m<=k+m by omega);have h1:=dz ha.1 hb.1;have h2:=dz ha.2.1 hb.2.1;have h3:=dz ha.2.2 hb.2.2;refine Fn.it kr_ Tryz.func133 22 fun w0=>?_;refine G.rg fun R hR=>?_;refine D.aD (fun b2=>?_);refine D.aD (fun b3=>?_);refine D.q2 1 2 3 hR ?_;refine G.freeze 1 Z (fun _ _ hb2=>?_);refine G.freeze 0 Z (fun _ _ hb3=>?_);refine G.aG [0,1,2,3,4,5,6,7,8,9,10,11,12,13,14,15,16,17] [(4,1),(9,1),(14,1),(16,1)] Z kr_ (fun R hB hR=>?_);refine D.ac ?_;refine D.aa (bkT hb2 1) ?_;refine D.ac ?_;refine D.aa (bkT hb3 1) ?_;refine D.ay (fun _=>(bt _ hT.m_ _ _ (k+m) om_ om_ a2.1 b2'.1)) U9 ?_;refine D.ac ?_;refine D.aa (bkT hb2 1) ?_;refine D.ac ?_;refine D.aa (bkT hb3 1) ?_;refine D.ay (fun _=>(bt _ hT.m_ _ _ (k+m) om_ om_ a2.2.1 b2'.2.1)) U9 ?_;refine D.ac ?_;refine D.aa (bkT hb2 1) ?_;refine D.ac ?_;refine D.aa (bkT hb3 1) ?_;refine D.ay (fun _=>(bt _ hT.m_ _ _ (k+m) om_ om_ a2.2.2 b2'.2.2)) U9 ?_;refine D.ah ([a.1*b.1,a.2.1*b.2.1,a.2.2*b.2.2].map gK) (fun p20 _ _ hs20=>?_);refine D.ay (fun _=>(AM _ hT.m_ _ [a.1*b.1,a.2.1*b.2.1,a.2.2*b.2.2] (3*(k+m)+2) om_ om_ hs20.m_ (vN h1 h2 h3) (tY h1 h2 h3))) U9 ?_;refine D.q1 1 4 hR ?_;refine G.rf ?_;exact ⟨by rw [Kc];rfl,Z⟩

def z3:List Value:=[aA [],aA [],aA []]
def cF:List Value:=[.slice none 0 0,.slice none 0 0,.slice none 0 0]
def cS:List Value:=[aA [],aA [],aA [],aA [],aA [],aA [],aA []]
def dy:List Value:=[aA [],aA [],aA [],.slice none 0 0,aA [],aA [],aA []]
def cT:List Value:=[aA [],aA [],aA [],aA [],aA [],aA []]
def cR:List Value:=[.int .i64 0,.int .i64 0,.int .i64 0,.int .i64 0,aA [],aA [],aA []]
def evC (kd:Nat)(nm:Str)(dep flt fld dik til:List Value):List Value:=.int .i64 kd::aA nm::(dep++(flt++(fld++(dik++til))))
def rK (k:Rat × Rat):List Value:=[aA (qtx k.1),aA (qtx k.2)]
def JG (e:Evt):List Value:=[aA (qtx e.nrm.1),aA (qtx e.nrm.2.1),aA (qtx e.nrm.2.2),aA (qtx e.off),aA (qtx e.slip.1),aA (qtx e.slip.2.1),aA (qtx e.slip.2.2)]
def Fb (e:Evt)(v:Value):List Value:=[aA (qtx e.nrm.1),aA (qtx e.nrm.2.1),aA (qtx e.nrm.2.2),v,aA (qtx e.slip.1),aA (qtx e.slip.2.1),aA (qtx e.slip.2.2)]
def JM (e:Evt):List Value:=[aA (qtx e.nrm.1),aA (qtx e.nrm.2.1),aA (qtx e.nrm.2.2),aA (qtx e.off),aA (qtx e.width),aA e.unit]
def I4 (e:Evt):List Value:=[.int .i64 e.turn.1,.int .i64 e.turn.2.1,.int .i64 e.turn.2.2.1,.int .i64 e.turn.2.2.2,aA (qtx e.ctr.1),aA (qtx e.ctr.2.1),aA (qtx e.ctr.2.2)]
theorem qz (q:Rat):(qtx q == [48])=decide (q=0):=by
 rw [<- qtx_zero,Mq,Lg,cH];exact ⟨fun h=>wc h,fun h=>by rw [h]⟩
theorem GO (C:Mem)(a:V3):Gives cx.P 297 [vV a] C (.bool (decide (a=(0,0,0)))):=by
 refine Fn.it kr_ Tryz.func297 16 fun w0=>?_;refine G.rg fun R hR=>?_;refine D.aD (fun b1=>?_);refine D.q1 1 1 hR ?_;refine G.freeze 0 Z (fun _ _ hb1=>?_);refine G.rp 1 fun R hR=>?_;refine D.aa (bkT hb1 1) ?_;refine D.ps 3 ?_;refine D.aN U6 (fun _=>PtrTo.blockT (Mem.get hb1 mup) _ 1) U3 ?_;refine D.ac ?_;refine D.aw ?_;refine D.ps 2 ?_;refine D.aN U6 (fun _=>PtrTo.blockT (Mem.get hb1 mup) _ 1) U3 ?_;refine D.ac ?_;refine D.aw ?_;refine D.q1 1 2 hR ?_;refine G.rf ?_;exact ⟨by
  show Value.bool ((qtx a.1 == [48] && qtx a.2.1 == [48]) && qtx a.2.2 == [48])=_;rw [qz,qz,qz];congr 1;rw [Mq,bL,bL,cH,cH,cH,cH];exact ⟨fun h=>Prod.ext h.1.1 (Prod.ext h.1.2 h.2),fun h=>by rw [h];exact ⟨⟨Z,Z⟩,Z⟩⟩,Z⟩
theorem f9 (C:Mem)(s:Str)(h:cA s=true):Gives cx.P 59 [aA s] C (.int .i64 0):=by
 have hs:s≠[]/\s.length<=32/\∀ i b,s[i]?=some b->eJ i b=true:=by
  unfold cA at h;simp only [bL,Mu,cH] at h;refine ⟨fun e=>by rw [e] at h;simp at h,h.1.2,fun i b hb=>?_⟩;cases hn:eJ i b with
  | true=>rfl
  | false =>
   have:=jh (k:=0) hb (by rw [LO];exact hn);rw [this] at h;exact absurd h.2 dc_
 obtain ⟨h1,h2,h3⟩:=hs;refine Fn.it kr_ Tryz.func59 54 fun w0=>?_;refine G.z1 1 0 ?_;refine G.rp 6 fun R hR=>?_;refine D.aI ?_;refine D.e2 0 12 hR ?_;refine G.cd (fun h12=>?_) fun h12=>?_
 ·exfalso;simp only [Mp,cH,Lg] at h12;rcases h12 with h4 | h4
  ·exact h1 h4
  ·omega
 ·refine G.z3 3 0 14 15 ?_;refine G.loop (fun fr C' L' μ=>∃ (i:Nat),(i<=s.length)/\fr=[(0,[],aA s),(14,[],.int .i64 s.length),(15,[],.int .i64 i)]/\L'=[]/\μ=s.length-i) (h_3 0 14 15) ⟨0,ch _,Z,Z,Z⟩ (fun fr C0' L0' m hle0 hI=>?_);obtain ⟨i,hi,rfl,rfl,rfl⟩:=hI;refine G.z4 1 0 14 15 16 ?_;refine G.cd (fun h16=>?_) fun h16=>?_
  ·have hil:i<s.length:=by have:=bi h16;omega
   obtain ⟨b,hb⟩:∃ b,s[i]?=some b:=⟨s[i],aq hil⟩;have hnb:=h3 i b hb;refine G.z4 2 0 3 14 15 ?_;refine G.rp 2 fun R hR=>?_;refine D.aW (b:=b) U8 (fun _=>⟨by omega,by rw [L5];exact hb⟩) U2 ?_;refine D.q5 1 0 3 4 14 15 hR ?_;refine G.rp 5 fun R hR=>?_;refine D.aw ?_;refine D.ps 6 ?_;refine D.aw ?_;refine D.aI ?_;refine D.q6 1 0 3 4 5 14 15 hR ?_;refine G.rp 11 fun R hR=>?_;refine D.aI ?_;refine D.ps 3 ?_;refine D.aw ?_;refine D.aI ?_;refine D.aw ?_;refine D.e4 0 14 15 52 hR ?_;refine G.cd (fun h52=>?_) fun h52=>?_
   ·exfalso;unfold eJ kL pk at hnb;simp only [bL,Mp,Mu,LU,NU,cH,Lc,Lg,Mt,bne_iff_ne] at h52 hnb;omega
   ·refine G.rg fun R hR=>?_;refine D.ar _ ?_;refine D.q3 1 0 14 15 hR ?_;refine G.ax (m':=s.length-(i+1)) om_ hle0 (h_3 0 14 15) ⟨i+1,by omega,Z,Z,Z⟩
  ·refine G.z1 1 2 ?_;refine G.rf ?_;exact ⟨Z,Z⟩

theorem dD {q:Rat}(h:QB 22 q):(qtx q).length<=999998:=LE (cC h dc_) dc_
theorem sP {q:Rat}(h:QB 22 q):(qtx q).length<=1000000:=LE (cC h dc_) dc_
theorem EO (C:Mem)(hT:Tabs C)(v:Value)(l:List Rat)(hv:Sl C 1 v (l.map gK))(hl:∀ q∈l,QB 22 q):Gives cx.P 68 [v] C (.int .i64 0):=by
 have h:=kG C hT v (l.map qtx) (by rw [Ns];exact hv) (fun s hs=>by
  obtain ⟨q,hq,rfl⟩:=j5.1 hs;exact dD (hl q hq))
 rw [Dz (fun q hq=>dC (hl q hq))] at h;exact h
theorem gM (C:Mem)(hT:Tabs C)(p:V3)(hp:Q3 22 p):Gives cx.P 27 [vV p] C (.int .i64 0):=by
 have h:=ou C hT (qtx p.1) (qtx p.2.1) (qtx p.2.2) (dD hp.1) (dD hp.2.1) (dD hp.2.2);rw [dC hp.1,dC hp.2.1,dC hp.2.2] at h;exact h
theorem wj (C:Mem)(hT:Tabs C)(n:V3)(o:Rat)(hn:Q3 22 n)(ho:QB 22 o)(h0:n≠(0,0,0)):Gives cx.P 259 [.agg ⟨[aA (qtx n.1),aA (qtx n.2.1),aA (qtx n.2.2),aA (qtx o)]⟩] C (.int .i64 0):=by
 have hl:∀ q∈[n.1,n.2.1,n.2.2,o],QB 22 q:=by
  intro q hq;simp only [cI,L4,Nk] at hq;rcases hq with rfl | rfl | rfl | rfl
  ·exact hn.1
  ·exact hn.2.1
  ·exact hn.2.2
  ·exact ho
 refine Fn.it kr_ Tryz.func259 23 fun w0=>?_;refine G.rg fun R hR=>?_;refine D.aD (fun b1=>?_);refine D.q1 1 1 hR ?_;refine G.freeze 0 Z (fun _ _ hb1=>?_);refine G.rp 2 fun R hR=>?_;refine D.aa (bkT hb1 1) ?_;refine D.ps 2 ?_;refine D.aa (bkT hb1 1) ?_;refine D.ps 2 ?_;refine D.aa (bkT hb1 1) ?_;refine D.ac ?_;refine D.aa (bkT hb1 1) ?_;refine D.ah ([n.1,n.2.1,n.2.2,o].map gK) (fun p15 _ _ hs15=>?_);refine D.ag (EO _ hT.m_ _ [n.1,n.2.1,n.2.2,o] hs15.m_ hl) ?_;refine D.q2 1 1 3 hR ?_;refine G.z3 2 1 3 18 ?_;refine G.cd (fun h18=>?_) fun h18=>?_
 ·exact absurd h18 dc_
 ·refine G.rp 1 fun R hR=>?_;refine D.aa (bkT hb1 3) ?_;refine D.ag (GO _ n) ?_;refine D.e1 22 hR ?_;refine G.cd (fun h22=>?_) fun h22=>?_
  ·exact absurd h22 (by simp [h0])
  ·refine G.z1 1 2 ?_;refine G.rf ?_;exact ⟨Z,Z⟩
theorem xn (C:Mem)(hT:Tabs C)(v n:V3)(hv:Q3 22 v)(hn:Q3 22 n)(h0:ce v n=0):Gives cx.P 260 [vV v,vV n] C (.int .i64 0):=by
 refine Fn.it kr_ Tryz.func260 15 fun w0=>?_;refine G.rg fun R hR=>?_;refine D.aD (fun b2=>?_);refine D.aD (fun b3=>?_);refine D.q2 1 2 3 hR ?_;refine G.freeze 1 Z (fun _ _ hb2=>?_);refine G.freeze 0 Z (fun _ _ hb3=>?_);refine G.rg fun R hR=>?_;refine D.aa (bkT hb2 3) ?_;refine D.ag (gM _ hT.m_ v hv) ?_;refine D.q3 1 2 3 5 hR ?_;refine G.z4 2 2 3 5 9 ?_;refine G.cd (fun h9=>?_) fun h9=>?_
 ·exact absurd h9 dc_
 ·refine G.rg fun R hR=>?_;refine D.aa (bkT hb2 3) ?_;refine D.aa (bkT hb3 3) ?_;refine D.aj (HQ _ hT.m_ v n 22 22 dc_ dc_ hv hn) U7 fl_ ?_;refine D.q1 1 14 hR ?_;refine G.cd (fun h14=>?_) fun h14=>?_
  ·exact absurd h14 (by rw [h0,qtx_zero];decide)
  ·refine G.z1 1 4 ?_;refine G.rf ?_;exact ⟨Z,Z⟩
theorem rv (C:Mem)(hT:Tabs C)(mv:Value)(hm:∃ v1 v2,mv=.agg ⟨[v1,v2]⟩)(nm:Str)(e:Evt)(hn:Q3 22 e.nrm)(ho:QB 22 e.off)(hs:Q3 22 e.slip)(h0:e.nrm≠(0,0,0))(hd:ce e.slip e.nrm=0) :
  Gives cx.P 186 [mv,.agg ⟨evC 2 nm cF (JG e) dy cT cR⟩] C (.int .i64 0):=by
 obtain ⟨v1,v2,rfl⟩:=hm;refine Fn.it kr_ Tryz.func186 21 fun w0=>?_;refine G.rg fun R hR=>?_;refine D.aD (fun b2=>?_);refine D.aD (fun b3=>?_);refine D.q1 1 3 hR ?_;refine G.freeze 0 Z (fun _ _ hb3=>?_);refine G.rp 2 fun R hR=>?_;refine D.aa (bkT hb3 4) ?_;refine D.ag (wj _ hT.m_ e.nrm e.off hn ho h0) ?_;refine D.q2 1 3 5 hR ?_;refine G.z3 2 3 5 11 ?_;refine G.cd (fun h11=>?_) fun h11=>?_
 ·exact absurd h11 dc_
 ·refine G.rp 2 fun R hR=>?_;refine D.aa (bkT hb3 3) ?_;refine D.ps 3 ?_;refine D.aa (bkT hb3 3) ?_;refine D.ag (xn _ hT.m_ e.slip e.nrm hs hn hd) ?_;refine D.q1 1 4 hR ?_;refine G.rf ?_;exact ⟨Z,Z⟩
theorem tB (C:Mem)(hT:Tabs C)(mv:Value)(hm:∃ v1 v2,mv=.agg ⟨[v1,v2]⟩)(nm:Str)(e:Evt)(hn:Q3 22 e.nrm)(ho:QB 22 e.off)(hw:QB 22 e.width)(h0:e.nrm≠(0,0,0))(hp:0<e.width)(hu:cA e.unit=true) :
  Gives cx.P 196 [mv,.agg ⟨evC 4 nm cF cS dy (JM e) cR⟩] C (.int .i64 0):=by
 obtain ⟨v1,v2,rfl⟩:=hm;have hch:∀ D:Mem,Tabs D->Gives cx.P 140 [aA (qtx e.width)] D (.int .i64 0):=fun D hD=>by
  have h:=jG D hD (qtx e.width) (dD hw);rw [dC hw] at h;exact h
 refine Fn.it kr_ Tryz.func196 30 fun w0=>?_;refine G.rg fun R hR=>?_;refine D.aD (fun b2=>?_);refine D.aD (fun b3=>?_);refine D.q1 1 3 hR ?_;refine G.freeze 0 Z (fun _ _ hb3=>?_);refine G.rp 2 fun R hR=>?_;refine D.aa (bkT hb3 4) ?_;refine D.ag (wj _ hT.m_ e.nrm e.off hn ho h0) ?_;refine D.q2 1 3 5 hR ?_;refine G.z3 2 3 5 12 ?_;refine G.cd (fun h12=>?_) fun h12=>?_
 ·exact absurd h12 dc_
 ·refine G.rp 2 fun R hR=>?_;refine D.aa (bkT hb3 1) ?_;refine D.ag (hch _ hT.m_) ?_;refine D.q2 1 3 6 hR ?_;refine G.z3 2 3 6 19 ?_;refine G.cd (fun h19=>?_) fun h19=>?_
  ·exact absurd h19 dc_
  ·refine G.rp 2 fun R hR=>?_;refine D.aa (bkT hb3 1) ?_;refine D.ag (io _ e.width (sP hw)) ?_;refine D.q2 1 3 25 hR ?_;refine G.cd (fun h25=>?_) fun h25=>?_
   ·exact absurd h25 (by rw [F7,j9 hp];decide)
   ·refine G.rp 2 fun R hR=>?_;refine D.aa (bkT hb3 1) ?_;refine D.ag (f9 _ e.unit hu) ?_;refine D.q1 1 4 hR ?_;refine G.rf ?_;exact ⟨Z,Z⟩
end Go.Proofs.YtgfiffppookakaaGreatDoor
