/- Laws that the proofs of this seat share, part 11. -/
import Derived.Test.YthnpijdjlddpmaaGreatDoorG10
import Derived.Test.YthnpijdjlddpmaaGreatDoorShelf
import Derived.Test.YthnpijdjlddpmaaGreatDoorCards
import Derived.Test.YthnpijdjlddpmaaGreatDoorTie
import Derived.Stop.LaidErr
import Derived.Lib.LaidTab
import Derived.Carry
import Derived.Deep.Strs
import Derived.Laws.IdiomArrays
set_option maxHeartbeats 4000000
namespace Go.Proofs.YthnpijdjlddpmaaGreatDoor
open Go.Proofs.Tryz
open Go Go.Jog
set_option maxRecDepth 100000
variable {i:Nat}{l n:Str}{q:Rat}{s u x y:Str}
instance (k:Nat) (q:Rat):Decidable (QB k q):=by unfold QB;infer_instance
instance (k:Nat) (p:Pt):Decidable (QP k p):=by unfold QP;infer_instance
instance (n:Nat) (t:Tri):Decidable (rC n t):=by unfold rC;infer_instance
theorem tV {z:Int}(h:txt z=s):qtx ((z:Int):Rat)=s:=by rw [mS,h]
theorem ME:qtx 2=[50]:=tV (z:=2) aq
theorem yp (q:Rat)(h:qtx q=s)(a:QB 22 q):dy s=q:=by rw [<- h];exact dh (bO a)
theorem ro0:dy [48]=0:=yp 0 qtx_zero aq
theorem LZ (a:List Pt)(t:Tri)(p:Pt)(j:Nat):wgt a t p j=wgt a t p (j % 3):=by
 unfold wgt;rw [show (j+1) % 3=(j % 3+1) % 3 by omega,show (j+2) % 3=(j % 3+2) % 3 by omega]
theorem Iz (t:Tri)(j:Nat):mE t j=mE t (min j 2):=by
 unfold mE;rcases (by omega:j=0∨j=1∨2<=j) with h | h | h
 ·subst h;rfl
 ·subst h;rfl
 rw [Nat.min_eq_right h,aA om_,aA om_];rfl
theorem q6:qtx 6=[54]:=by decide +kernel
def Jm (m:Nat)(u v:Int)(h:Bool):List Pt:=(shP m).map fun p=>(kT (p.1+u*1) (dU h*1),kT (p.2+v*1) (dU h*1))
theorem OG (m:Nat)(a b:Int)(h:Bool):cD m a b h=Jm m (a.tmod 8) (b.tmod 8) h:=rfl
def pZ (pts:List Pt)(tris:List Tri):Bool :=
 pts.all (fun p=>decide (QP 1 p)) && (decide pts.Nodup && (tris.all (fun t=>decide (rC pts.length t)) && (tris.all (fun t=>decide (0<dF (pts.getD t.1 (0,0)) (pts.getD t.2.1 (0,0)) (pts.getD t.2.2 (0,0)))) && (decide (cZ tris).Nodup && (np pts tris && pts.all fun p=>decide (lP pts tris p≠[]))))))
theorem all0:∀ i<15,∀ j<15,∀ h:Bool,pZ (Jm 0 ((i:Nat)-7) ((j:Nat)-7) h) (shT 0)=true:=by decide +kernel
theorem sh1 (a:cX n=true)(b:cX u=true)(c:ba x=true)(d:ba y=true):dP ⟨1,n,x,y,[],u,[],[],[],[]⟩=0:=by
 unfold dP;rw [aA am,aA (by simp [kN,a,b]),aA (by simp [lL,c,d]),aA (by simp [kR])]
theorem sh2 {d:Str}(a:cX n=true)(b:cX u=true)(c:cX l=true)(e:ba x=true)(f:ba y=true)(g:ba d=true):dP ⟨2,n,x,y,d,u,l,[],[],[]⟩=0:=by
 unfold dP;rw [aA am,aA (by simp [kN,a,b,c]),aA (by simp [lL,e,f,g]),aA (by simp [kR])]
theorem sh3 {a b c:Str}(d:cX n=true)(e:cX u=true)(f:cX l=true)(g:ba x=true)(h:ba y=true)(i:ba a=true)(j:ba b=true)(k:ba c=true):dP ⟨3,n,x,y,[],u,l,a,b,c⟩=0:=by
 unfold dP;rw [aA am,aA (by simp [kN,d,e,f]),aA (by simp [lL,g,h,i,j,k]),aA (by simp [kR])]
theorem pX (j:Nat)(a:j<3):kh (isU (rt j)) colK 0=(j:Int):=by
 rcases (by omega:j=0∨j=1∨j=2) with rfl | rfl | rfl <;> decide +kernel
theorem uv (j:Nat)(a:j<3):cX (rt j)=true:=by
 rcases (by omega:j=0∨j=1∨j=2) with rfl | rfl | rfl <;> decide +kernel
theorem M8 (i:Nat)(a:i<6):cX [111,UInt8.ofNat (49+i)]=true:=by
 rcases (by omega:i=0∨i=1∨i=2∨i=3∨i=4∨i=5) with rfl | rfl | rfl | rfl | rfl | rfl <;> decide +kernel
theorem OW {j:Nat}(c:i<6)(d:j<6)(h:([111,UInt8.ofNat (49+i)]:Str)=[111,UInt8.ofNat (49+j)]):i=j:=by
 have e:∀ a<6,∀ b<6,([111,UInt8.ofNat (49+a)]:Str)=[111,UInt8.ofNat (49+b)]->a=b:=by decide
 exact e i c j d h
theorem JP (s:Sgt):min (loU s) (upU s)<max (loU s) (upU s):=by
 unfold loU upU;split <;> omega
theorem dY (z:Int)(h:z.natAbs<100):QB 1 ((z:Int):Rat):=by
 refine ⟨?_, ?_⟩
 ·show z.natAbs<B9 ^ 1;have:B9 ^ 1=1000000000:=by decide
  omega
 show 1<B9 ^ 1;decide
theorem uu (z:Int):ff z≠0:=by
 unfold ff;split
 ·decide
 assumption
theorem oh (z:Int):-5<ff z/\ff z<5:=by
 have:=nL z;unfold ff;split <;> omega
theorem ok1 (h:QB 1 q):ba (qtx q)=true:=bO (h.le dc_)
theorem sK (n:Nat):QB 1 (kT ((n % 12:Nat):Int) 2):=qw dc_ om_ dc_
theorem NE (n:Nat):¬ (kT ((n % 12:Nat):Int) 2<0):=by
 have a:∀ k<12,¬ (kT ((k:Nat):Int) 2<0):=by decide +kernel
 exact a _ (Q2 _ dc_)
theorem JE (S:Sht)(s:Sgt)(i:Nat)(m:i<6)(j:QP 1 (lH S s))(n:lP (cD (S.kd % 8) S.a S.b S.h) (shT (S.kd % 8)) (lH S s)≠[]) :
  gz (cD (S.kd % 8) S.a S.b S.h) (shT (S.kd % 8)) colK (fJ S s i)=0:=by
 have f:=M8 i m;have c:=ok1 j.1;have hy:=ok1 j.2;have q:=JP s;have r:=Nf s;have t:=Ma s;have g:∀ o:Obs,o.x=qtx (lH S s).1->o.y=qtx (lH S s).2->Ik (cD (S.kd % 8) S.a S.b S.h) (shT (S.kd % 8)) o=true:=by
  intro o h1 h2;unfold Ik ptO;rw [h1,h2,dh c,dh hy];exact QC n
 have p:=pX (s.u1 % 3) om_;have d:=pX (max (loU s) (upU s)) om_;have e:=pX (min (loU s) (upU s)) om_;have n1:=uv (s.u1 % 3) om_;have n2:=uv (max (loU s) (upU s)) om_;have k:=uv (min (loU s) (upU s)) om_;unfold fJ gz;split
 ·rw [aA (by rw [sh1 f n1 c hy];decide),aA (by rw [g _ rfl rfl];decide),aA (by simp [Mb,p] <;> omega),aA (by simp [M1]),aA (by simp [Ko]),aA (by simp [K3])]
 split
 ·have l:=ok1 (sK s.depth);rw [aA (by rw [sh2 f n2 k c hy l];decide),aA (by rw [g _ rfl rfl];decide),aA (by simp only [Mb,d,e];simp <;> omega),aA (by simp only [M1,d,e];simp <;> omega),aA (by simp only [Ko];rw [dh l,QJ (NE s.depth)];decide),aA (by simp [K3])]
 have h0:=nL s.n0;have h1:=nL s.n1;have h2:=oh s.n2;rw [aA (by rw [sh3 f n2 k c hy (ok1 (dY _ om_)) (ok1 (dY _ om_)) (ok1 (dY _ om_))];decide),aA (by rw [g _ rfl rfl];decide),aA (by simp only [Mb,d,e];simp <;> omega),aA (by simp only [M1,d,e];simp <;> omega),aA (by simp [Ko]),aA ?_];intro h;simp only [K3,Qu,Qs] at h;have h3:=h.2;rw [<- qtx_zero] at h3;have h4:=lF h3;have h5:=uu s.n2;exact h5 (by exact_mod_cast h4)
theorem all1:∀ i<15,∀ j<15,∀ h:Bool,pZ (Jm 1 ((i:Nat)-7) ((j:Nat)-7) h) (shT 1)=true:=by decide +kernel
theorem all2:∀ i<15,∀ j<15,∀ h:Bool,pZ (Jm 2 ((i:Nat)-7) ((j:Nat)-7) h) (shT 2)=true:=by decide +kernel
theorem all3:∀ i<15,∀ j<15,∀ h:Bool,pZ (Jm 3 ((i:Nat)-7) ((j:Nat)-7) h) (shT 3)=true:=by decide +kernel
theorem all4:∀ i<15,∀ j<15,∀ h:Bool,pZ (Jm 4 ((i:Nat)-7) ((j:Nat)-7) h) (shT 4)=true:=by decide +kernel
theorem all5:∀ i<15,∀ j<15,∀ h:Bool,pZ (Jm 5 ((i:Nat)-7) ((j:Nat)-7) h) (shT 5)=true:=by decide +kernel
theorem all6:∀ i<15,∀ j<15,∀ h:Bool,pZ (Jm 6 ((i:Nat)-7) ((j:Nat)-7) h) (shT 6)=true:=by decide +kernel
theorem all7:∀ i<15,∀ j<15,∀ h:Bool,pZ (Jm 7 ((i:Nat)-7) ((j:Nat)-7) h) (shT 7)=true:=by decide +kernel
theorem vH (a:Int):∃ i:Nat,i<15/\a.tmod 8=(i:Int)-7:=by
 have h:=xX a;exact ⟨(a.tmod 8+7).toNat,by omega,by omega⟩
theorem yi (m:Nat)(g:m<8)(a b:Int)(h:Bool):pZ (cD m a b h) (shT m)=true:=by
 obtain ⟨i,c,e⟩:=vH a;obtain ⟨j,d,f⟩:=vH b;rw [OG,e,f];rcases (by omega:m=0∨m=1∨m=2∨m=3∨m=4∨m=5∨m=6∨m=7) with rfl | rfl | rfl | rfl | rfl | rfl | rfl | rfl
 ·exact all0 i c j d h
 ·exact all1 i c j d h
 ·exact all2 i c j d h
 ·exact all3 i c j d h
 ·exact all4 i c j d h
 ·exact all5 i c j d h
 ·exact all6 i c j d h
 exact all7 i c j d h
theorem Mo:∀ m:Nat,m<8->shT m≠[]/\(shT m).length<=800:=by decide
theorem G1 {a:List Pt}{b:List Tri}(h:pZ a b=true)(c:b≠[])(d:b.length<=800)(e:a.length<=400):Good a b/\∀ p∈a,lP a b p≠[]:=by
 unfold pZ at h;simp only [Qu,QD,Qs] at h;obtain ⟨f,g,i,j,k,l,m⟩:=h;exact ⟨⟨⟨f,g,i,j,k,d,e⟩,c,l⟩,m⟩
theorem fy (m:Nat)(c:m<8)(a b:Int)(h:Bool):Good (cD m a b h) (shT m)/\∀ p∈cD m a b h,lP (cD m a b h) (shT m) p≠[]:=by
 have d:=lG m a b h;obtain ⟨h0,h1⟩:=Mo m c;exact G1 (yi m c a b h) h0 h1 om_
theorem tZ (S:Sht)(s:Sgt)(c:SgtR s):QP 1 (lH S s)/\lP (cD (S.kd % 8) S.a S.b S.h) (shT (S.kd % 8)) (lH S s)≠[]:=by
 obtain ⟨d,e⟩:=fy (S.kd % 8) (Q2 _ dc_) S.a S.b S.h;have f:0<(cD (S.kd % 8) S.a S.b S.h).length:=by rw [cD,al];exact yj _
 unfold lH;split
 ·rename_i h;exact ⟨Bd dc_ dc_ c.px c.py,h⟩
 have g:s.depth % (cD (S.kd % 8) S.a S.b S.h).length<(cD (S.kd % 8) S.a S.b S.h).length:=Q2 _ f;rw [ax,ak g,Ry];exact ⟨d.ok.q _ (Rh _),e _ (Rh _)⟩
theorem ib (h:QB 1 q):(qtx q).length<=999998:=wk (fs:=[q]) (k:=1) dc_ (by intro y hy;rw [QF] at hy;rw [hy];exact h) _ (QF.2 rfl)
theorem P2 (S:Sht)(s:Sgt)(i:Nat)(c:SgtR s):ObsR (fJ S s i):=by
 have b:=(tZ S s c).1;have a:=ib b.1;have hy:=ib b.2;have d:=ib (sK s.depth);have h0:=nL s.n0;have h1:=nL s.n1;have h2:=oh s.n2;have e:=ib (dY (s.n0.tmod 5) om_);have l1:=ib (dY (s.n1.tmod 5) om_);have l2:=ib (dY (ff s.n2) om_);unfold fJ;split
 ·exact ⟨by simp,a,hy,by simp,by simp [rt],by simp,by simp,by simp,by simp⟩
 split
 ·exact ⟨by simp,a,hy,d,by simp [rt],by simp [rt],by simp,by simp,by simp⟩
 exact ⟨by simp,a,hy,by simp,by simp [rt],by simp [rt],e,l1,l2⟩
theorem wA (S:Sht)(s:Sgt)(i:Nat):(fJ S s i).name=[111,UInt8.ofNat (49+i)]:=by
 unfold fJ;split
 ·rfl
 split <;> rfl
theorem mr {S:Sht}{H:Hts}{l:List Sgt}{o:Obs}(h:(cA S H l).obs[i]?=some o):i<6/\∃ s,l[i]?=some s/\o=fJ S s i:=by
 have h1:=(aE.1 h).1;have h2:i<(qZ S l).length:=h1;rw [jJ] at h2;have h3:=Ge S (ak (show i<l.length by omega)) (show i<6 by omega);have h4:(qZ S l)[i]?=some o:=h;rw [h3] at h4;exact ⟨by omega,_,ak om_,(RS h4).symm⟩
theorem sV (S:Sht)(H:Hts)(l:List Sgt)(e:∀ s∈l,SgtR s):ix (cA S H l)=0:=by
 have f:∀ n,n<=(cA S H l).obs.length->rb (cA S H l) n=0:=by
  intro n;induction n with
  | zero=>intro _;rfl
  | succ n g =>
   intro i;have h0:=g om_;have a:(cA S H l).obs[n]?=some (cA S H l).obs[n]:=ak i;rw [uh h0 a];obtain ⟨b,s,j,m⟩:=mr a;rw [m];have c:=tZ S s (e s (Qj j));unfold obZ;rw [aA (by
    have:=JE S s n b c.1 c.2;intro h;exact h this),aA]
   intro hm;obtain ⟨o,p,d⟩:=Qq.1 hm;obtain ⟨k,x,r⟩:=List.mem_take_iff_getElem.1 p;have t:(cA S H l).obs[k]?=some o:=by rw [<- r];exact ak _
   obtain ⟨u,y,_,v⟩:=mr t;rw [v,wA,wA] at d;have:=OW u b d;omega
 unfold ix;have z:(cA S H l).obs.length<=6:=by
  show (qZ S l).length<=6;rw [jJ];omega
 have h1:BI (cA S H l).pts.length (cA S H l).terr=0:=by
  unfold BI;rw [aV (by show ((fsK _ H).map qtx).length=_;rw [al,uC];rfl)];show qI (((fsK _ H).map qtx).all ba)=0;rw [xG (fun q w=>ok1 (G9 _ H q w))];rfl
 have h2:sQ (cA S H l).col=0:=by
  show sQ colK=0;decide +kernel
 rw [aA (by rw [h1];decide),aA (by rw [h2];decide),aA om_];exact f _ (Qi _)
theorem Qa:∀ x∈colK,N6 x:=by
 intro x a;simp only [colK,Qw,Rk,SJ] at a;rcases a with rfl | rfl | rfl
 ·exact ⟨by decide +kernel,fun q h=>by simp at h,by decide⟩
 ·exact ⟨by decide +kernel,fun q h=>by simp at h;subst h;decide +kernel,by decide⟩
 exact ⟨by decide +kernel,fun q h=>by simp at h,by decide⟩
theorem HS (S:Sht)(H:Hts)(l:List Sgt)(a:∀ s∈l,SgtR s):BookR (cA S H l):=by
 refine ⟨?_,Qa,(by show colK.length<=1000000;decide), ?_⟩
 ·intro s h;obtain ⟨q,b,rfl⟩:=Qq.1 h;exact ib (G9 _ H q b)
 intro o c;obtain ⟨i,d⟩:=List.mem_iff_getElem?.1 c;obtain ⟨_,s,e,rfl⟩:=mr d;exact P2 S s i (a s (Qj e))
theorem HR (C:Mem)(i:Tabs C)(c:Value)(S:Sht)(H:Hts)(l:List Sgt)(d:∀ s∈l,SgtR s)(e:BookIn C c (cA S H l)):BookZ C c (cA S H l) 0:=by
 have f:=(fy (S.kd % 8) (Q2 _ dc_) S.a S.b S.h).1;refine ⟨e,fun D g=>?_,fun _=>by show colK≠[];decide,by show colK.length<=1000;decide,f.ok.lp⟩;have h2:=kU D (i.mono g) c _ (e.mono g) f (HS S H l d)
 rwa [sV S H l d] at h2
theorem KM (S:Sht)(H:Hts)(l:List Sgt):bs (cA S H l)=2:=rfl
theorem KN (S:Sht)(H:Hts)(l:List Sgt):0<bp (cA S H l)/\bp (cA S H l)<=6:=by
 refine ⟨?_,lG _ _ _ _⟩;show 0<(cD (S.kd % 8) S.a S.b S.h).length;rw [cD,al];exact yj _
def Ck (C:Mem)(pv:Value)(S:Sht)(H:Hts)(l:List Sgt):Prop:=∃ A c,pv=.agg ⟨MP S H (.slice A l.length c)⟩/\Sl C 9 (.slice A l.length c) (l.map N2)
structure PlanR (S:Sht)(H:Hts)(l:List Sgt):Prop where
 kd:S.kd<256
 h:PG H
 s:∀ s∈l,SgtR s
def K5 (s p:Nat)(a b:Int):Prop:=a<0∨(s:Int)<=a∨b<0∨(p:Int)<=b
instance (s p:Nat) (a b:Int):Decidable (K5 s p a b):=by unfold K5;infer_instance
def Lv (n:Nat)(x:Int):Prop:=x<0∨(n:Int)<=x
instance (n:Nat) (x:Int):Decidable (Lv n x):=by unfold Lv;infer_instance
open Go Go.Jog Go.ChangeShapes Go.WideShapes Go.ChangeAt Go.RowKit
set_option maxRecDepth 100000
theorem own:ownKnob Tryz.prog.godebug=none:=by kernel_rfl
section
variable {H:Type} {enc:TypeId × Value->H} {W:World} {spare:Nat->Bool} {held:Bool}
theorem PK {n:Nat}{c:Value}{y:DataW H × List MemPlace}(h:DataW.trod enc Tryz.prog W 0 spare held n 5 [c]=some y):∃ b:UInt8,c=.int .u8 b.toNat:=by
 obtain ⟨m,h1,_,h3⟩:=DataW.trod_int Tryz.underlying5 h;simp only [Sy,TR] at h1;subst h1;have a:0<=m/\m<256:=by
  simp [Lit.wf,IntKind.min,IntKind.max,IntKind.signed,IntKind.bits] at h3;omega
 refine ⟨UInt8.ofNat m.toNat, ?_⟩;congr 1;simp only [UInt8.toNat_ofNat'];omega
theorem vE {n:Nat}{c:Value}{y:DataW H × List MemPlace}(h:DataW.trod enc Tryz.prog W 0 spare held n 5 [c]=some y):∃ m:Nat,c=.int .u8 m/\m<256:=by
 obtain ⟨b,rfl⟩:=PK h;exact ⟨b.toNat,Z,b.toNat_lt⟩
theorem mZ {n:Nat}{c:Value}{y:DataW H × List MemPlace}(h:DataW.trod enc Tryz.prog W 0 spare held n 22 [c]=some y):∃ m:Int,c=.int .i8 m/\-128<=m/\m<=127:=by
 obtain ⟨m,h1,_,h3⟩:=DataW.trod_int Tryz.underlying22 h;simp only [Sy,TR] at h1;refine ⟨m,h1, ?_⟩;simp [Lit.wf,IntKind.min,IntKind.max,IntKind.signed,IntKind.bits] at h3;omega
theorem HQ {n:Nat}{c:Value}{y:DataW H × List MemPlace}(h:DataW.trod enc Tryz.prog W 0 spare held n 4 [c]=some y):∃ b:Bool,c=.bool b:=by
 obtain ⟨b,h1,_⟩:=DataW.trod_bool Tryz.underlying4 h;simp only [Sy,TR] at h1;exact ⟨b,h1⟩
theorem xE {t e:TypeId}{k n:Nat}{a:List Value}{y:DataW H × List MemPlace}(b:Tryz.prog.underlying t=some (.array k e))(c:Tryz.prog.cellsOf e=1)(h:DataW.trod enc Tryz.prog W 0 spare held n t a=some y) :
  ∃ m,∀ i,i<k->∃ z,DataW.trod enc Tryz.prog W 0 spare held m e ((a.drop i).take 1)=some z:=by
 obtain ⟨xs,m,_,_,_,g,d⟩:=DataW.trod_array b h;refine ⟨m,fun i f=>?_⟩;have h1:=d i f;rw [c,Sf] at h1;rw [h1,ak om_];exact ⟨_,Z⟩
theorem uX:Tryz.prog.cellsOf 5=1:=by kernel_rfl
theorem ou:Tryz.prog.cellsOf 22=1:=by kernel_rfl
theorem sT:Tryz.prog.cellsOf 4=1:=by kernel_rfl
theorem xw:Tryz.prog.cellsOf 23=2:=by kernel_rfl
theorem HH:Tryz.prog.cellsOf 137=2:=by kernel_rfl
theorem KH:Tryz.prog.cellsOf 138=3:=by kernel_rfl
theorem KG:Tryz.prog.cellsOf 26=6:=by kernel_rfl
theorem IZ {n:Nat}{c d e f:Value}{y:DataW H × List MemPlace}(h:DataW.trod enc Tryz.prog W 0 spare held n 25 [c,d,e,f]=some y):∃ S:Sht,[c,d,e,f]=([.int .u8 S.kd,.int .i8 S.a,.int .i8 S.b,.bool S.h]:List Value)/\S.kd<256:=by
 obtain ⟨y0,y1,y2,o,_,p,h0,h1,h2⟩:=Go.Deep.trod_struct3 Tryz.underlying25 h;simp only [uX,xw,sT] at h0 h1 h2;obtain ⟨kd,rfl,i⟩:=vE h0;obtain ⟨m,g⟩:=xE Tryz.underlying23 ou h1;obtain ⟨q,j⟩:=g 0 dc_;obtain ⟨r,k⟩:=g 1 dc_;obtain ⟨a,rfl,_⟩:=mZ j;obtain ⟨b,rfl,_⟩:=mZ k;obtain ⟨l,rfl⟩:=HQ h2;exact ⟨⟨kd,a,b,l⟩,Z,i⟩
theorem DC {n:Nat}{b c d e f g i:Value}{y:DataW H × List MemPlace}(h:DataW.trod enc Tryz.prog W 0 spare held n 28 [b,c,d,e,f,g,i]=some y):∃ G:Hts,[b,c,d,e,f,g,i]=O6 G/\PG G:=by
 obtain ⟨y0,y1,v,_,w,h0,h1⟩:=Go.ChangeShapes.trod_struct2 Tryz.underlying28 h;simp only [KG,sT] at h0 h1;obtain ⟨m,a⟩:=xE Tryz.underlying26 ou h0;obtain ⟨x,k⟩:=a 0 dc_;obtain ⟨A,l⟩:=a 1 dc_;obtain ⟨B,o⟩:=a 2 dc_;obtain ⟨C,p⟩:=a 3 dc_;obtain ⟨D,q⟩:=a 4 dc_;obtain ⟨E,r⟩:=a 5 dc_;obtain ⟨x0,rfl,g0⟩:=mZ k;obtain ⟨x1,rfl,F⟩:=mZ l;obtain ⟨x2,rfl,I⟩:=mZ o;obtain ⟨x3,rfl,J⟩:=mZ p;obtain ⟨s,rfl,K⟩:=mZ q;obtain ⟨t,rfl,L⟩:=mZ r;obtain ⟨u,rfl⟩:=HQ h1;refine ⟨⟨x0,x1,x2,x3,s,t,u⟩,Z, ?_⟩;intro z j;simp only [Ii,Qw,Rk,SJ] at j;rcases j with rfl | rfl | rfl | rfl | rfl | rfl <;> assumption
theorem vF {P:Program}{t:TypeId}{b c d e f:Field}{j:Nat}{a:List Value}{x:DataW H × List MemPlace}(k:P.underlying t=some (.struct #[b,c,d,e,f]))(h:DataW.trod enc P W 0 spare held j t a=some x) :
  ∃ y0 y1 y2 y3 i n,DataW.trod enc P W 0 spare held n b.type ((a.drop b.offset).take (P.cellsOf b.type))=some y0/\DataW.trod enc P W 0 spare held n c.type ((a.drop c.offset).take (P.cellsOf c.type))=some y1/\DataW.trod enc P W 0 spare held n d.type ((a.drop d.offset).take (P.cellsOf d.type))=some y2 /\
   DataW.trod enc P W 0 spare held n e.type ((a.drop e.offset).take (P.cellsOf e.type))=some y3/\DataW.trod enc P W 0 spare held n f.type ((a.drop f.offset).take (P.cellsOf f.type))=some i:=by
 obtain ⟨xs,n,_,rfl,m,l,g⟩:=DataW.trod_struct k h
 match xs,l with
 | [y0,y1,y2,y3,i],_=>exact ⟨y0,y1,y2,y3,i,n,by simpa using g 0 b rfl,by simpa using g 1 c rfl,by simpa using g 2 d rfl,by simpa using g 3 e rfl,by simpa using g 4 f rfl⟩
theorem IU {n:Nat}{a:List Value}{y:DataW H × List MemPlace}(b:a.length=9)(h:DataW.trod enc Tryz.prog W 0 spare held n 140 a=some y):∃ s:{s:Sgt // SgtR s},a=N2 s.1:=by
 obtain ⟨y0,y1,y2,y3,w,x,h0,h1,h2,h3,h4⟩:=vF Tryz.underlying140 h
 match a,b with
 | [c0,z,c2,A,B,C,D,E,F],_ =>
   simp only [uX,xw,HH,KH] at h0 h1 h2 h3 h4;obtain ⟨kd,rfl,c⟩:=vE h0;obtain ⟨G,a1⟩:=xE Tryz.underlying23 ou h1;obtain ⟨w0,e⟩:=a1 0 dc_;obtain ⟨w1,f⟩:=a1 1 dc_;obtain ⟨px,rfl,g⟩:=mZ e;obtain ⟨py,rfl,i⟩:=mZ f;obtain ⟨I,a2⟩:=xE Tryz.underlying137 uX h2;obtain ⟨J,j⟩:=a2 0 dc_;obtain ⟨K,k⟩:=a2 1 dc_;obtain ⟨u0,rfl,l⟩:=vE j;obtain ⟨u1,rfl,m⟩:=vE k;obtain ⟨d,rfl,o⟩:=vE h3;obtain ⟨L,a4⟩:=xE Tryz.underlying138 ou h4;obtain ⟨M,p⟩:=a4 0 dc_;obtain ⟨N,q⟩:=a4 1 dc_;obtain ⟨O,r⟩:=a4 2 dc_;obtain ⟨n0,rfl,t⟩:=mZ p;obtain ⟨n1,rfl,u⟩:=mZ q;obtain ⟨n2,rfl,v⟩:=mZ r;exact ⟨⟨⟨kd,px,py,u0,u1,d,n0,n1,n2⟩,⟨c,g,i,l,m,o,t,u,v⟩⟩,Z⟩
theorem Fb {b:Nat}{v:Value}{x:DataW H × List MemPlace}(h:DataW.trod enc Tryz.prog W 0 spare held b 29 [v]=some x):∃ l:List Sgt,Sl (rr W) 9 v (l.map N2)/\∀ s∈l,SgtR s:=by
 obtain ⟨l,a⟩:=Fa (fun s:{s:Sgt // SgtR s}=>N2 s.1) Tryz.underlying29 kr_ dc_ (fun n cs y a hy=>IU a hy) h;refine ⟨l.map (·.1),by rw [Q8];exact a,fun s hs=>?_⟩;obtain ⟨z,_,rfl⟩:=Qq.1 hs;exact z.2
theorem MO {n:Nat}{a:List Value}{y:DataW H × List MemPlace}(h:DataW.trod enc Tryz.prog W 0 spare held n 31 a=some y):∃ S G l,Ck (rr W) (.agg ⟨a⟩) S G l/\PlanR S G l:=by
 obtain ⟨y0,y1,y2,o,_,d,h0,h1,h2⟩:=Go.Deep.trod_struct3 Tryz.underlying31 h;have g:Tryz.prog.cellsOf 31=12:=by kernel_rfl
 have h4:Tryz.prog.cellsOf 25=4:=by kernel_rfl
 have i:Tryz.prog.cellsOf 28=7:=by kernel_rfl
 have hs:Tryz.prog.cellsOf 29=1:=by kernel_rfl
 rw [g] at d
 match a,d with
 | [c0,p,c2,q,r,s,t,u,v,w,x,z],_ =>
  simp only [h4,i,hs] at h0 h1 h2;obtain ⟨S,e,j⟩:=IZ h0;obtain ⟨G,f,k⟩:=DC h1;obtain ⟨l,b,m⟩:=Fb h2;obtain ⟨A,c,rfl,_⟩:=id b;simp only [Sy,TR] at e;obtain ⟨rfl,rfl,rfl,rfl⟩:=e;simp only [O6,Sy,TR] at f;obtain ⟨rfl,rfl,rfl,rfl,rfl,rfl,rfl⟩:=f;simp only [al] at b ⊢;exact ⟨S,G,l,⟨A,c,Z,b⟩,j,k,m⟩
end
def lS (cs:Array Value):Obj->Obj
 | .cells _ t frozen=>.cells cs t frozen
 | o=>o
def Hv:Array Value:=(Lib.deBruijn32tab.map fun z:Nat=>Value.int .u8 (z:Int)).toArray
def Hu:Array Value:=(Lib.deBruijn64tab.map fun z:Nat=>Value.int .u8 (z:Int)).toArray
def Dg:Array Value:=(Lib.pow10Tab.map fun z=>Value.int .u64 z).toArray
def FD:ByteArray:=⟨#[118,97,108,117,101,32,111,117,116,32,111,102,32,114,97,110,103,101]⟩
def CJ:ByteArray:=⟨#[105,110,118,97,108,105,100,32,115,121,110,116,97,120]⟩
noncomputable def low:Nat:=(World.holding Tryz.prog default ⟨#[],#[],[]⟩).heap.size
noncomputable def pW (os:Os):World :=
 let w0:=World.holding Tryz.prog os ⟨#[.cells #[.string FD] 412,.cells #[.string CJ] 412],#[],[]⟩
 { w0 with heap:=((((w0.heap.modify 0 (lS Hv)).modify 1 (lS Hu)).modify 3 (lS Dg)).modify 5 (lS #[.iface 410 (.pointer (some ⟨low,0,none⟩))])).modify 4 (lS #[.iface 410 (.pointer (some ⟨low+1,0,none⟩))]) }
theorem Mi {W : World} (h : laidMet Tryz.prog [("math/bits.deBruijn32tab", Rows.laid_math_bits_deBruijn32tab), ("math/bits.deBruijn64tab", Rows.laid_math_bits_deBruijn64tab), ("internal/strconv.uint64pow10", Rows.laid_internal_strconv_uint64pow10), ("strconv.ErrRange", Rows.laid_strconv_ErrRange), ("strconv.ErrSyntax", Rows.laid_strconv_ErrSyntax)] W) : Tabs (rr W) := by
 have h1:=h.tail;have h2:=h1.tail;have b:(Rows.laid_math_bits_deBruijn64tab:DataW Unit)=Lib.tabData .u8 (Lib.deBruijn64tab.map fun z:Nat=>(z:Int)):=by rfl
 rw [b] at h1;have a:=Lib.tabIs_of_head (g:=1) (t:=265) (e:=5) (n:=64) kr_ kr_ Tryz.underlying265 Tryz.underlying5 kr_ kr_ h1;have c:(Rows.laid_internal_strconv_uint64pow10:DataW Unit)=Lib.tabData .u64 Lib.pow10Tab:=by rfl
 rw [c] at h2;have d:=Lib.tabIs_of_head (g:=3) (t:=386) (e:=160) (n:=20) kr_ kr_ Tryz.underlying386 Tryz.underlying160 kr_ kr_ h2;refine ⟨VarC.ofWorld d, ?_⟩;unfold Lib.TabIs at a;rw [Q8] at a;exact VarC.ofWorld a
theorem JY:laidOutB Tryz.prog=true:=by kernel_rfl
end Go.Proofs.YthnpijdjlddpmaaGreatDoor
namespace Go.Jog
open Go
theorem VV {F:Fx}{k:List KI}{b:Fr}{C:Mem}{L:List Ent}{e:Exit}{v:Value}{t d a:Nat}{f:List Value}(i:Ent.arr v t d a f∈L)(h:∀ A c,v=.slice A a c->(0<a->∃ g,A=some ⟨g,0,none⟩)->G F k e b C L):G F k e b C L :=
 G.form i fun j _=>by
  rcases j with ⟨h1,h2⟩ | ⟨g,c,h1,_,_⟩
  ·exact h none 0 (by rw [h1,h2]) om_
  exact h _ c h1 (fun _=>⟨g,Z⟩)
end Go.Jog
namespace Go.Proofs.YthnpijdjlddpmaaGreatDoor
open Go.Proofs.Tryz
open Go Go.Jog
set_option maxRecDepth 100000
variable {C:Mem}{N:Nat}{a b:Int}{bf fs:List Rat}{h:Bool}{i j:Nat}{k:Rat}{k0 k1 k2:Int}{l:Lp.Line}{ls:List (Rat × Value)}{m n:Nat}{p:Lp.Sys}{pts:List Pt}{q:Rat}{rows:List (List Str × Str)}{s:Nat}{t:Lp.Tab}{vs:List Value}{w:Int}{wB:Value}{wF:List Value}{wL wO wW:Value}{x0 x1 x2 x3 y0 y1 y2 y3 z:Int}{α:Type}
/-! Small parts: numbers of quarters and of halves. -/
theorem AQ (a:w≠0)(h:q*w=z):q=kT z w:=by
 have c:(w:Rat)≠0:=by simpa using a
 unfold kT;rw [Rat.mkRat_eq_div];have b:q=z / w:=by grind
 rw [b];split
 ·rename_i d;have:((w.natAbs:Nat):Int)=-w:=by omega
  rw [show ((w.natAbs:Nat):Rat)=(((w.natAbs:Nat):Int):Rat) from rfl,this];simp only [Rat.intCast_neg];grind
 have:((w.natAbs:Nat):Int)=w:=by omega
 rw [show ((w.natAbs:Nat):Rat)=(((w.natAbs:Nat):Int):Rat) from rfl,this]
theorem oo (a:w≠0):kT z w*w=z:=by
 have b:(w:Rat)≠0:=by simpa using a
 have h:=AQ (q:=(z:Rat) / w) (z:=z) a (by grind);rw [<- h];grind
theorem pm (a:w≠0)(h:q*w=z)(b:z.natAbs<1000000000)(c:w.natAbs<1000000000):QB 1 q:=by
 rw [AQ a h];exact qw a b c
def iA (x0 y0 x1 y1 x2 y2:Int):Int:=(x1-x0)*(y2-y0)-(y1-y0)*(x2-x0)
def At4 (p:Pt)(x y:Int):Prop:=p.1*4=x/\p.2*4=y
def Qtr (p:Pt):Prop:=∃ x y:Int,At4 p x y/\(-600<=x/\x<=600)/\(-600<=y/\y<=600)
def Hlf (z:Rat):Prop:=∃ k:Int,z*2=k/\(-38<=k/\k<=38)
theorem mA {a b c:Pt}(d:At4 a x0 y0)(e:At4 b x1 y1)(f:At4 c x2 y2):dF a b c*16=(iA x0 y0 x1 y1 x2 y2:Int):=by
 unfold iA dF;simp only [SR,Rj];rw [<- d.1,<- d.2,<- e.1,<- e.2,<- f.1,<- f.2];grind
theorem jd {M K:Nat}(c:a.natAbs<=M)(d:b.natAbs<=K):(a*b).natAbs<=M*K:=by
 rw [RY];exact RX c d
theorem yF (h:(-600<=x0/\x0<=600)/\(-600<=y0/\y0<=600)/\(-600<=x1/\x1<=600)/\(-600<=y1/\y1<=600)/\(-600<=x2/\x2<=600)/\(-600<=y2/\y2<=600)):(iA x0 y0 x1 y1 x2 y2).natAbs<=2880000:=by
 have h1:=jd (a:=x1-x0) (b:=y2-y0) (M:=1200) (K:=1200) om_ om_;have h2:=jd (a:=y1-y0) (b:=x2-x0) (M:=1200) (K:=1200) om_ om_;unfold iA;omega
theorem wj {n d:Rat}{N W:Int}(b:n*16=N)(c:d*16=W)(a:d≠0):W≠0/\n / d*W=N:=by
 constructor
 ·intro h;subst h;exact a (by grind)
 grind
theorem Oc {t:Tri}{p:Pt}(a:∀ j,Qtr (cor pts t j))(b:dF (cor pts t 0) (cor pts t 1) (cor pts t 2)≠0)(c:Qtr p)(j:Nat):QB 1 (wgt pts t p j):=by
 obtain ⟨x0,y0,h0,d,e⟩:=a 0;obtain ⟨x1,y1,h1,f,g⟩:=a 1;obtain ⟨x2,y2,h2,h,i⟩:=a 2;obtain ⟨x3,y3,h3,k,l⟩:=a ((j+1) % 3);obtain ⟨m,n,h4,o,q⟩:=a ((j+2) % 3);obtain ⟨r,s,h5,u,v⟩:=c;obtain ⟨w,x⟩:=wj (mA h5 h3 h4) (mA h0 h1 h2) b;have k1:=yF (x0:=r) (y0:=s) (x1:=x3) (y1:=y3) (x2:=m) (y2:=n) ⟨u,v,k,l,o,q⟩;have k2:=yF (x0:=x0) (y0:=y0) (x1:=x1) (y1:=y1) (x2:=x2) (y2:=y2) ⟨d,e,f,g,h,i⟩;exact pm w x om_ om_
theorem iR {a b c:Pt}{e f g:Rat}(i:At4 a x0 y0)(j:At4 b x1 y1)(k:At4 c x2 y2)(n:e*2=k0)(o:f*2=k1)(p:g*2=k2)(l:dF a b c≠0) :
  iA x0 y0 x1 y1 x2 y2≠0/\(oT a b c e f g).1*(iA x0 y0 x1 y1 x2 y2:Int)=((2*((k1-k0)*(y2-y0)-(y1-y0)*(k2-k0)):Int):Rat)/\(oT a b c e f g).2*(iA x0 y0 x1 y1 x2 y2:Int)=((2*((x1-x0)*(k2-k0)-(k1-k0)*(x2-x0)):Int):Rat):=by
 have m:=mA i j k;have q:eD (b.1-a.1) (b.2-a.2) (c.1-a.1) (c.2-a.2)=dF a b c:=by unfold eD dF;grind
 refine ⟨fun h=>l (by rw [h] at m;grind), ?_, ?_⟩
 ·unfold oT;simp only;rw [q,<- m];unfold eD;simp only [SR,Rj];rw [<- i.2,<- j.2,<- k.2,<- n,<- o,<- p];generalize dF a b c=d at l;grind
 unfold oT;simp only;rw [q,<- m];unfold eD;simp only [SR,Rj];rw [<- i.1,<- j.1,<- k.1,<- n,<- o,<- p];generalize dF a b c=d at l;grind
theorem jV {c d:Int}(h:a.natAbs<=76/\b.natAbs<=1200/\c.natAbs<=1200/\d.natAbs<=76):(a*b-c*d).natAbs<=182400:=by
 have h1:=jd h.1 h.2.1;have h2:=jd h.2.2.1 h.2.2.2;omega
theorem IR {t:Tri}(e:∀ j,Qtr (cor pts t j))(h:dF (cor pts t 0) (cor pts t 1) (cor pts t 2)≠0)(f:∀ j,Hlf (fz fs t j)):QP 1 (dO pts fs t):=by
 obtain ⟨x0,y0,h0,i,k⟩:=e 0;obtain ⟨x1,y1,h1,l,m⟩:=e 1;obtain ⟨x2,y2,h2,n,o⟩:=e 2;obtain ⟨k0,p,v⟩:=f 0;obtain ⟨k1,q,w⟩:=f 1;obtain ⟨k2,r,x⟩:=f 2;obtain ⟨g,s,u⟩:=iR h0 h1 h2 p q r h;have y:=yF (x0:=x0) (y0:=y0) (x1:=x1) (y1:=y1) (x2:=x2) (y2:=y2) ⟨i,k,l,m,n,o⟩;have z:=jV (a:=k1-k0) (b:=y2-y0) (c:=y1-y0) (d:=k2-k0) ⟨by omega,by omega,by omega,by omega⟩;have A:=jV (a:=k1-k0) (b:=x2-x0) (c:=x1-x0) (d:=k2-k0) ⟨by omega,by omega,by omega,by omega⟩;unfold dO;exact ⟨pm g s om_ om_,pm g u om_ om_⟩
theorem Lw {t:Tri}{p:Pt}(c:At4 (cor pts t 0) x0 y0)(h:At4 (cor pts t 1) x1 y1)(i:At4 (cor pts t 2) x2 y2)(e:At4 p x3 y3)(d:fz fs t 0*2=k0)(j:fz fs t 1*2=k1)(k:fz fs t 2*2=k2)
  (l:dF (cor pts t 0) (cor pts t 1) (cor pts t 2)≠0):onQ pts fs t p*((2*iA x0 y0 x1 y1 x2 y2:Int):Rat)=((k0*iA x0 y0 x1 y1 x2 y2+((k1-k0)*(y2-y0)-(y1-y0)*(k2-k0))*(x3-x0)+((x1-x0)*(k2-k0)-(k1-k0)*(x2-x0))*(y3-y0):Int):Rat):=by
 obtain ⟨s,f,g⟩:=iR c h i d j k l;unfold onQ Ie;simp only [R0,List.foldl_nil];have a:=f;have b:=g;unfold dO;generalize (oT (cor pts t 0) (cor pts t 1) (cor pts t 2) (fz fs t 0) (fz fs t 1) (fz fs t 2)).1=u at a ⊢;generalize (oT (cor pts t 0) (cor pts t 1) (cor pts t 2) (fz fs t 0) (fz fs t 1) (fz fs t 2)).2=v at b ⊢;clear f g;generalize ((k1-k0)*(y2-y0)-(y1-y0)*(k2-k0))=n1 at a ⊢;generalize ((x1-x0)*(k2-k0)-(k1-k0)*(x2-x0))=n2 at b ⊢;generalize iA x0 y0 x1 y1 x2 y2=w at a b ⊢;simp only [SR,Rj,Rat.intCast_add] at a b ⊢;have m:=c.1;have n:=c.2;have o:=e.1;have q:=e.2;generalize fz fs t 0=x at d ⊢;rw [<- m,<- n,<- o,<- q,<- d];have r:((2:Int):Rat)=2:=rfl;rw [r] at a b ⊢;grind
theorem OR (b:(-600<=x0/\x0<=600)/\(-600<=y0/\y0<=600)/\(-600<=x1/\x1<=600)/\(-600<=y1/\y1<=600)/\(-600<=x2/\x2<=600)/\(-600<=y2/\y2<=600))(g:(-600<=x3/\x3<=600)/\(-600<=y3/\y3<=600))(h:(-38<=k0/\k0<=38)/\(-38<=k1/\k1<=38)/\(-38<=k2/\k2<=38)) :
  (k0*iA x0 y0 x1 y1 x2 y2+((k1-k0)*(y2-y0)-(y1-y0)*(k2-k0))*(x3-x0)+((x1-x0)*(k2-k0)-(k1-k0)*(x2-x0))*(y3-y0)).natAbs<=600000000:=by
 have e:=yF b;have f:=jV (a:=k1-k0) (b:=y2-y0) (c:=y1-y0) (d:=k2-k0) ⟨by omega,by omega,by omega,by omega⟩;have i:=jV (a:=k1-k0) (b:=x2-x0) (c:=x1-x0) (d:=k2-k0) ⟨by omega,by omega,by omega,by omega⟩;have j:=jd (show k0.natAbs<=38 by omega) e;have k:=jd f (show (x3-x0).natAbs<=1200 by omega);have l:=jd (show ((x1-x0)*(k2-k0)-(k1-k0)*(x2-x0)).natAbs<=182400 by omega) (show (y3-y0).natAbs<=1200 by omega);omega
theorem PY {t:Tri}{p:Pt}(a:∀ j,Qtr (cor pts t j))(c:dF (cor pts t 0) (cor pts t 1) (cor pts t 2)≠0)(b:∀ j,Hlf (fz fs t j))(n:Qtr p):QB 1 (onQ pts fs t p):=by
 obtain ⟨x0,y0,h0,d,e⟩:=a 0;obtain ⟨x1,y1,h1,f,g⟩:=a 1;obtain ⟨x2,y2,h2,h,i⟩:=a 2;obtain ⟨x3,y3,h3,o⟩:=n;obtain ⟨k0,k,q⟩:=b 0;obtain ⟨k1,l,r⟩:=b 1;obtain ⟨k2,m,s⟩:=b 2;have u:=(iR h0 h1 h2 k l m c).1;have v:=yF (x0:=x0) (y0:=y0) (x1:=x1) (y1:=y1) (x2:=x2) (y2:=y2) ⟨d,e,f,g,h,i⟩;have w:=OR ⟨d,e,f,g,h,i⟩ o ⟨q,r,s⟩;exact pm om_ (Lw h0 h1 h2 h3 k l m c) om_ om_
theorem BL (a:w=1∨w=2∨w=4)(e:-150<=z/\z<=150):∃ x:Int,kT z w*4=x/\(-600<=x/\x<=600):=by
 have h:=oo (z:=z) (w:=w) om_;have b:((1:Int):Rat)=1:=rfl;have c:((2:Int):Rat)=2:=rfl;have d:((4:Int):Rat)=4:=rfl;rcases a with rfl | rfl | rfl
 ·refine ⟨4*z, ?_,by omega⟩;rw [Rj,<- h,b,d];grind
 ·refine ⟨2*z, ?_,by omega⟩;rw [Rj,<- h,c];grind
 exact ⟨z,h,by omega⟩
theorem wu {x y n:Int}(c:n=1∨n=2)(l:-128<=x/\x<=127)(m:-128<=y/\y<=127):Qtr (dB a b h x y n):=by
 have o:=xX a;have p:=xX b;have g:dU h=1∨dU h=2:=by cases h <;> simp [dU]
 have d:dU h*n=1∨dU h*n=2∨dU h*n=4:=by rcases g with e | e <;> rcases c with f | f <;> rw [e,f] <;> omega
 obtain ⟨u,i,j⟩:=BL (z:=x+a.tmod 8*n) d (by rcases c with f | f <;> subst f <;> omega);obtain ⟨v,k,bv⟩:=BL (z:=y+b.tmod 8*n) d (by rcases c with f | f <;> subst f <;> omega);exact ⟨u,v,⟨i,k⟩,j,bv⟩
theorem AX :∀ p∈cD m a b h,Qtr p:=by
 intro p c;obtain ⟨x,d,rfl⟩:=Qq.1 c;have:=Lc m x d;exact wu (.inl Z) om_ om_
theorem zJ:Qtr (0,0):=⟨0,0,⟨by decide +kernel,by decide +kernel⟩,by decide,by decide⟩
theorem om {P:α->Prop}{l:List α}{d:α}(h:∀ x∈l,P x)(a:P d):P (l.getD i d):=by
 rw [ax];cases h1:l[i]? with
 | none=>exact a
 | some x=>exact h x (Qj h1)
theorem uO {t:Tri}(j:Nat):Qtr (cor (cD m a b h) t j):=om AX zJ
theorem Nr (n:Nat)(H:Hts):∀ q∈fsK n H,Hlf q:=by
 intro q a;obtain ⟨i,_,rfl⟩:=Qq.1 a;have b:=ES ((Ii H).getD (i % 6) 0);generalize ((Ii H).getD (i % 6) 0).tmod 20=z at b ⊢;have c:((1:Int):Rat)=1:=rfl;have d:((2:Int):Rat)=2:=rfl;rcases uz H.half with e | e
 ·have h:=oo (z:=z) (w:=1) dc_;rw [e];refine ⟨2*z, ?_,by omega⟩;rw [Rj,<- h,c,d];grind
 rw [e];exact ⟨z,oo dc_,by omega⟩
theorem tA:Hlf 0:=⟨0,by decide +kernel,by decide⟩
theorem M3:Hlf 1:=⟨2,by decide +kernel,by decide⟩
theorem LH {H:Hts}{t:Tri}(j:Nat):Hlf (fz (fsK n H) t j):=om (Nr n H) tA
theorem zV {k:Nat}{t:Tri}(j:Nat):Hlf (fz (nK n k) t j):=om (fun q a=>by
 rcases zW q a with rfl | rfl
 ·exact tA
 exact M3) tA
theorem AZ (S:Sht)(s:Sgt)(a:SgtR s):Qtr (lH S s):=by
 unfold lH;split
 ·exact wu (.inr Z) a.px a.py
 exact om AX zJ
theorem tO {P:Rat->Prop}{m:List (Nat × Rat)}(a:P 0)(h:∀ x∈m,P x.2):∀ q∈rP n m,P q:=by
 intro q b;obtain ⟨j,_,rfl⟩:=Qq.1 b;cases h1:dp m j with
 | none=>exact a
 | some v =>
  exact h _ (fX h1)
theorem ph {p k:Nat}{a:List (Nat × Rat)}{b c:Rat}(e:∀ x∈a,QB 1 x.2)(f:QB 3 b)(d:QB 1 c):N4 (iD s p k a b c):=by
 refine ⟨tO (QB_zero.le dc_) ?_,(jr d f).le dc_⟩;intro x g;obtain ⟨y,hy,rfl⟩:=Qq.1 g;exact (jr d (e y hy)).le dc_
theorem I8 {B:Bk}{o:Obs}{p:Pt}{t:Tri}{z:Rat}(c:∀ j,QB 1 (wgt B.pts t p j))(a:∀ j,QP 1 (slf B.pts t j))(d:QB 3 (kC o z))(f:o.kind≠1->o.kind≠2->QB 3 (qu o)/\QB 3 (jb o)):∀ r∈rowsO B o p t z,N4 r:=by
 have e:∀ x∈atT t (wgt B.pts t p),QB 1 x.2:=gj (c 0) (c 1) (c 2);have g:∀ x∈atT t (fun j=>(slf B.pts t j).1),QB 1 x.2:=gj (a 0).1 (a 1).1 (a 2).1;have i:∀ x∈atT t (fun j=>(slf B.pts t j).2),QB 1 x.2:=gj (a 0).2 (a 1).2 (a 2).2;intro r hr;unfold rowsO at hr;split at hr
 ·rcases Qz.1 hr with h | h
  ·split at h
   ·rw [QF.1 h];exact ph e d QB_one
   simp at h
  split at h
  ·rw [QF.1 h];exact ph e d mV
  simp at h
 rename_i h1;split at hr
 ·obtain ⟨k,_,h⟩:=List.mem_flatMap.1 hr;obtain ⟨sg,b,rfl⟩:=Qq.1 h;exact ph e d (rJ sg b)
 rename_i h2;obtain ⟨l,m⟩:=f h1 h2;obtain ⟨k,_,h⟩:=List.mem_flatMap.1 hr;rcases Qz.1 h with h | h
 ·obtain ⟨sg,b,rfl⟩:=Qq.1 h;exact ph g l (rJ sg b)
 obtain ⟨sg,b,rfl⟩:=Qq.1 h;exact ph i m (rJ sg b)
def tiK (S:Sht)(s:Sgt):Nat:=(lP (cD (S.kd % 8) S.a S.b S.h) (shT (S.kd % 8)) (lH S s)).headD 0
def tK (S:Sht)(s:Sgt):Tri:=(shT (S.kd % 8)).getD (tiK S s) (0,0,0)
def zK (S:Sht)(H:Hts)(s:Sgt):Rat:=onQ (cD (S.kd % 8) S.a S.b S.h) (fsK (cD (S.kd % 8) S.a S.b S.h).length H) (tK S s) (lH S s)
noncomputable def roK (S:Sht)(H:Hts)(l:List Sgt)(i:Nat):List RowQ:=rowsO (cA S H l) (fJ S (l.getD i Dq) i) (lH S (l.getD i Dq)) (tK S (l.getD i Dq)) (zK S H (l.getD i Dq))
theorem M6 (S:Sht)(s:Sgt)(i:Nat)(b:SgtR s):ObsAt (fJ S s i) (lH S s):=by
 have a:=(tZ S s b).1;refine ⟨?_, ?_,(FH a).1,(FH a).2, ?_⟩
 ·unfold fJ;split
  ·rfl
  split <;> rfl
 ·unfold fJ;split
  ·rfl
  split <;> rfl
 unfold fJ;split
 ·intro h;exact absurd (show (1:Int)=2 from h) dc_
 split
 ·intro _;exact ok1 (sK s.depth)
 intro h;exact absurd (show (3:Int)=2 from h) dc_
theorem M5 (S:Sht)(s:Sgt)(i:Nat):0<=kh (isU (fJ S s i).upper) colK 0:=by
 have c:=Nf s;have d:=Ma s;have a:=pX (s.u1 % 3) om_;have b:=pX (max (loU s) (upU s)) om_;unfold fJ;split
 ·simp only;rw [a];omega
 split <;> (simp only;rw [b];omega)
theorem Gf (S:Sht)(s:Sgt)(i:Nat):(fJ S s i).kind≠1->(fJ S s i).kind≠2->(ba (fJ S s i).nx=true/\ba (fJ S s i).ny=true/\ba (fJ S s i).nz=true)/\QB 1 (dy (fJ S s i).nx)/\QB 1 (dy (fJ S s i).ny)/\QB 1 (dy (fJ S s i).nz)/\dy (fJ S s i).nz≠0:=by
 have h0:=nL s.n0;have h1:=nL s.n1;have h2:=oh s.n2;have a:=dY (s.n0.tmod 5) om_;have l1:=dY (s.n1.tmod 5) om_;have l2:=dY (ff s.n2) om_;have b:=uu s.n2;unfold fJ;split
 ·intro h;exact absurd rfl h
 split
 ·intro _ h;exact absurd rfl h
 intro _ _;simp only;rw [dh (ok1 a),dh (ok1 l1),dh (ok1 l2)];exact ⟨⟨ok1 a,ok1 l1,ok1 l2⟩,a,l1,l2,by simpa using b⟩
theorem Bn (S:Sht)(s:Sgt)(i:Nat):(fJ S s i).kind=2->(fJ S s i).depth=qtx (kT ((s.depth % 12:Nat):Int) 2):=by
 unfold fJ;split
 ·intro h;exact absurd (show (1:Int)=2 from h) dc_
 split
 ·intro _;rfl
 intro h;exact absurd (show (3:Int)=2 from h) dc_
theorem JF (S:Sht)(s:Sgt)(i:Nat){z:Rat}(a:QB 1 z):QB 3 (kC (fJ S s i) z):=by
 unfold kC;split
 ·rename_i h;rw [Bn S s i h,dh (ok1 (sK s.depth))];have h:=fg a (sK s.depth);exact h.le dc_
 exact a.le dc_
theorem Gg (S:Sht)(s:Sgt)(i:Nat)(b:(fJ S s i).kind≠1)(c:(fJ S s i).kind≠2):QB 3 (qu (fJ S s i))/\QB 3 (jb (fJ S s i)):=by
 obtain ⟨_,d,l1,l2,a⟩:=Gf S s i b c;exact ⟨(js (eZ d) l2 a).le dc_,(js (eZ l1) l2 a).le dc_⟩
theorem locK (S:Sht)(s:Sgt)(c:SgtR s):(∃ r,lP (cD (S.kd % 8) S.a S.b S.h) (shT (S.kd % 8)) (lH S s)=tiK S s::r)/\(shT (S.kd % 8))[tiK S s]?=some (tK S s):=by
 have d:=(tZ S s c).2;unfold tK tiK;cases h:lP (cD (S.kd % 8) S.a S.b S.h) (shT (S.kd % 8)) (lH S s) with
 | nil=>exact absurd h d
 | cons i r =>
  have hm:i∈lP (cD (S.kd % 8) S.a S.b S.h) (shT (S.kd % 8)) (lH S s):=by rw [h];exact PH
  unfold lP at hm;have e:=QE.1 (Sn.1 hm).1;refine ⟨⟨r,Z⟩, ?_⟩;simp only [List.headD_cons];rw [ax,ak e];rfl
theorem P6 (S:Sht)(H:Hts)(l:List Sgt)(s:Sgt)(i:Nat)(c:SgtR s) :
  Fine (cA S H l) (fsK (cD (S.kd % 8) S.a S.b S.h).length H) (fJ S s i) (lH S s) (tiK S s) (tK S s) (zK S H s):=by
 obtain ⟨o,_⟩:=fy (S.kd % 8) (Q2 _ dc_) S.a S.b S.h;obtain ⟨⟨r,hr⟩,f⟩:=locK S s c;have d:=jO o.ok (Qj f);have g:=AZ S s c;have k:∀ j,QB 1 (wgt (cD (S.kd % 8) S.a S.b S.h) (tK S s) (lH S s) j):=Oc (fun j=>uO j) d g;have m:∀ j,QP 1 (slf (cD (S.kd % 8) S.a S.b S.h) (tK S s) j):=fun j=>IR (fun j=>uO j) d (fun j=>zV j);have e:QB 1 (zK S H s):=PY (fun j=>uO j) d (fun j=>LH j) g;have n:=JF S s i e;refine ⟨M6 S s i c,⟨r,hr⟩,f, ?_,e.le dc_,n.le dc_,fun j=>(k j).le dc_,M5 S s i,fun j=>(m j).le dc_, ?_, ?_⟩
 ·show EI (cD (S.kd % 8) S.a S.b S.h) (shT (S.kd % 8)) _ _=_;unfold EI;rw [hr];show Dp (zK S H s)=_;unfold Dp;rw [aV (ok1 e)]
 ·intro h1 h2;obtain ⟨h0,p,l1,l2,q⟩:=Gf S s i h1 h2;exact ⟨h0,p.le dc_,l1.le dc_,l2.le dc_,q⟩
 exact I8 k m n (Gg S s i)
theorem D7 (S:Sht)(H:Hts)(l:List Sgt)(c:∀ s∈l,SgtR s):Rich (cA S H l) (fsK (cD (S.kd % 8) S.a S.b S.h).length H) (roK S H l):=by
 refine ⟨(fy (S.kd % 8) (Q2 _ dc_) S.a S.b S.h).1,HS S H l c,sV S H l c,⟨Z,uC _ _,fun q e=>(G9 _ H q e).le dc_⟩, ?_, ?_⟩
 ·have:=(KN S H l).2;rw [KM];omega
 intro i o f;obtain ⟨g,s,d,rfl⟩:=mr f;refine ⟨_,_,_,_,P6 S H l s i (c s (Qj d)), ?_⟩;unfold roK;rw [ax,d];rfl
theorem Di (x y:Nat)(a:x<18446744073709551616)(b:y<18446744073709551616)(C:Mem):Gives cx.P 125 [.int .u64 x,.int .u64 y] C (.tuple #[.int .u64 ((x*y / 18446744073709551616:Nat):Int),.int .u64 ((x*y % 18446744073709551616:Nat):Int)]) :=
 Gives.ofCalls kr_ (fun w=>Any.bits_Mul Tryz.mul x y a b w) C
theorem FO {a:Value}{k:Nat}{b:List Value}(_d:k+m<=n)(c:m<=k)(_e:b.length=n-k) :
  aD (List.replicate k a++b) ((List.replicate k a++b).take m) k=List.replicate (k+m) a++b.drop m:=by
 have h1:(List.replicate k a++b).take m=List.replicate m a:=by
  rw [List.take_append_of_le_length (by simpa using c),List.take_replicate,RI c]
 have h2:(List.replicate k a++b).take k=List.replicate k a:=by
  rw [List.take_append_of_le_length am,List.take_replicate,Nat.min_self]
 have h3:(List.replicate k a++b).drop (k+m)=b.drop m:=by
  rw [Ta,RK,RF am,Sa];congr 1;omega
 unfold aD;rw [h1,h2,RK,h3,List.replicate_append_replicate]
theorem FI (a:Value)(n:Nat):kp [a] n=List.replicate n a:=by
 rw [eg];induction n with
 | zero=>rfl
 | succ n b=>rw [RE,RU,b,RE];rfl
theorem Js (n:Nat)(a:n<18446744073709551616)(C:Mem):Gives cx.P 125 [.int .u64 (1:Int),.int .u64 n] C (.tuple #[.int .u64 0,.int .u64 n]):=by
 have h:=Di 1 n om_ a C;have b:1*n / 18446744073709551616=0:=by omega
 have c:1*n % 18446744073709551616=n:=by omega
 rw [b,c] at h;exact h
theorem Df (C:Mem)(v:Value)(n:Nat)(s:Str)(g:Sl C 1 v [[ah s]])(y:n<=1000000):Jog.Fn cx.P 83 [v,.int .i64 n] C [] fun u _z e=>∃ b,u=.slice (some ⟨b,0,none⟩) n n/\e=[.arr u 56 1 n (List.replicate n (ah s))]:=by
 have p:=g;obtain ⟨A,c,rfl,_⟩:=p;refine Uk func83 48 U3 fun w0=>?_;refine Ua 1 [0,1] Z ?_;refine Ua 2 [0,1,10] Z ?_;refine Ud (fun h=>?_) fun h=>?_
 ·simp at h;omega
 refine Ub 2 Z fun R d=>?_;refine UQ (c:=1) U8 Z fl_ ?_;refine Ue U6 ?_;refine UQ (c:=(n:Int)) U8 (by rw [IntKind.wrap_u64];omega) fl_ ?_;refine Us (Js n om_ _) U7 fl_ ?_;refine C4 5 [0,5,6] d Z ?_;refine Ub 5 Z fun R d=>?_;refine UH U8 ?_;refine Ug [0,6,26] d Z ?_;refine Ud (fun i=>?_) fun i=>?_
 ·simp at i;omega
 refine Ub 1 Z fun R d=>?_;refine UQ (c:=(n:Int)) U8 (by rw [IntKind.wrap_i64];omega) fl_ ?_;refine Vc U9 (Qi _) (by show 16*n<=281474976710656;omega) (by simp only [maxLen];omega) fl_ (fun a=>?_);refine C4 1 [0,7] d Z ?_;refine Ub 2 Z fun R d=>?_;refine VR (j:=0) (q:=min 1 n) U12 g U2 (by rw [cU];show 0+min 1 n*1<=n*1;omega) fl_ ?_;refine C4 1 [7,8] d Z ?_;have r:aD (kp [ah []] n) (([[ah s]]:List (List Value)).take (min 1 n)).flatten 0=List.replicate (min 1 n) (ah s)++List.replicate (n-min 1 n) (ah []):=by
  rw [FI];cases n with
  | zero=>rfl
  | succ n=>rw [show min 1 (n+1)=1 by omega,RE];rfl
 refine Ut (L':=[.arr (.slice (some ⟨a,0,none⟩) n n) 56 1 n (List.replicate (min 1 n) (ah s)++List.replicate (n-min 1 n) (ah []))]) (by rw [<- r];rfl) ?_;refine G.loop (fun fr C' e t=>∃ (k:Nat),(k<=n/\min 1 n<=k)/\fr=[(7,[],.slice (some ⟨a,0,none⟩) n n),(8,[],.int .i64 k)]/\e=[.arr (.slice (some ⟨a,0,none⟩) n n) 56 1 n (List.replicate k (ah s)++List.replicate (n-k) (ah []))]/\t=n-k) (hn_ [7,8] Z) ⟨min 1 n,⟨Nat.min_le_right _ _,Qi _⟩,Z,Z,Z⟩ (fun fr B D m w x=>?_);obtain ⟨k,⟨l,E⟩,rfl,rfl,rfl⟩:=x;refine Ua 4 [7,8,37] Z ?_;refine Ud (fun f=>?_) fun f=>?_
 ·simp only [Qs] at f;have o:k<n:=by omega
  have F:1<=k:=by omega
  refine Uy [0,1,2,3,4,5,6,7,8,9] [] Z kr_ (fun R H d=>?_);refine Uh 3 Z ?_;refine UY k n n U12 (fun _=>⟨.inr ⟨_,Z⟩,.inl ⟨Z,Z⟩,.inl ⟨Z,Z⟩,l,Qi _,Qi _⟩) U2 ?_;refine Uh 2 Z ?_;refine UY 0 k n U12 (fun _=>⟨.inl ⟨Z,Z⟩,.inr ⟨_,Z⟩,.inl ⟨Z,Z⟩,Qm _,l,Qi _⟩) U2 ?_;refine VQ (j:=0) (off:=k) (g0:=a) (dl:=n-k) (dc:=n-k) (sl:=k-0) (sc:=n-0) (q:=min k (n-k)) U8 (by show some (Value.slice (if n=k then some (⟨a,0,none⟩:Addr) else (some (⟨a,0,none⟩:Addr)).map (·.add (k*1))) (n-k) (n-k))=_;rw [aA om_];simp [Addr.add_lit]) (by show some (Value.slice (if n=0 then some (⟨a,0,none⟩:Addr) else (some (⟨a,0,none⟩:Addr)).map (·.add (0*1))) (k-0) (n-0))=_;split <;> simp [Addr.add_lit]) U2 (by simp [mG,ah]) ap fl_ ?_;refine UN (((k+min k (n-k):Nat):Int)) U4 om_ om_ om_ U2 ?_;refine C4 1 [7,8] d Z ?_;refine Ut (L':=[.arr (.slice (some ⟨a,0,none⟩) n n) 56 1 n (List.replicate (k+min k (n-k)) (ah s)++List.replicate (n-(k+min k (n-k))) (ah []))]) (by rw [FO (n:=n) om_ (Nat.min_le_left _ _) am,List.drop_replicate,Nat.sub_sub];rfl) ?_;refine Un (m':=n-(k+min k (n-k))) om_ w (hn_ [7,8] Z) ⟨k+min k (n-k),⟨by omega,by omega⟩,Z,Z,Z⟩
 simp only [QH] at f;have o:k=n:=by omega
 subst o;refine Ua 2 [4] Z ?_;refine Up (UR Z Z ?_);exact ⟨a,Z,by simp⟩
theorem iW (C:Mem)(n:Nat)(a:n<=1000000):Jog.Fn cx.P 76 [.int .i64 n] C [] fun u _g c=>∃ b,u=.slice (some ⟨b,0,none⟩) n n/\c=[.arr u 56 1 n (List.replicate n (ah [48]))]:=by
 refine Uk func76 6 U3 fun w0=>?_;refine Ua 1 [0] Z ?_;refine UC [(2,3)] Z (fun R d=>?_);refine Ux [[ah [48]]] U12 (fun h _ _ e=>?_);refine Ue U6 ?_;refine D.call (Df _ _ n [48] e.m_ a) Z (.inr dc_) U6 (Qo _) fl_ (fun i _ j _ f=>?_);refine C4 1 [2] d Z ?_;obtain ⟨b,rfl,rfl⟩:=f;refine Up (UR Z Z ?_);exact ⟨b,Z,Z⟩
theorem gd {f:α->List Value}{l:List α}{x:α}(h:l[i]?=some x):(l.map f)[i]?=some (f x):=by rw [Qn,h];rfl
def yR (s:Str):List Value:=[ah s]
def aY (q:Rat):List Value:=[ah (qtx q)]
theorem BJ (l:List Rat):l.map aY=(l.map qtx).map yR:=by rw [Q8];rfl
def Ih {α:Type}(p:α->Bool):List α->Nat->Int
 | [],_=>-1
 | x::l,k=>if p x then (k:Nat) else Ih p l (k+1)
theorem nY {a:Type}{p:a->Bool}:∀ {l:List a}{i k:Nat}{x:a},l[i]?=some x->p x=true->(∀ y∈l.take i,p y=false)->Ih p l k=((k+i:Nat):Int)
 | y::l,0,k,x,h,b,_=>by
  simp only [List.getElem?_cons_zero,QW] at h;subst h;simp [Ih,b]
 | y::l,i+1,k,x,h,b,c=>by
  simp only [R7] at h;have hy:p y=false:=c y am;have:=nY (k:=k+1) h b (fun z d=>c z (by simp [d]));simp only [Ih,hy,Q9,Rx,this];omega
theorem lI {a:Type}{p:a->Bool}:∀ {l:List a}{k:Nat},(∀ y∈l,p y=false)->Ih p l k=-1
 | [],_,_=>rfl
 | y::l,k,h=>by
  simp only [Ih,h y PH,Q9,Rx];exact lI fun z b=>h z (Qt _ b)
theorem rV (p:α->Bool)(l:List α):(Ih p l 0=-1/\∀ y∈l,p y=false)∨∃ (i:Nat)(x:α),Ih p l 0=(i:Nat)/\l[i]?=some x/\p x=true/\∀ y∈l.take i,p y=false:=by
 by_cases h:∀ y∈l,p y=false
 ·exact .inl ⟨lI h,h⟩
 right;have d:∀ (l:List α),(¬ ∀ y∈l,p y=false)->∃ (i:Nat)(x:α),l[i]?=some x/\p x=true/\∀ y∈l.take i,p y=false:=by
  intro l;induction l with
  | nil=>intro h;exact absurd (fun y hy=>(by cases hy)) h
  | cons a l e =>
   intro h;by_cases b:p a=true
   ·exact ⟨0,a,Z,b,by simp⟩
   have c:p a=false:=by simpa using b
   obtain ⟨i,x,h1,h2,h3⟩:=e (fun h2=>h (fun y hy=>by
    rcases Qw.1 hy with rfl | hy
    ·exact c
    exact h2 y hy))
   refine ⟨i+1,x,by simpa using h1,h2,fun y hy=>?_⟩;rw [List.take_succ_cons] at hy;rcases Qw.1 hy with rfl | hy
   ·exact c
   exact h3 y hy
 obtain ⟨i,x,h1,h2,h3⟩:=d l h;exact ⟨i,x,by rw [nY h1 h2 h3,RG],h1,h2,h3⟩
theorem FU (C:Mem)(v:Value)(l:List Str)(g:Nat)(d:List Value)(a:Str->Bool)(e:Sl C 1 v (l.map yR))(_A:Jog.Enters cx.P g=true)
  (n:∀ x∈l,∀ D:Mem,C.le D->Gives cx.P g (ah x::d) D (.bool (a x))) :
  Gives cx.P 93 [v,.func (.func g) #[] ⟨d⟩] C (.int .i64 (Ih a l 0)):=by
 obtain ⟨o,c0,rfl,p,B,_⟩:=id e;have E:maxLen<=9223372036854775807:=by simp [maxLen]
 simp only [al] at e p ⊢;refine Uk func93 19 U3 fun w0=>?_;refine Ua 1 [0,1] Z ?_;refine Ua 3 [0,1,7,8] Z ?_;refine G.loop (fun fr C' q r=>∃ (i:Nat),(i<=l.length/\∀ y∈l.take i,a y=false)/\fr=[(0,[],.slice o l.length c0),(1,[],.func (.func g) #[] ⟨d⟩),(7,[],.int .i64 l.length),(8,[],.int .i64 i)]/\q=[]/\r=l.length-i) (hn_ [0,1,7,8] Z) ⟨0,⟨Qm _,by simp⟩,Z,Z,Z⟩ (fun fr F H m s t=>?_);obtain ⟨i,⟨I,b⟩,rfl,rfl,rfl⟩:=t;refine Ua 1 [0,1,7,8,9] Z ?_;refine Ud (fun f=>?_) fun f=>?_
 ·have h:i<l.length:=by simpa using f
  obtain ⟨x,c⟩:∃ x,l[i]?=some x:=⟨l[i],ak h⟩;refine Ua 2 [0,1,5,7,8] Z ?_;refine Ub 3 Z fun R j=>?_;refine Ur e.m_ U10 om_ (gd c) fl_ (fun J u=>?_);refine Uc u U8 ?_;refine Uo (n x (Qj c) _ mup) U7 ?_;refine Ug [0,1,5,7,8,16] j Z ?_;refine Ud (fun k=>?_) fun k=>?_
  ·have w:a x=true:=k;refine Ua 2 [4] Z ?_;refine Ui U2 ?_;exact ⟨by rw [nY c w b,RG],Z⟩
  have z:a x=false:=k;refine Uf fun R j=>?_;refine Ul _ U7 ?_;refine C4 1 [0,1,7,8] j Z ?_;refine Un (m':=l.length-(i+1)) om_ s (hn_ [0,1,7,8] Z) ⟨i+1,⟨by omega,fun y hy=>by
   rw [QO,c] at hy;rcases Qz.1 hy with hy | hy
   ·exact b y hy
   simp only [RD,QF] at hy;subst hy;exact z⟩,Z,Z,Z⟩
 have h:i=l.length:=by
  have:¬ i<l.length:=by simpa using f
  omega
 refine Ua 1 [4] Z ?_;refine Ui U2 ?_;exact ⟨by rw [h,Qv] at b;rw [lI b],Z⟩
theorem F1 (C:Mem)(v:Value)(l:List Str)(g:Nat)(b:List Value)(a:Str->Bool)(c:Sl C 1 v (l.map yR))(d:Jog.Enters cx.P g=true)
  (e:∀ x∈l,∀ D:Mem,C.le D->Gives cx.P g (ah x::b) D (.bool (a x))) :
  Gives cx.P 59 [v,.func (.func g) #[] ⟨b⟩] C (.bool (l.any a)):=by
 refine Uk func59 9 U3 fun w0=>?_;refine Ua 1 [0,1] Z ?_;refine Ub 2 Z fun R f=>?_;refine Uo (FU _ v l g b a c.m_ d (fun x h D j=>e x h D (Mem.le.trans mup j))) U7 ?_;refine C4 2 [4] f Z ?_;refine Ui U2 ?_;refine ⟨?_,Z⟩;congr 1;rcases rV a l with ⟨h1,h2⟩ | ⟨i,x,h1,h2,h3,_⟩
 ·rw [h1,List.any_eq_false.2 (fun y hy=>by rw [h2 y hy];decide)];rfl
 rw [h1,SG.2 ⟨x,Qj h2,h3⟩];exact QC om_
theorem pn (C:Mem)(a:Tabs C)(s:Str)(b:s.length<=999998):Gives cx.P 89 [ah s] C (.bool (!ba s)):=by
 refine Uk func89 6 U3 fun w0=>?_;refine Ua 1 [0] Z ?_;refine Ub 1 Z fun R c=>?_;refine Uo (dW _ a.m_ s b) U7 ?_;refine C4 2 [2] c Z ?_;refine Ui U2 ?_;exact ⟨by cases ba s <;> rfl,Z⟩
def jh (n:Int)(l:List Str):Int:=if (l.length:Int)=n then qI (l.all ba) else 5
theorem Bc (C:Mem)(e:Tabs C)(v:Value)(n:Int)(l:List Str)(a:Sl C 1 v (l.map yR))(b:∀ s∈l,s.length<=999998):Gives cx.P 88 [v,.int .i64 n] C (.int .i64 (jh n l)):=by
 obtain ⟨o,c0,rfl,f,p,_⟩:=id a;have q:maxLen<=9223372036854775807:=by simp [maxLen]
 simp only [al] at a f ⊢;refine Uk func88 13 U3 fun w0=>?_;refine Ua 1 [0,1] Z ?_;refine Ua 5 [0,5] Z ?_;refine Ud (fun h5=>?_) fun h5=>?_
 ·have g:¬ (l.length:Int)=n:=by simpa using h5
  refine Ua 1 [4] Z ?_;refine Ui U2 ?_;exact ⟨by unfold jh;rw [aA g],Z⟩
 have d:(l.length:Int)=n:=by simpa using h5
 refine Ub 1 Z fun R h=>?_;refine Uo (F1 _ _ l _ [] (fun s=>!ba s) a.m_ Z (fun s i D j=>pn D (e.mono (Mem.le.trans mup j)) s (b s i))) U7 ?_;refine C4 1 [10] h Z ?_;refine Ud (fun c=>?_) fun c=>?_
 ·have k:l.all ba=false:=by
   obtain ⟨s,h1,h2⟩:=SG.1 (show (l.any fun s=>!ba s)=true from c);exact SD.2 ⟨s,h1,by simpa using h2⟩
  refine Ua 1 [4] Z ?_;refine Ui U2 ?_;exact ⟨by unfold jh;rw [aV d,k];rfl,Z⟩
 have m:l.all ba=true:=by
  have h1:=List.any_eq_false.1 (show (l.any fun s=>!ba s)=false from c);exact QD.2 fun s b=>by simpa using h1 s b
 refine Ua 1 [4] Z ?_;refine Ui U2 ?_;exact ⟨by unfold jh;rw [aV d,m];rfl,Z⟩
def RowsT (C:Mem)(v:Value)(rows:List (List Str × Str)):Prop:=∃ vs:List Value,vs.length=rows.length/\(∀ (i:Nat)(w:Value)(r:List Str × Str),vs[i]?=some w->rows[i]?=some r->Sl C 1 w (r.1.map yR))/\Sl C 2 v (List.zipWith (fun w (r:List Str × Str)=>[w,ah r.2]) vs rows)
theorem RowsT.mono {C D:Mem}{v:Value}{a:List (List Str × Str)}(h:RowsT C v a)(b:C.le D):RowsT D v a:=by
 obtain ⟨vs,h1,h2,h3⟩:=h;exact ⟨vs,h1,fun i w r c hr=>(h2 i w r c hr).mono b,h3.mono b⟩
theorem RowsT.m_ {D:Mem}{v:Value}(h:RowsT C v rows)(a:C.le D:=by exact mup):RowsT D v rows:=RowsT.mono h a
theorem Ey {w:Value}{r:List Str × Str}(a:vs[i]?=some w)(b:rows[i]?=some r):(List.zipWith (fun w (r:List Str × Str)=>[w,ah r.2]) vs rows)[i]?=some [w,ah r.2]:=by
 rw [List.getElem?_zipWith,a,b]
theorem tw (h:vs.length=rows.length):(List.zipWith (fun w (r:List Str × Str)=>[w,ah r.2]) vs rows).length=rows.length:=by simp [h]
def Fs (n:Int)(r:List Str × Str):Int:=if jh n r.1≠0 then jh n r.1 else qI (ba r.2)
def tN (n:Int):List (List Str × Str)->Int
 | []=>0
 | r::l=>if Fs n r≠0 then Fs n r else tN n l
def KE (n:Int)(rows:List (List Str × Str))(obj:List Str):Int:=if n<0∨60<n then 3 else if 300<rows.length then 4 else if jh n obj≠0 then jh n obj else tN n rows
def Qh (rows:List (List Str × Str)):Prop:=∀ r∈rows,(∀ s∈r.1,s.length<=999998)/\r.2.length<=999998
theorem FY (C:Mem)(p:Tabs C)(n:Int)(E F:Value)(a:List (List Str × Str))(c:List Str)(M:RowsT C E a)(q:Sl C 1 F (c.map yR))(H:Qh a)(N:∀ s∈c,s.length<=999998) :
  Gives cx.P 56 [.agg ⟨[.int .i64 n,E,F]⟩] C (.int .i64 (KE n a c)):=by
 obtain ⟨vs,O,Q,t⟩:=M;obtain ⟨S,c0,rfl,T,ae,_⟩:=id t;obtain ⟨A1,c1,rfl,U,af,_⟩:=id q;have ag:maxLen<=9223372036854775807:=by simp [maxLen]
 simp only [tw O,al] at t q T U ⊢;refine Uk func56 48 U3 fun w0=>?_;refine Uf fun R b=>?_;refine Uw U6 (fun V=>?_);refine C4 1 [1] b Z ?_;refine G.freeze 0 Z (fun _ _ d=>?_);refine Ub 1 Z fun R b=>?_;refine Uc (bkT d 1) U8 ?_;refine Uh 3 Z ?_;refine UE U6 (fun _=>PtrTo.blockT (Mem.get d mup) _ 1) U3 ?_;refine Ue U6 ?_;refine UH U8 ?_;refine C4 1 [1,7] b Z ?_;refine Ud (fun u=>?_) fun u=>?_
 ·have f:n<0∨60<n:=by
   simp only [RN,Qs] at u;omega
  refine Ua 1 [2] Z ?_;refine Ui U2 ?_;exact ⟨by unfold KE;rw [aV f],Z⟩
 have f:¬ (n<0∨60<n):=by
  simp only [RQ,QH] at u;omega
 refine Ub 1 Z fun R b=>?_;refine Uc (bkT d 1) U8 ?_;refine C4 3 [1,16] b Z ?_;refine Ud (fun v=>?_) fun v=>?_
 ·have g:300<a.length:=by
   have:=aK v;omega
  refine Ua 1 [2] Z ?_;refine Ui U2 ?_;exact ⟨by unfold KE;rw [aA f,aV g],Z⟩
 have g:¬ 300<a.length:=by
  have:=Ql v;omega
 refine Ub 1 Z fun R b=>?_;refine Uc (bkT d 1) U8 ?_;refine Ue U6 ?_;refine Uc (bkT d 1) U8 ?_;refine Uo (Bc _ p.m_ _ n c q.m_ N) U7 ?_;refine C4 1 [1,3] b Z ?_;refine Ua 2 [1,3,27] Z ?_;refine Ud (fun x=>?_) fun x=>?_
 ·have y:jh n c≠0:=by simpa using x
  refine Ua 2 [2] Z ?_;refine Ui U2 ?_;exact ⟨by unfold KE;rw [aA f,aA g,aV y],Z⟩
 have y:¬ jh n c≠0:=by simpa using x
 have z:KE n a c=tN n a:=by unfold KE;rw [aA f,aA g,aA y]
 refine Ub 1 Z fun R b=>?_;refine Uc (bkT d 1) U8 ?_;refine C4 2 [1,30,31,32] b Z ?_;refine G.loop (fun fr C' W X=>∃ (i:Nat),(i<=a.length/\tN n a=tN n (a.drop i))/\fr=[(1,[],.pointer (some ⟨V,0,none⟩)),(30,[],.slice S a.length c0),(31,[],.int .i64 a.length),(32,[],.int .i64 i)]/\W=[]/\X=a.length-i) (hn_ [1,30,31,32] Z) ⟨0,⟨Qm _,Z⟩,Z,Z,Z⟩ (fun fr ah ai m _ Y=>?_);obtain ⟨i,⟨hi,e⟩,rfl,rfl,rfl⟩:=Y;refine Ua 1 [1,30,31,32,33] Z ?_;refine Ud (fun A=>?_) fun A=>?_
 ·have h:i<a.length:=by
   have:=aK A;omega
  obtain ⟨r,k⟩:∃ r,a[i]?=some r:=⟨a[i],ak h⟩;obtain ⟨w,I⟩:∃ w,vs[i]?=some w:=⟨vs[i]'om_,ak _⟩;have J:=Qj k;have K:=Q i w r I k;obtain ⟨Aw,cw,rfl,_⟩:=id K;have aa:a.drop i=r::a.drop (i+1):=QK h |>.trans (by rw [(aE.1 k).2]);rw [aa] at e;simp only [tN] at e;refine Uf fun R b=>?_;refine Ur t.m_ U10 om_ (Ey I k) fl_ (fun aj ab=>?_);refine Uc ab U8 ?_;refine Uv U5 (fun b5=>?_);refine Um (j:=0) U12 ?_;refine Ug [1,5,30,31,32] b Z ?_;refine G.freeze 0 Z (fun _ _ L=>?_);refine Ub 1 Z fun R b=>?_;refine Uc (bkT L 1) U8 ?_;refine Ue U6 ?_;refine Uc (bkT d 1) U8 ?_;refine Uo (Bc _ p.m_ _ n r.1 K.m_ (H r J).1) U7 ?_;refine C4 1 [1,5,6,30,31,32] b Z ?_;refine Ua 2 [1,5,6,30,31,32,42] Z ?_;refine Ud (fun B=>?_) fun B=>?_
  ·have l:jh n r.1≠0:=by simpa using B
   have o:Fs n r=jh n r.1:=by unfold Fs;rw [aV l]
   refine Ua 2 [2] Z ?_;refine Ui U2 ?_;exact ⟨by rw [z,e,o,aV l],Z⟩
  have l:¬ jh n r.1≠0:=by simpa using B
  have o:Fs n r=qI (ba r.2):=by unfold Fs;rw [aA l]
  refine Ub 1 Z fun R b=>?_;refine Uc (bkT L 1) U8 ?_;refine Uo (pn _ p.m_ r.2 (H r J).2) U7 ?_;refine Ug [1,30,31,32,46] b Z ?_;refine Ud (fun D=>?_) fun D=>?_
  ·have ac:ba r.2=false:=by simpa using D
   refine Ua 1 [2] Z ?_;refine Ui U2 ?_;exact ⟨by rw [z,e,o,ac];rfl,Z⟩
  have ad:ba r.2=true:=by simpa using D
  refine Uf fun R b=>?_;refine Ul _ U7 ?_;refine C4 1 [1,30,31,32] b Z ?_;refine Un (m':=a.length-(i+1)) om_ mup (hn_ [1,30,31,32] Z) ⟨i+1,⟨by omega,by rw [e,o,ad];rfl⟩,Z,Z,Z⟩
 have h:i=a.length:=by
  have:=Ql A;omega
 refine Ua 1 [2] Z ?_;refine Ui U2 ?_;exact ⟨by rw [z,e,h,Rq];rfl,Z⟩
theorem uf {a b:Rat}{k:Nat}(c:QB k a)(d:QB m b):QB (k+m) (a*b):=by
 rw [gw];refine gZ (Nat.mul_ne_zero a.den_nz b.den_nz) ?_ ?_
 ·rw [RY,Tg];exact Sj c.1 d.1
 rw [Tg];exact Sj c.2 d.2
def gR (r:List Rat × Rat):List Str × Str:=(r.1.map qtx,qtx r.2)
structure RowsQ (n:Nat)(rs:List (List Rat × Rat)):Prop where
 l:∀ r∈rs,r.1.length=n
 q:∀ r∈rs,(∀ x∈r.1,QB 23 x)/\QB 23 r.2
 m:rs.length<=150
theorem O7 {l:List Rat}(h:∀ x∈l,QB 23 x):QB 23 (l.getD j 0):=by
 rw [ax];cases e:l[j]? with
 | none=>exact ⟨by decide,by decide⟩
 | some x=>exact h x (Qj e)
theorem ub (q:Rat):decide (eL q.num<0)=decide (q<0):=by
 have h:q.num<0 ↔ q<0:=by rw [Rat.lt_iff];simp
 rw [Q4];unfold eL;by_cases h1:q.num<0
 ·rw [aV h1];exact ⟨fun _=>h.1 h1,fun _=>by decide⟩
 rw [aA h1];exact ⟨fun h2=>by split at h2 <;> exact absurd h2 dc_,fun h2=>absurd (h.2 h2) h1⟩
open Classical in
theorem sS (b:Bool):qI b=0/\b=true∨qI b=2/\b=false:=by cases b <;> simp [qI]
theorem bK:∀ q:Rat,(aY q).length=1:=fun _=>rfl
open Classical in
theorem FM (q:Rat):decide (eL q.num ≥ 0)=decide (0<=q):=by
 have h:=ub q;have h2:decide (0<=q)=!decide (q<0):=by
  rw [<- decide_not,Q4];grind
 rw [h2,<- h,<- decide_not,Q4];omega
theorem Pz:qtx 0=[48]:=by decide +kernel
theorem P8:aY 0=[Value.string ⟨#[48]⟩]:=by
 show [ah (qtx 0)]=_;rw [Pz];rfl
def zF (fs:List Rat)(s q:Nat):Rat:=if q=s then 0 else fs.getD q 0
def kK (fs bf:List Rat)(s:Nat)(k:Rat)(j:Nat):List Rat:=(List.range fs.length).map fun q=>zF fs s q+(if q<j then k*bf.getD q 0 else 0)
theorem gU :(kK fs bf s k j).length=fs.length:=by simp [kK]
theorem wm :fs.set s 0=kK fs bf s k 0:=by
 refine List.ext_getElem? fun q=>?_;unfold kK;rw [List.getElem?_set,Qn];by_cases a:q<fs.length
 ·rw [QY a];simp only [RZ,Nat.not_lt_zero,Rx];unfold zF;split
  ·next e=>rw [aV om_,aV e.symm];rw [Rat.add_zero]
  next e=>rw [aA (fun b=>e b.symm),ax,ak a];simp only [Ry];congr 1;grind
 rw [Qr om_,Qr ap];split
 ·split
  ·omega
  rfl
 rfl
theorem tX {q:Nat}(h:q<fs.length):(kK fs bf s k j)[q]?=some (zF fs s q+(if q<j then k*bf.getD q 0 else 0)):=by
 unfold kK;rw [Qn,QY h];rfl
theorem AV (h:j<fs.length):(kK fs bf s k j).set j (zF fs s j+k*bf.getD j 0)=kK fs bf s k (j+1):=by
 refine List.ext_getElem? fun q=>?_;rw [List.getElem?_set,gU];by_cases a:q<fs.length
 ·rw [tX a,tX a];by_cases e:j=q
  ·subst e;rw [aV rfl,aV a,aV om_]
  rw [aA e];by_cases h1:q<j
  ·rw [aV h1,aV om_]
  rw [aA h1,aA om_]
 rw [Qr (by rw [gU];omega),Qr (by rw [gU];omega)];split
 ·exact absurd om_ a
 rfl
theorem wo (a:bf.getD j 0=0):kK fs bf s k j=kK fs bf s k (j+1):=by
 refine List.map_congr_left fun q _=>?_;by_cases e:q=j
 ·subst e;rw [aA om_,aV om_,a];grind
 by_cases h1:q<j
 ·rw [aV h1,aV om_]
 rw [aA h1,aA om_]
theorem wn :kK fs bf s 0 j=kK fs bf s 0 0:=by
 refine List.map_congr_left fun q _=>?_;split <;> split <;> grind
theorem FJ {c bc:Rat}(_b:s<fs.length):Lp.putL ⟨c,fs⟩ s ⟨bc,bf⟩=⟨c+fs.getD s 0*bc,kK fs bf s (fs.getD s 0) fs.length⟩:=by
 unfold Lp.putL;congr 1;refine List.map_congr_left fun q a=>?_;rw [aV (QE.1 a)];rfl
theorem N9 {q:Nat}(a:∀ x∈fs,QB 40 x)(b:q<fs.length):QB 40 (zF fs s q):=by
 unfold zF;split
 ·exact ⟨by decide,by decide⟩
 rw [ax,ak b];exact a _ (Rh _)
def bE (p:Rat × Value):List Value:=[ah (qtx p.1),p.2]
theorem gE:∀ p,(bE p).length=2:=fun _=>rfl
theorem od {p:Rat × Value}(h:ls[i]?=some p):(ls.map bE).flatten.drop (i*2)=ah (qtx p.1)::p.2::(ls.map bE).flatten.drop (i*2+2):=by
 obtain ⟨h1,h2⟩:=aE.1 h;have e:=(cG gE ls i).2;have a:=(cG gE ls (i+1)).2;rw [Sb] at a;rw [e,a,QK h1,h2];rfl
theorem I3 {p:Rat × Value}(h:ls[i]?=some p):ls.set i p=ls:=by
 refine List.ext_getElem? fun j=>?_;rw [List.getElem?_set];split
 ·next e=>subst e;rw [aV (aE.1 h).1,h]
 rfl
theorem Du {p:Rat × Value}(h:ls[i]?=some p):((ls.map bE).flatten.drop (i*2)).take 1=[ah (qtx p.1)]:=by rw [od h];rfl
theorem jN {p:Rat × Value}(h:ls[i]?=some p):((ls.map bE).flatten.drop (i*2+1)).take 1=[p.2]:=by rw [<- List.drop_drop,od h];rfl
theorem yy {p:Rat × Value}(h:ls[i]?=some p)(c:Rat):aD (ls.map bE).flatten [ah (qtx c)] (i*2)=((ls.set i (c,p.2)).map bE).flatten:=by
 rw [<- bN gE (c,p.2) (aE.1 h).1];unfold aD;have:(ls.map bE).flatten.drop (i*2+1)=p.2::(ls.map bE).flatten.drop (i*2+2):=by rw [<- List.drop_drop,od h];rfl
 show _++[_]++List.drop (i*2+1) _=_++[_,_]++List.drop (i*2+2) _;rw [this];simp
theorem MG (C:Mem)(t:Tabs C)(g e f n s:Nat)(i l o p z:Value)(b d:List Rat)(c h:Rat)(ag:b.length=n)(aj:d.length=n)(hs:s<n)(q:Sl C 1 z (d.map aY))(Q:QB 40 c)(A:∀ x∈b,QB 40 x)(B:QB 40 h)(S:∀ x∈d,QB 40 x) :
  Jog.Fn cx.P 237 [.pointer (some ⟨g,4,none⟩),.int .i64 s,.agg ⟨[ah (qtx h),z]⟩] C [.obj g (.cells ⟨[i,l,o,p,ah (qtx c),.slice (some ⟨e,0,none⟩) n f]⟩ 212 (0,0)),.arr (.slice (some ⟨e,0,none⟩) n f) 56 1 n (b.map aY).flatten]
   fun u _ r=>u=.tuple #[]/\r=[.obj g (.cells ⟨[i,l,o,p,ah (qtx (c+b.getD s 0*h)),.slice (some ⟨e,0,none⟩) n f]⟩ 212 (0,0)),.arr (.slice (some ⟨e,0,none⟩) n f) 56 1 n ((kK b d s (b.getD s 0) n).map aY).flatten]:=by
 obtain ⟨T,U,rfl,V,am,_⟩:=id q;simp only [al] at V q ⊢;have D:s<b.length:=by omega
 have an:maxLen<=9223372036854775807:=by simp [maxLen]
 obtain ⟨k,E⟩:∃ k,b.getD s 0=k:=⟨_,rfl⟩;have F:b[s]?=some k:=by rw [<- E,ax,ak D];rfl
 have v:QB 40 k:=A k (Qj F);rw [E];refine Uk func237 64 U3 fun w0=>?_;refine Ut (L':=[.obj g (.cells ⟨[i,l,o,p,ah (qtx c),.slice (some ⟨e,0,none⟩) n f]⟩ 212 (0,0)),.arr (.slice (some ⟨e,0,none⟩) n f) 56 1 n (b.map aY).flatten]) Z ?_;refine Uf fun R a=>?_;refine Uw U6 (fun b5=>?_);refine Ug [0,1,5] a Z ?_;clear a R;refine G.freeze 0 Z (fun _ _ H=>?_);refine Ub 3 Z fun R a=>?_;refine Uj af U9 ?_;refine Ue U6 ?_;refine UI (s*1) U10 ai U2 ?_;refine UW ae U6 (fun _=>(by rw [eC bK F];rfl)) U2 ?_;refine C4 1 [0,1,5,6] a Z ?_;clear a R;refine Ub 3 Z fun R a=>?_;refine Uj af U9 ?_;refine Ue U6 ?_;refine UI (s*1) U10 ai U2 ?_;refine UL (j:=1) U11 (by show s*1+1<=_;rw [bR bK];omega) ?_;refine Ug [0,5,6] a Z ?_;clear a R;refine G.perm (L':=[.obj g (.cells ⟨[i,l,o,p,ah (qtx c),.slice (some ⟨e,0,none⟩) n f]⟩ 212 (0,0)),.arr (.slice (some ⟨e,0,none⟩) n f) 56 1 n ((kK b d s k 0).map aY).flatten]) (by rw [<- wm,<- bN bK 0 D,P8];exact List.Perm.swap _ _ _) ?_;refine Ua 2 [0,5,6,23] Z ?_;refine Ud (fun I=>?_) fun I=>?_
 ·have W:qtx k=[48]:=by simpa using I
  have X:k=0:=lF (W.trans (by decide +kernel:([48]:List UInt8)=qtx 0));subst X;have Y:c+0*h=c:=by grind
  refine Ut (L':=[.obj g (.cells ⟨[i,l,o,p,ah (qtx (c+0*h)),.slice (some ⟨e,0,none⟩) n f]⟩ 212 (0,0)),.arr (.slice (some ⟨e,0,none⟩) n f) 56 1 n ((kK b d s 0 n).map aY).flatten]) (by rw [Y,wn (j:=n)]) ?_;refine Up (VS Z  ?_);exact ⟨Z,Z⟩
 refine Uy [0,1,2,3,4,5,6,7,8,9,10,11,12] [(8,1),(9,1)] Z kr_ (fun R q a=>?_);refine Uh 4 Z ?_;refine Uj af U9 ?_;refine Uh 2 Z ?_;refine Uc (bkT H 1) U8 ?_;refine Uz (fun _=>(dS _ t.m_ k h 40 dc_ dc_ v B)) U9 ?_;refine Uz (fun _=>(mR _ t.m_ c (k*h) 80 dc_ dc_ (Q.le dc_) ((uf v B).le dc_))) U9 ?_;refine Uh 2 Z ?_;refine Um (j:=0) U12 ?_;refine Ug [0,5,6] a Z ?_;clear a q R;refine Ub 1 Z fun R a=>?_;refine Uc (bkT H 1) U8 ?_;refine C4 2 [0,6,37,38,39] a Z ?_;clear a R;refine G.loop (fun fr C' r μ=>∃ (j:Nat),(j<=n)/\fr=[(0,[],.pointer (some ⟨g,4,none⟩)),(6,[],ah (qtx k)),(37,[],.slice T d.length U),(38,[],.int .i64 d.length),(39,[],.int .i64 j)]/\r=[.obj g (.cells ⟨[i,l,o,p,ah (qtx (c+k*h)),.slice (some ⟨e,0,none⟩) n f]⟩ 212 (0,0)),.arr (.slice (some ⟨e,0,none⟩) n f) 56 1 n ((kK b d s k j).map aY).flatten]/\μ=n-j) (hn_ [0,6,37,38,39] Z) ⟨0,Qm _,Z,Z,Z⟩ (fun fr ao ap m J hI=>?_);obtain ⟨j,hj,rfl,rfl,rfl⟩:=hI;refine Ua 1 [0,6,37,38,39,40] Z ?_;refine Ud (fun w=>?_) fun w=>?_
 ·have K:j<n:=by
   have:=aK w;omega
  obtain ⟨x,y⟩:∃ x,d[j]?=some x:=⟨d[j]'om_,ak om_⟩;have L:QB 40 x:=S x (Qj y);have M:d.getD j 0=x:=by rw [ax,y];rfl
  have aa:(kK b d s k j)[j]?=some (zF b s j):=by
   rw [tX om_,aA (Nat.lt_irrefl _)];congr 1;grind
  have qz:=N9 (s:=s) A (show j<b.length by omega);have N:=AV (bf:=d) (s:=s) (k:=k) (show j<b.length by omega);rw [M] at N;refine Ub 1 Z fun R a=>?_;refine Ur q.m_ U10 om_ (gd y) fl_ (fun aq ab=>?_);refine Uc ab U8 ?_;refine C4 2 [0,6,7,8,37,38,39] a Z ?_;clear a R;refine Ua 2 [0,6,7,8,37,38,39,45] Z ?_;refine Ud (fun O=>?_) fun O=>?_
  ·refine Uy [0,1,2,3,4,5,6,7,8,9,10,11,12,13,14,15,16,17] [(14,1),(15,1)] Z kr_ (fun R q a=>?_);refine Uh 3 Z ?_;refine Uj af U9 ?_;refine Uh 4 Z ?_;refine Uj af U9 ?_;refine Ue U6 ?_;refine UI (j*1) U10 ai U2 ?_;refine UW ae U6 (fun _=>(by rw [eC bK aa];rfl)) U2 ?_;refine Uh 2 Z ?_;refine Uz (fun _=>(dS _ t.m_ k x 40 dc_ dc_ v L)) U9 ?_;refine Uz (fun _=>(mR _ t.m_ (zF b s j) (k*x) 80 dc_ dc_ (qz.le dc_) ((uf v L).le dc_))) U9 ?_;refine UI (j*1) U10 ai U2 ?_;refine UL (j:=1) U11 (by show j*1+1<=_;rw [bR bK,gU];omega) ?_;refine Ug [0,6,37,38,39] a Z ?_;clear a q R;refine Uf fun R a=>?_;refine Ul _ U7 ?_;refine C4 1 [0,6,37,38,39] a Z ?_;clear a R;refine G.perm (L':=[.obj g (.cells ⟨[i,l,o,p,ah (qtx (c+k*h)),.slice (some ⟨e,0,none⟩) n f]⟩ 212 (0,0)),.arr (.slice (some ⟨e,0,none⟩) n f) 56 1 n ((kK b d s k (j+1)).map aY).flatten]) (by rw [<- N,<- bN bK _ (by rw [gU];omega)];exact List.Perm.swap _ _ _) ?_;refine Un (m':=n-(j+1)) om_ J (hn_ [0,6,37,38,39] Z) ⟨j+1,om_,Z,Z,Z⟩
  have ac:x=0:=by
   have ad:qtx x=[48]:=by simpa using O
   exact lF (ad.trans (by decide +kernel:([48]:List UInt8)=qtx 0))
  rw [wo (j:=j) (by rw [M];exact ac)];refine Uf fun R a=>?_;refine Ul _ U7 ?_;refine C4 1 [0,6,37,38,39] a Z ?_;clear a R;refine Un (m':=n-(j+1)) om_ J (hn_ [0,6,37,38,39] Z) ⟨j+1,om_,Z,Z,Z⟩
 have K:j=n:=by
  have:=Ql w;omega
 rw [K];refine Vo Z ?_;exact ⟨Z,Z⟩
theorem MH (C:Mem)(t:Tabs C)(l m o i e f n s:Nat)(z:Value)(h:List (Rat × Value))(b d:List Rat)(c g:Rat)(aj:h.length=m)(q:h[i]?=some (c,.slice (some ⟨e,0,none⟩) n f))(am:b.length=n)(an:d.length=n)(hs:s<n)(r:Sl C 1 z (d.map aY))(S:QB 40 c)(A:∀ x∈b,QB 40 x)(B:QB 40 g)(T:∀ x∈d,QB 40 x) :
  Jog.Fn cx.P 237 [.pointer (some ⟨l,i*2,none⟩),.int .i64 s,.agg ⟨[ah (qtx g),z]⟩] C [.arr (.slice (some ⟨l,0,none⟩) m o) 209 2 m (h.map bE).flatten,.arr (.slice (some ⟨e,0,none⟩) n f) 56 1 n (b.map aY).flatten]
   fun u _ p=>u=.tuple #[]/\p=[.arr (.slice (some ⟨l,0,none⟩) m o) 209 2 m ((h.set i (c+b.getD s 0*g,.slice (some ⟨e,0,none⟩) n f)).map bE).flatten,.arr (.slice (some ⟨e,0,none⟩) n f) 56 1 n ((kK b d s (b.getD s 0) n).map aY).flatten]:=by
 obtain ⟨U,V,rfl,W,ao,_⟩:=id r;simp only [al] at W r ⊢;have D:s<b.length:=by omega
 have ap:maxLen<=9223372036854775807:=by simp [maxLen]
 obtain ⟨k,E⟩:∃ k,b.getD s 0=k:=⟨_,rfl⟩;have F:b[s]?=some k:=by rw [<- E,ax,ak D];rfl
 have v:QB 40 k:=A k (Qj F);rw [E];refine Uk func237 64 U3 fun w0=>?_;refine Ut (L':=[.arr (.slice (some ⟨l,0,none⟩) m o) 209 2 m (h.map bE).flatten,.arr (.slice (some ⟨e,0,none⟩) n f) 56 1 n (b.map aY).flatten]) Z ?_;refine Uf fun R a=>?_;refine Uw U6 (fun b5=>?_);refine Ug [0,1,5] a Z ?_;clear a R;refine G.freeze 0 Z (fun _ _ H=>?_);refine Ub 3 Z fun R a=>?_;refine UW af U6 (fun _=>(by rw [jN q];rfl)) U2 ?_;refine Ue U6 ?_;refine UI (s*1) U10 ai U2 ?_;refine UW ae U6 (fun _=>(by rw [eC bK F];rfl)) U2 ?_;refine C4 1 [0,1,5,6] a Z ?_;clear a R;refine Ub 3 Z fun R a=>?_;refine UW af U6 (fun _=>(by rw [jN q];rfl)) U2 ?_;refine Ue U6 ?_;refine UI (s*1) U10 ai U2 ?_;refine UL (j:=1) U11 (by show s*1+1<=_;rw [bR bK];omega) ?_;refine Ug [0,5,6] a Z ?_;clear a R;refine G.perm (L':=[.arr (.slice (some ⟨l,0,none⟩) m o) 209 2 m (h.map bE).flatten,.arr (.slice (some ⟨e,0,none⟩) n f) 56 1 n ((kK b d s k 0).map aY).flatten]) (by rw [<- wm,<- bN bK 0 D,P8];exact List.Perm.swap _ _ _) ?_;refine Ua 2 [0,5,6,23] Z ?_;refine Ud (fun I=>?_) fun I=>?_
 ·have X:qtx k=[48]:=by simpa using I
  have Y:k=0:=lF (X.trans (by decide +kernel:([48]:List UInt8)=qtx 0));subst Y;have aa:c+0*g=c:=by grind
  refine Ut (L':=[.arr (.slice (some ⟨l,0,none⟩) m o) 209 2 m ((h.set i (c+0*g,.slice (some ⟨e,0,none⟩) n f)).map bE).flatten,.arr (.slice (some ⟨e,0,none⟩) n f) 56 1 n ((kK b d s 0 n).map aY).flatten]) (by rw [aa,wn (j:=n),I3 q]) ?_;refine Up (VS Z  ?_);exact ⟨Z,Z⟩
 refine Uy [0,1,2,3,4,5,6,7,8,9,10,11,12] [(8,1),(9,1)] Z kr_ (fun R r a=>?_);refine Uh 4 Z ?_;refine UW af U6 (fun _=>(by rw [Du q];rfl)) U2 ?_;refine Uh 2 Z ?_;refine Uc (bkT H 1) U8 ?_;refine Uz (fun _=>(dS _ t.m_ k g 40 dc_ dc_ v B)) U9 ?_;refine Uz (fun _=>(mR _ t.m_ c (k*g) 80 dc_ dc_ (S.le dc_) ((uf v B).le dc_))) U9 ?_;refine Uh 2 Z ?_;refine UL (j:=0) U11 (by show i*2+1<=_;rw [bR gE];have:=(aE.1 q).1;omega) ?_;refine Ug [0,5,6] a Z ?_;clear a r R;refine Ut (L':=[.arr (.slice (some ⟨l,0,none⟩) m o) 209 2 m ((h.set i (c+k*g,.slice (some ⟨e,0,none⟩) n f)).map bE).flatten,.arr (.slice (some ⟨e,0,none⟩) n f) 56 1 n ((kK b d s k 0).map aY).flatten]) (by rw [<- yy q];rfl) ?_;have J:(h.set i (c+k*g,Value.slice (some ⟨e,0,none⟩) n f))[i]?=some (c+k*g,Value.slice (some ⟨e,0,none⟩) n f):=Tw (aE.1 q).1;refine Ub 1 Z fun R a=>?_;refine Uc (bkT H 1) U8 ?_;refine C4 2 [0,6,37,38,39] a Z ?_;clear a R;refine G.loop (fun fr C' p μ=>∃ (j:Nat),(j<=n)/\fr=[(0,[],.pointer (some ⟨l,i*2,none⟩)),(6,[],ah (qtx k)),(37,[],.slice U d.length V),(38,[],.int .i64 d.length),(39,[],.int .i64 j)]/\p=[.arr (.slice (some ⟨l,0,none⟩) m o) 209 2 m ((h.set i (c+k*g,.slice (some ⟨e,0,none⟩) n f)).map bE).flatten,.arr (.slice (some ⟨e,0,none⟩) n f) 56 1 n ((kK b d s k j).map aY).flatten]/\μ=n-j) (hn_ [0,6,37,38,39] Z) ⟨0,Qm _,Z,Z,Z⟩ (fun fr aq ar m K hI=>?_);obtain ⟨j,hj,rfl,rfl,rfl⟩:=hI;refine Ua 1 [0,6,37,38,39,40] Z ?_;refine Ud (fun w=>?_) fun w=>?_
 ·have L:j<n:=by
   have:=aK w;omega
  obtain ⟨x,y⟩:∃ x,d[j]?=some x:=⟨d[j]'om_,ak om_⟩;have M:QB 40 x:=T x (Qj y);have N:d.getD j 0=x:=by rw [ax,y];rfl
  have ab:(kK b d s k j)[j]?=some (zF b s j):=by
   rw [tX om_,aA (Nat.lt_irrefl _)];congr 1;grind
  have qz:=N9 (s:=s) A (show j<b.length by omega);have O:=AV (bf:=d) (s:=s) (k:=k) (show j<b.length by omega);rw [N] at O;refine Ub 1 Z fun R a=>?_;refine Ur r.m_ U10 om_ (gd y) fl_ (fun au ac=>?_);refine Uc ac U8 ?_;refine C4 2 [0,6,7,8,37,38,39] a Z ?_;clear a R;refine Ua 2 [0,6,7,8,37,38,39,45] Z ?_;refine Ud (fun Q=>?_) fun Q=>?_
  ·refine Uy [0,1,2,3,4,5,6,7,8,9,10,11,12,13,14,15,16,17] [(14,1),(15,1)] Z kr_ (fun R r a=>?_);refine Uh 3 Z ?_;refine UW af U6 (fun _=>(by rw [jN J];rfl)) U2 ?_;refine Uh 4 Z ?_;refine UW af U6 (fun _=>(by rw [jN J];rfl)) U2 ?_;refine Ue U6 ?_;refine UI (j*1) U10 ai U2 ?_;refine UW ae U6 (fun _=>(by rw [eC bK ab];rfl)) U2 ?_;refine Uh 2 Z ?_;refine Uz (fun _=>(dS _ t.m_ k x 40 dc_ dc_ v M)) U9 ?_;refine Uz (fun _=>(mR _ t.m_ (zF b s j) (k*x) 80 dc_ dc_ (qz.le dc_) ((uf v M).le dc_))) U9 ?_;refine UI (j*1) U10 ai U2 ?_;refine UL (j:=1) U11 (by show j*1+1<=_;rw [bR bK,gU];omega) ?_;refine Ug [0,6,37,38,39] a Z ?_;clear a r R;refine Uf fun R a=>?_;refine Ul _ U7 ?_;refine C4 1 [0,6,37,38,39] a Z ?_;clear a R;refine G.perm (L':=[.arr (.slice (some ⟨l,0,none⟩) m o) 209 2 m ((h.set i (c+k*g,.slice (some ⟨e,0,none⟩) n f)).map bE).flatten,.arr (.slice (some ⟨e,0,none⟩) n f) 56 1 n ((kK b d s k (j+1)).map aY).flatten]) (by rw [<- O,<- bN bK _ (by rw [gU];omega)];exact List.Perm.swap _ _ _) ?_;refine Un (m':=n-(j+1)) om_ K (hn_ [0,6,37,38,39] Z) ⟨j+1,om_,Z,Z,Z⟩
  have ad:x=0:=by
   have ag:qtx x=[48]:=by simpa using Q
   exact lF (ag.trans (by decide +kernel:([48]:List UInt8)=qtx 0))
  rw [wo (j:=j) (by rw [N];exact ad)];refine Uf fun R a=>?_;refine Ul _ U7 ?_;refine C4 1 [0,6,37,38,39] a Z ?_;clear a R;refine Un (m':=n-(j+1)) om_ K (hn_ [0,6,37,38,39] Z) ⟨j+1,om_,Z,Z,Z⟩
 have L:j=n:=by
  have:=Ql w;omega
 rw [L];refine Vo Z ?_;exact ⟨Z,Z⟩
open Classical in
theorem uj {l:List Nat}{x:Nat}(h:l[i]?=some x):(l.map aO)[i]?=some (aO x):=by rw [Qn,h];rfl
theorem wP {l:List Nat}{q:Nat->Prop}{o:Int}(h:Lp.LeastR l q n o):o=-1∨∃ i:Nat,o=i/\i<n:=by
 cases h with
 | none _=>exact .inl rfl
 | some i a _ _=>exact .inr ⟨i,rfl,a⟩
theorem og (C:Mem)(v:Value)(l:List Nat)(g:Nat)(f:List Value)(q:Nat->Bool)(d:Sl C 1 v (l.map aO))(_O:Jog.Enters cx.P g=true)
  (E:∀ i,i<l.length->∀ D:Mem,C.le D->Gives cx.P g (.int .i64 i::f) D (.bool (q i))) :
  Pur cx.P 180 [v,.func (.func g) #[] ⟨f⟩] C fun u _=>∃ o:Int,u=.int .i64 o/\Lp.LeastR l (fun i=>q i=true) l.length o:=by
 obtain ⟨s,c0,rfl,F,Q,_⟩:=id d;have S:maxLen<=9223372036854775807:=by simp [maxLen]
 simp only [al] at d F ⊢;refine Uk func180 33 U3 fun w0=>?_;refine Ua 1 [0,1] Z ?_;refine Ua 1 [0,1,5] Z ?_;refine Ua 3 [0,1,5,8,9,10] Z ?_;refine G.loop (fun fr C' H I=>∃ (i:Nat)(o:Int),(i<=l.length/\Lp.LeastR l (fun i=>q i=true) i o)/\fr=[(0,[],.slice s l.length c0),(1,[],.func (.func g) #[] ⟨f⟩),(5,[],.int .i64 o),(8,[],.slice s l.length c0),(9,[],.int .i64 l.length),(10,[],.int .i64 i)]/\H=[]/\I=l.length-i) (hn_ [0,1,5,8,9,10] Z) ⟨0, -1,⟨Qm _,.none fun j J=>absurd J (Nat.not_lt_zero _)⟩,Z,Z,Z⟩ (fun fr T U m t K=>?_);obtain ⟨i,o,⟨V,a⟩,rfl,rfl,rfl⟩:=K;refine Ua 1 [0,1,5,8,9,10,11] Z ?_;refine Ud (fun k=>?_) fun k=>?_
 ·have e:i<l.length:=by
   have:=aK k;omega
  obtain ⟨x,w⟩:∃ x,l[i]?=some x:=⟨l[i],ak e⟩;have y:l.getD i 0=x:=by rw [ax,w];rfl
  have n:=wP a;have L:¬ o<0->(l.map aO)[o.toNat]?=some (aO (l.getD o.toNat 0)):=fun h=>by
   rcases n with h1 | ⟨z,h1,h2⟩
   ·omega
   rw [h1,R5];exact uj (by rw [ax,ak om_];rfl)
  refine Ub 1 Z fun R b=>?_;refine Ur d.m_ U10 om_ (uj w) fl_ (fun W M=>?_);refine Uc M U8 ?_;refine C4 2 [0,1,5,6,7,8,9,10] b Z ?_;refine Ub 2 Z fun R b=>?_;refine Uo (E i e _ mup) U7 ?_;refine Uh 7 Z ?_;refine D.index U10 (fun A=>⟨d.mono mup,(by have h:decide (o<0)=false:=A.1;have:=Ql h;omega),L (by have h:decide (o<0)=false:=A.1;exact Ql h)⟩) fl_ Z (fun X N=>?_);refine UE U6 N U3 ?_;refine Ue U6 ?_;refine UH U8 ?_;refine UB U8 ?_;refine Ug [0,1,5,6,8,9,10,29] b Z ?_;refine Ud (fun p=>?_) fun p=>?_
  ·have c:q i=true/\(o<0∨x<l.getD o.toNat 0):=by
    simpa using p
   have r:Lp.LeastR l (fun i=>q i=true) (i+1) i:=by
    rcases n with h1 | ⟨z,h1,h2⟩
    ·rw [h1] at a;exact a.first c.1
    rw [h1] at a c;refine a.less c.1 ?_;rw [y];rcases c.2 with h3 | h3
    ·omega
    exact h3
   refine Ua 2 [0,1,5,8,9,10] Z ?_;refine Uf fun R b=>?_;refine Ul _ U7 ?_;refine C4 1 [0,1,5,8,9,10] b Z ?_;refine Un (m':=l.length-(i+1)) om_ t (hn_ [0,1,5,8,9,10] Z) ⟨i+1,_,⟨by omega,r⟩,Z,Z,Z⟩
  have c:q i=true->¬ (o<0∨x<l.getD o.toNat 0):=by
   simpa using p
  have r:Lp.LeastR l (fun i=>q i=true) (i+1) o:=by
   by_cases B:q i=true
   ·have h3:=c B;rcases n with h1 | ⟨z,h1,h2⟩
    ·exact absurd (.inl om_) h3
    rw [h1] at a h3 ⊢;refine a.keep ?_;rw [y];exact fun h=>h3 (.inr h)
   exact a.no B
  refine Uf fun R b=>?_;refine Ul _ U7 ?_;refine C4 1 [0,1,5,8,9,10] b Z ?_;refine Un (m':=l.length-(i+1)) om_ t (hn_ [0,1,5,8,9,10] Z) ⟨i+1,_,⟨by omega,r⟩,Z,Z,Z⟩
 have e:i=l.length:=by
  have:=Ql k;omega
 refine Ua 2 [4] Z ?_;refine Ui U2 ?_;exact ⟨Z,o,Z,by rw [<- e];exact a⟩
structure TabV (D:Mem)(b n:Nat)(t:Lp.Tab)(wB wL wO wW:Value)(wF:List Value):Prop where
 o:D b=some (.cells ⟨[.int .i64 n,wB,wL,wO,ah (qtx t.worth.c),wW]⟩ 212 (0,0))
 B:Sl D 1 wB (t.basic.map aO)
 O:Sl D 1 wO (t.others.map aO)
 W:Sl D 1 wW (t.worth.f.map aY)
 L:Sl D 2 wL (List.zipWith (fun (l:Lp.Line) w=>[ah (qtx l.c),w]) t.lines wF)
 fl:wF.length=t.lines.length
 F:∀ (i:Nat)(l:Lp.Line)(w:Value),t.lines[i]?=some l->wF[i]?=some w->Sl D 1 w (l.f.map aY)
theorem TabV.mono {D E:Mem}{b n:Nat}{t:Lp.Tab}{c d e f:Value}{g:List Value}(h:TabV D b n t c d e f g)(a:D.le E):TabV E b n t c d e f g :=
 ⟨a _ _ h.o,h.B.mono a,h.O.mono a,h.W.mono a,h.L.mono a,h.fl,fun i l w h1 h2=>(h.F i l w h1 h2).mono a⟩
theorem TabV.m_ {D E:Mem}{b:Nat}(h:TabV D b n t wB wL wO wW wF)(a:D.le E:=by exact mup):TabV E b n t wB wL wO wW wF:=TabV.mono h a
theorem fk (C:Mem)(b n v:Nat)(t:Lp.Tab)(a c d e:Value)(f:List Value)(h:TabV C b n t a c d e f) :
  Gives cx.P 177 [.pointer (some ⟨b,0,none⟩),.int .i64 v] C (.bool (decide (n<=v))):=by
 refine Uk func177 11 U3 fun w0=>?_;refine Ua 1 [0,1] Z ?_;refine Ub 4 Z fun R g=>?_;refine Uc (PtrTo.blockT (h.m_.o) _ 1) U8 ?_;refine C4 2 [4] g Z ?_;refine Ui U2 ?_;refine ⟨?_,Z⟩;congr 1;rw [Q4];omega
theorem fe {l:List Nat}(h:i<l.length):(l.map aO)[i]?=some (aO (l.getD i 0)):=uj (by rw [ax,ak h];rfl)
theorem dI {l:List Rat}(h:i<l.length):(l.map aY)[i]?=some (aY (l.getD i 0)):=gd (by rw [ax,ak h];rfl)
theorem jM {ls:List Lp.Line}{ws:List Value}(h:i<ls.length)(a:ws.length=ls.length):(List.zipWith (fun (l:Lp.Line) w=>[ah (qtx l.c),w]) ls ws)[i]?=some [ah (qtx (ls.getD i ⟨0,[]⟩).c),ws.getD i (.slice none 0 0)]:=by
 rw [List.getElem?_zipWith,ak h,ak (show i<ws.length by omega),ax,ax,ak h,ak (show i<ws.length by omega)];rfl
theorem Kg (C:Mem)(a b n i N:Nat)(t:Lp.Tab)(j k e f:Value)(g:List Value)(h:TabV C b n t j k e f g)(l:t.Ok N)(d:C a=some (.cells ⟨[.pointer (some ⟨b,0,none⟩)]⟩ 202 (0,0)))(m:i<t.basic.length)(p:QB 40 (t.line i).c) :
  Gives cx.P 181 [.int .i64 i,.pointer (some ⟨a,0,none⟩)] C (.bool (decide (n<=t.bas i) && decide ((t.line i).c<0))):=by
 obtain ⟨v,w,rfl,x,y,_⟩:=id h.B;obtain ⟨A2,c2,rfl,z,A,_⟩:=id h.L;have E:maxLen<=9223372036854775807:=by simp [maxLen]
 have F:=l.ll;refine Uk func181 25 U3 fun w0=>?_;refine Ua 1 [0,1] Z ?_;refine Uy [0,1,2,3,4,5,6,7,8,9,10,11,12,13,14,15,16,17,18,19,20,21] [(8,1)] Z kr_ (fun R G q=>?_);refine Uc (bkT d 1) U8 ?_;refine Uc (bkT d 1) U8 ?_;refine Uh 2 Z ?_;refine Uc (PtrTo.blockT (h.m_.o) _ 1) U8 ?_;refine Ue U6 ?_;refine Ur h.B.m_ U10 om_ (fe m) fl_ (fun H r=>?_);refine Uc r U8 ?_;refine UJ (fun _=>(fk _ b n (t.bas i) t _ _ e f g h.m_)) U9 ?_;refine Ue U6 ?_;refine UE U6 (fun _=>PtrTo.blockT (Mem.get d mup) _ 1) U3 ?_;refine Uh 2 Z ?_;refine UE U6 (fun _=>PtrTo.blockT (h.m_.o) _ 1) U3 ?_;refine Ue U6 ?_;refine D.index U10 (fun I=>⟨h.L.mono mup,by omega,jM om_ h.fl⟩) fl_ Z (fun J s=>?_);refine VO Z Z Z Z Z Z Z Z Z Z s fl_ Z (fun K u=>?_);refine UE U6 u U3 ?_;refine Uz (fun _=>(fU _ (t.line i).c (QG (bJ p dc_) dc_))) U9 ?_;refine Ue U6 ?_;refine UB U8 ?_;refine C4 1 [3] q Z ?_;refine Ui U2 ?_;exact ⟨by rw [ub],Z⟩
theorem ua (q:Rat):decide (0<eL q.num)=decide (0<q):=by
 have h:0<q.num ↔ 0<q:=by rw [Rat.lt_iff];simp
 rw [Q4];unfold eL;by_cases h1:q.num<0
 ·rw [aV h1];exact ⟨fun h2=>absurd h2 dc_,fun h2=>absurd (h.2 h2) om_⟩
 rw [aA h1];by_cases h2:q.num=0
 ·rw [aV h2];exact ⟨fun h3=>absurd h3 dc_,fun h3=>absurd (h.2 h3) om_⟩
 rw [aA h2];exact ⟨fun _=>h.1 om_,fun _=>by decide⟩
theorem lQ {b:Nat}(h:TabV C b n t wB wL wO wW wF)(a:t.Ok N)(c:i<t.basic.length):Sl C 1 (wF.getD i (.slice none 0 0)) ((t.line i).f.map aY)/\(t.line i).f.length=t.others.length:=by
 have d:=a.ll;have e:=h.fl;refine ⟨?_,a.fl _ (Lp.line_mem a c)⟩;refine h.F i _ _ (show t.lines[i]?=some (t.line i) from ?_) (show wF[i]?=some _ from ?_)
 ·unfold Lp.Tab.line;rw [ax,ak om_];rfl
 rw [ax,ak om_];rfl
theorem Kf (C:Mem)(a j b n i r N:Nat)(t:Lp.Tab)(p q s k:Value)(c:List Value)(h:TabV C b n t p q s k c)(d:t.Ok N)(e:C a=some (.cells ⟨[.pointer (some ⟨b,0,none⟩)]⟩ 202 (0,0)))(u:C j=some (.cells ⟨[.int .i64 r]⟩ 3 (0,0)))
  (l:r<t.basic.length) (v:i<t.others.length) (w:QB 40 ((t.line r).g i)) :
  Gives cx.P 182 [.int .i64 i,.pointer (some ⟨a,0,none⟩),.pointer (some ⟨j,0,none⟩)] C (.bool (decide (n<=t.oth i) && decide (0<(t.line r).g i))):=by
 obtain ⟨G,H,rfl,I,J,_⟩:=id h.O;obtain ⟨A2,c2,rfl,K,M,_⟩:=id h.L;obtain ⟨f,Q⟩:=lQ h d l;obtain ⟨S,T,x,U,V,_⟩:=id f;have m:=jM (ls:=t.lines) (ws:=c) (i:=r) (by rw [d.ll];exact l) h.fl;rw [x] at m f;have W:maxLen<=9223372036854775807:=by simp [maxLen]
 have X:=d.ll;refine Uk func182 29 U3 fun w0=>?_;refine Ua 1 [0,1,2] Z ?_;refine Uy [0,1,2,3,4,5,6,7,8,9,10,11,12,13,14,15,16,17,18,19,20,21,22,23,24] [(8,1)] Z kr_ (fun R Y y=>?_);refine Uc (bkT e 1) U8 ?_;refine Uc (bkT e 1) U8 ?_;refine Uh 2 Z ?_;refine Uc (PtrTo.blockT (h.m_.o) _ 1) U8 ?_;refine Ue U6 ?_;refine Ur h.O.m_ U10 om_ (fe v) fl_ (fun aa z=>?_);refine Uc z U8 ?_;refine UJ (fun _=>(fk _ b n (t.oth i) t _ _ _ k c h.m_)) U9 ?_;refine Ue U6 ?_;refine UE U6 (fun _=>PtrTo.blockT (Mem.get e mup) _ 1) U3 ?_;refine Uh 2 Z ?_;refine UE U6 (fun _=>PtrTo.blockT (h.m_.o) _ 1) U3 ?_;refine UE U6 (fun _=>PtrTo.blockT (Mem.get u mup) _ 1) U3 ?_;refine D.index U10 (fun A=>⟨h.L.mono mup,by omega,m⟩) fl_ Z (fun ab B=>?_);refine VO Z Z Z Z Z Z Z Z Z Z B fl_ Z (fun ac E=>?_);refine UE U6 E U3 ?_;refine Ue U6 ?_;refine D.index U10 (fun A=>⟨f.mono mup,by omega,dI om_⟩) fl_ Z (fun ad F=>?_);refine UE U6 F U3 ?_;refine Uz (fun _=>(fU _ ((t.line r).g i) (QG (bJ w dc_) dc_))) U9 ?_;refine Ue U6 ?_;refine UB U8 ?_;refine C4 1 [4] y Z ?_;refine Ui U2 ?_;exact ⟨by rw [<- ua],Z⟩
theorem Nc (C:Mem)(a b n i N:Nat)(t:Lp.Tab)(e f j k:Value)(d:List Value)(h:TabV C b n t e f j k d)(l:t.Ok N)(c:C a=some (.cells ⟨[.pointer (some ⟨b,0,none⟩)]⟩ 202 (0,0)))(m:i<t.others.length) :
  Gives cx.P 183 [.int .i64 i,.pointer (some ⟨a,0,none⟩)] C (.bool (!decide (n<=t.oth i) && !decide (t.worth.g i=0))):=by
 obtain ⟨s,u,rfl,v,w,_⟩:=id h.O;obtain ⟨A2,c2,rfl,x,y,_⟩:=id h.W;have z:maxLen<=9223372036854775807:=by simp [maxLen]
 have A:=l.wl;refine Uk func183 25 U3 fun w0=>?_;refine Ua 1 [0,1] Z ?_;refine Uy [0,1,2,3,4,5,6,7,8,9,10,11,12,13,14,15,16,17,18,19,20,21] [(8,1)] Z kr_ (fun R B p=>?_);refine Uc (bkT c 1) U8 ?_;refine Uc (bkT c 1) U8 ?_;refine Uh 2 Z ?_;refine Uc (PtrTo.blockT (h.m_.o) _ 1) U8 ?_;refine Ue U6 ?_;refine Ur h.O.m_ U10 om_ (fe m) fl_ (fun E q=>?_);refine Uc q U8 ?_;refine UJ (fun _=>(fk _ b n (t.oth i) t _ _ _ _ d h.m_)) U9 ?_;refine Uh 2 Z ?_;refine UE U6 (fun _=>PtrTo.blockT (Mem.get c mup) _ 1) U3 ?_;refine Uh 3 Z ?_;refine UE U6 (fun _=>PtrTo.blockT (h.m_.o) _ 1) U3 ?_;refine Ue U6 ?_;refine D.index U10 (fun F=>⟨h.W.mono mup,by omega,dI om_⟩) fl_ Z (fun G r=>?_);refine UE U6 r U3 ?_;refine Ue U6 ?_;refine UB U8 ?_;refine C4 1 [3] p Z ?_;refine Ui U2 ?_;refine ⟨?_,Z⟩;show Value.bool _=Value.bool _;congr 1;congr 1;show (!((⟨(qtx (t.worth.g i)).toArray⟩:ByteArray).data.toList == (⟨#[48]⟩:ByteArray).data.toList))=_;rw [fV]
theorem Nb (C:Mem)(a b n i N:Nat)(t:Lp.Tab)(e f j k:Value)(d:List Value)(h:TabV C b n t e f j k d)(l:t.Ok N)(c:C a=some (.cells ⟨[.pointer (some ⟨b,0,none⟩)]⟩ 202 (0,0)))(m:i<t.others.length)(p:QB 40 (t.worth.g i)) :
  Gives cx.P 184 [.int .i64 i,.pointer (some ⟨a,0,none⟩)] C (.bool (decide (n<=t.oth i) && decide (t.worth.g i<0))):=by
 obtain ⟨u,v,rfl,w,x,_⟩:=id h.O;obtain ⟨A2,c2,rfl,y,z,_⟩:=id h.W;have A:maxLen<=9223372036854775807:=by simp [maxLen]
 have B:=l.wl;refine Uk func184 25 U3 fun w0=>?_;refine Ua 1 [0,1] Z ?_;refine Uy [0,1,2,3,4,5,6,7,8,9,10,11,12,13,14,15,16,17,18,19,20,21] [(8,1)] Z kr_ (fun R E q=>?_);refine Uc (bkT c 1) U8 ?_;refine Uc (bkT c 1) U8 ?_;refine Uh 2 Z ?_;refine Uc (PtrTo.blockT (h.m_.o) _ 1) U8 ?_;refine Ue U6 ?_;refine Ur h.O.m_ U10 om_ (fe m) fl_ (fun F r=>?_);refine Uc r U8 ?_;refine UJ (fun _=>(fk _ b n (t.oth i) t _ _ _ _ d h.m_)) U9 ?_;refine Ue U6 ?_;refine UE U6 (fun _=>PtrTo.blockT (Mem.get c mup) _ 1) U3 ?_;refine Uh 3 Z ?_;refine UE U6 (fun _=>PtrTo.blockT (h.m_.o) _ 1) U3 ?_;refine Ue U6 ?_;refine D.index U10 (fun G=>⟨h.W.mono mup,by omega,dI om_⟩) fl_ Z (fun H s=>?_);refine UE U6 s U3 ?_;refine Uz (fun _=>(fU _ (t.worth.g i) (QG (bJ p dc_) dc_))) U9 ?_;refine Ue U6 ?_;refine UB U8 ?_;refine C4 1 [3] q Z ?_;refine Ui U2 ?_;exact ⟨by rw [ub],Z⟩
theorem tR (n:Nat):List.replicate n (ah [48])=((List.replicate n (0:Rat)).map aY).flatten:=by
 rw [Tn,show aY 0=[ah [48]] by unfold aY;rw [Pz]];induction n with
 | zero=>rfl
 | succ n a=>rw [RE,RE,RU,<- a];rfl
def ptF (t:Lp.Tab)(n i:Nat):List Rat:=(List.range n).map fun v=>if v∈t.basic.take i then t.sol v else 0
theorem mT :(ptF t n i).length=n:=by simp [ptF]
theorem FL {v:Nat}(h:v<n):(ptF t n i)[v]?=some (if v∈t.basic.take i then t.sol v else 0):=by
 unfold ptF;rw [Qn,QY h];rfl
theorem Jn (t:Lp.Tab)(n:Nat):ptF t n 0=List.replicate n 0:=by
 refine List.ext_getElem? fun v=>?_;by_cases h:v<n
 ·rw [FL h,R8,aV h,List.take_zero,aA Rk]
 rw [Qr (by rw [mT];omega),Qr ap]
theorem ly (h:i<t.basic.length):t.basic.take (i+1)=t.basic.take i++[t.bas i]:=by
 rw [QO];congr 1;unfold Lp.Tab.bas;rw [ax,ak h];rfl
theorem MJ (b:t.Ok N)(h:i<t.basic.length)(d:t.bas i<n):(ptF t n i).set (t.bas i) (t.line i).c=ptF t n (i+1):=by
 refine List.ext_getElem? fun v=>?_;rw [List.getElem?_set,mT];by_cases a:v<n
 ·rw [FL a,FL a,ly h];by_cases e:t.bas i=v
  ·subst e;rw [aV rfl,aV a,aV am,Lp.sol_bas b h]
  rw [aA e];by_cases hm:v∈t.basic.take i
  ·rw [aV hm,aV (by simp [hm])]
  rw [aA hm,aA (by simp [hm];exact fun h2=>e h2.symm)]
 rw [aA om_,Qr (by rw [mT];omega),Qr (by rw [mT];omega)]
theorem Jo (h:i<t.basic.length)(a:n<=t.bas i):ptF t n i=ptF t n (i+1):=by
 refine List.map_congr_left fun v hm=>?_;have b:=QE.1 hm;rw [ly h];by_cases hm:v∈t.basic.take i
 ·rw [aV hm,aV (by simp [hm])]
 rw [aA hm,aA (by simp [hm];omega)]
theorem MK (a:t.Ok N):ptF t n t.basic.length=(List.range n).map t.sol:=by
 refine List.map_congr_left fun v _=>?_;rw [Qv];split
 ·rfl
 next h=>exact (Lp.sol_oth a h).symm
theorem Bb (C:Mem)(b n N:Nat)(t:Lp.Tab)(w x p q:Value)(r:List Value)(h:TabV C b n t w x p q r)(f:t.Ok N)(y:n<=1000000) :
  Jog.Fn cx.P 119 [.pointer (some ⟨b,0,none⟩)] C [] fun u _ c=>∃ g,u=.slice (some ⟨g,0,none⟩) n n/\c=[.arr u 56 1 n (((List.range n).map t.sol).map aY).flatten]:=by
 obtain ⟨z,s,rfl,A,Q,_⟩:=id h.B;obtain ⟨A2,c2,rfl,S,T,_⟩:=id h.L;have E:=h.B;have U:t.basic.length<=s:=by rwa [al] at A
 have V:maxLen<=9223372036854775807:=by simp [maxLen]
 have W:=f.ll;have F:=h.fl;refine Uk func119 38 U3 fun w0=>?_;refine Ua 1 [0] Z ?_;refine UC [(4,3)] Z (fun R a=>?_);refine Uh 3 Z ?_;refine Uc (PtrTo.blockT (h.m_.o) _ 1) U8 ?_;refine D.call (iW _ n y) Z (.inr dc_) U6 (Qo _) fl_ (fun X _ Y _ H=>?_);obtain ⟨g,rfl,rfl⟩:=H;refine C4 1 [0,3] a Z ?_;clear a R;refine Ub 3 Z fun R a=>?_;refine Uc (PtrTo.blockT (h.m_.o) _ 1) U8 ?_;refine C4 2 [0,3,14,15,16] a Z ?_;clear a R;refine Ut (L':=[.arr (.slice (some ⟨g,0,none⟩) n n) 56 1 n ((ptF t n 0).map aY).flatten]) (by rw [Jn,<- tR];rfl) ?_;refine G.loop (fun fr C' c I=>∃ (i:Nat),(i<=t.basic.length)/\fr=[(0,[],.pointer (some ⟨b,0,none⟩)),(3,[],.slice (some ⟨g,0,none⟩) n n),(14,[],.slice z (t.basic.map aO).length s),(15,[],.int .i64 (t.basic.map aO).length),(16,[],.int .i64 i)]/\c=[.arr (.slice (some ⟨g,0,none⟩) n n) 56 1 n ((ptF t n i).map aY).flatten]/\I=t.basic.length-i) (hn_ [0,3,14,15,16] Z) ⟨0,Qm _,Z,Z,Z⟩ (fun fr aa ab m v J=>?_);obtain ⟨i,hi,rfl,rfl,rfl⟩:=J;refine Ua 1 [0,3,14,15,16,17] Z ?_;refine Ud (fun k=>?_) fun k=>?_
 ·have d:i<t.basic.length:=by
   have:=aK k;rw [al] at this;omega
  refine Ub 1 Z fun R a=>?_;refine Ur E.m_ U10 om_ (show (t.basic.map aO)[i]?=some (aO (t.bas i)) from fe d) fl_ (fun ac K=>?_);refine Uc K U8 ?_;refine C4 2 [0,3,4,5,14,15,16] a Z ?_;clear a R;refine Ub 2 Z fun R a=>?_;refine Uo (fk _ b n (t.bas i) t _ _ p q r h.m_) U7 ?_;refine C4 1 [0,3,4,5,14,15,16,24] a Z ?_;clear a R;refine Ud (fun l=>?_) fun l=>?_
  ·have e:t.bas i<n:=by
    have ad:¬ n<=t.bas i:=by simpa using l
    omega
   refine Ub 5 Z fun R a=>?_;refine Uc (PtrTo.blockT (h.m_.o) _ 1) U8 ?_;refine Ue U6 ?_;refine Ur h.L.m_ U10 om_ (jM om_ F) fl_ (fun ae M=>?_);refine Vy M U10 fl_ (fun af O=>?_);refine Uc O U8 ?_;refine UI (t.bas i*1) U10 ai U2 ?_;refine UL (j:=0) U11 (by show t.bas i*1+1<=_;rw [bR bK,mT];omega) ?_;refine Ug [0,3,14,15,16] a Z ?_;clear a R;refine Uf fun R a=>?_;refine Ul _ U7 ?_;refine C4 1 [0,3,14,15,16] a Z ?_;clear a R;refine Ut (L':=[.arr (.slice (some ⟨g,0,none⟩) n n) 56 1 n ((ptF t n (i+1)).map aY).flatten]) (by rw [<- MJ f d e,<- bN bK _ (by rw [mT];exact e)];rfl) ?_;refine Un (m':=t.basic.length-(i+1)) om_ v (hn_ [0,3,14,15,16] Z) ⟨i+1,om_,Z,Z,Z⟩
  have e:n<=t.bas i:=by simpa using l
  rw [Jo d e];refine Uf fun R a=>?_;refine Ul _ U7 ?_;refine C4 1 [0,3,14,15,16] a Z ?_;clear a R;refine Un (m':=t.basic.length-(i+1)) om_ v (hn_ [0,3,14,15,16] Z) ⟨i+1,om_,Z,Z,Z⟩
 have d:i=t.basic.length:=by
  have:=Ql k;rw [al] at this;omega
 refine Ua 2 [2] Z ?_;refine Up (UR Z Z ?_);exact ⟨g,Z,by rw [d,MK f]⟩
def duF (p:Lp.Sys)(t:Lp.Tab)(l:Lp.Line)(i:Nat):List Rat:=(List.range p.m).map fun r=>if p.n+r∈t.others.take i then Lp.dualV p t l r else 0
theorem ng :(duF p t l i).length=p.m:=by simp [duF]
theorem Hf {r:Nat}(h:r<p.m):(duF p t l i)[r]?=some (if p.n+r∈t.others.take i then Lp.dualV p t l r else 0):=by
 unfold duF;rw [Qn,QY h];rfl
theorem Kk (p:Lp.Sys)(t:Lp.Tab)(l:Lp.Line):duF p t l 0=List.replicate p.m 0:=by
 refine List.ext_getElem? fun v=>?_;by_cases h:v<p.m
 ·rw [Hf h,R8,aV h,List.take_zero,aA Rk]
 rw [Qr (by rw [ng];omega),Qr ap]
theorem Ah (h:i<t.others.length):t.others.take (i+1)=t.others.take i++[t.oth i]:=by
 rw [QO];congr 1;unfold Lp.Tab.oth;rw [ax,ak h];rfl
theorem Nw (b:Lp.TabOf p t)(h:i<t.others.length)(c:p.n<=t.oth i):(duF p t l i).set (t.oth i-p.n) (l.g i)=duF p t l (i+1):=by
 refine List.ext_getElem? fun v=>?_;rw [List.getElem?_set,ng];by_cases a:v<p.m
 ·rw [Hf a,Hf a,Ah h];by_cases e:t.oth i-p.n=v
  ·subst e;rw [aV rfl,aV a,aV (by rw [show p.n+(t.oth i-p.n)=t.oth i by omega];simp),Lp.dualV_at b h c]
  rw [aA e];by_cases hm:p.n+v∈t.others.take i
  ·rw [aV hm,aV (by simp [hm])]
  rw [aA hm,aA (by simp [hm];omega)]
 rw [Qr (by rw [ng];omega),Qr (by rw [ng];omega)];have:=b.ok.lt _ (Qz.2 (.inr (Lp.oth_mem h)));split
 ·exact aA om_
 rfl
theorem Kl (h:i<t.others.length)(a:t.oth i<p.n):duF p t l i=duF p t l (i+1):=by
 refine List.map_congr_left fun v _=>?_;rw [Ah h];by_cases hm:p.n+v∈t.others.take i
 ·rw [aV hm,aV (by simp [hm])]
 rw [aA hm,aA (by simp [hm];omega)]
theorem Nx :duF p t l t.others.length=(List.range p.m).map (Lp.dualV p t l):=by
 refine List.map_congr_left fun v _=>?_;rw [Qv];split
 ·rfl
 next h=>exact (Lp.dualV_none h).symm
theorem He (C:Mem)(p:Lp.Sys)(b:Nat)(t:Lp.Tab)(l:Lp.Line)(E F H s w:Value)(v:List Value)(h:TabV C b p.n t E F H s v)(x:Lp.TabOf p t)(I:p.m<=1000000)(y:Sl C 1 w (l.f.map aY))(X:l.f.length=t.others.length) :
  Jog.Fn cx.P 121 [.pointer (some ⟨b,0,none⟩),.agg ⟨[ah (qtx l.c),w]⟩,.int .i64 p.m] C [] fun u _ e=>∃ g,u=.slice (some ⟨g,0,none⟩) p.m p.m/\e=[.arr u 56 1 p.m (((List.range p.m).map (Lp.dualV p t l)).map aY).flatten]:=by
 obtain ⟨J,z,rfl,K,Y,_⟩:=id h.O;obtain ⟨A3,c3,rfl,aa,ab,_⟩:=id y;have L:=h.O;have ac:t.others.length<=z:=by rwa [al] at K
 have ad:maxLen<=9223372036854775807:=by simp [maxLen]
 refine Uk func121 40 U3 fun w0=>?_;refine Uf fun R a=>?_;refine Uw U6 (fun M=>?_);refine C4 1 [0,2,4] a Z ?_;refine G.freeze 0 Z (fun _ _ N=>?_);refine UC [(1,3)] Z (fun R a=>?_);refine Ue U6 ?_;refine D.call (iW _ p.m I) Z (.inr dc_) U6 (Qo _) fl_ (fun ae _ af _ Q=>?_);obtain ⟨g,rfl,rfl⟩:=Q;refine C4 1 [0,4,7] a Z ?_;refine Ub 3 Z fun R a=>?_;refine Uc (PtrTo.blockT (h.m_.o) _ 1) U8 ?_;refine C4 2 [0,4,7,15,16,17] a Z ?_;refine Ut (L':=[.arr (.slice (some ⟨g,0,none⟩) p.m p.m) 56 1 p.m ((duF p t l 0).map aY).flatten]) (by rw [Kk,<- tR];rfl) ?_;refine G.loop (fun fr C' e S=>∃ (i:Nat),(i<=t.others.length)/\fr=[(0,[],.pointer (some ⟨b,0,none⟩)),(4,[],.pointer (some ⟨M,0,none⟩)),(7,[],.slice (some ⟨g,0,none⟩) p.m p.m),(15,[],.slice J (t.others.map aO).length z),(16,[],.int .i64 (t.others.map aO).length),(17,[],.int .i64 i)]/\e=[.arr (.slice (some ⟨g,0,none⟩) p.m p.m) 56 1 p.m ((duF p t l i).map aY).flatten]/\S=t.others.length-i) (hn_ [0,4,7,15,16,17] Z) ⟨0,Qm _,Z,Z,Z⟩ (fun fr ag aj m A T=>?_);obtain ⟨i,hi,rfl,rfl,rfl⟩:=T;refine Ua 1 [0,4,7,15,16,17,18] Z ?_;refine Ud (fun k=>?_) fun k=>?_
 ·have d:i<t.others.length:=by
   have:=aK k;rw [al] at this;omega
  have ak:=x.ok.lt _ (Qz.2 (.inr (Lp.oth_mem d)));refine Ub 1 Z fun R a=>?_;refine Ur L.m_ U10 om_ (show (t.others.map aO)[i]?=some (aO (t.oth i)) from fe d) fl_ (fun am U=>?_);refine Uc U U8 ?_;refine C4 2 [0,4,7,8,9,15,16,17] a Z ?_;refine Ub 2 Z fun R a=>?_;refine Uo (fk _ b p.n (t.oth i) t _ _ _ s v h.m_) U7 ?_;refine Ug [0,4,7,8,9,15,16,17,24] a Z ?_;refine Ud (fun q=>?_) fun q=>?_
  ·have r:p.n<=t.oth i:=by simpa using q
   have B:((t.oth i:Int)-(p.n:Int)).toNat=t.oth i-p.n:=by omega
   have V:=Nw (l:=l) x d r;refine Uy [0,1,2,3,4,5,6,7,8,9,10,11,12,13] [] Z kr_ (fun R hB a=>?_);refine Uh 5 Z ?_;refine Uc (PtrTo.blockT (h.m_.o) _ 1) U8 ?_;refine Ul _ U7 ?_;refine Ue U6 ?_;refine Uc (bkT N 1) U8 ?_;refine Ue U6 ?_;refine Ur y.m_ U10 om_ (dI om_) fl_ (fun an W=>?_);refine Uc W U8 ?_;refine UI (((t.oth i:Int)-(p.n:Int)).toNat*1) U10 ai U2 ?_;refine UL (j:=0) U11 (by show ((t.oth i:Int)-(p.n:Int)).toNat*1+1<=_;rw [B,bR bK,ng];omega) ?_;refine Ug [0,4,7,15,16,17] a Z ?_;refine Uf fun R a=>?_;refine Ul _ U7 ?_;refine C4 1 [0,4,7,15,16,17] a Z ?_;refine Ut (L':=[.arr (.slice (some ⟨g,0,none⟩) p.m p.m) 56 1 p.m ((duF p t l (i+1)).map aY).flatten]) (by rw [B,<- V,<- bN bK _ (by rw [ng];omega)];rfl) ?_;refine Un (m':=t.others.length-(i+1)) om_ A (hn_ [0,4,7,15,16,17] Z) ⟨i+1,om_,Z,Z,Z⟩
  have r:t.oth i<p.n:=by
   have ao:¬ p.n<=t.oth i:=by simpa using q
   omega
  rw [Kl d r];refine Uf fun R a=>?_;refine Ul _ U7 ?_;refine C4 1 [0,4,7,15,16,17] a Z ?_;refine Un (m':=t.others.length-(i+1)) om_ A (hn_ [0,4,7,15,16,17] Z) ⟨i+1,om_,Z,Z,Z⟩
 have d:i=t.others.length:=by
  have:=Ql k;rw [al] at this;omega
 refine Ua 2 [6] Z ?_;refine Up (UR Z Z ?_);exact ⟨g,Z,by rw [d,Nx]⟩
def ngF (p:Lp.Sys)(t:Lp.Tab)(l:Lp.Line)(i:Nat):List Rat:=(List.range p.m).map fun r=>if r<i then -Lp.dualV p t l r else Lp.dualV p t l r
theorem gX :(ngF p t l i).length=p.m:=by simp [ngF]
theorem Br {r:Nat}(h:r<p.m):(ngF p t l i)[r]?=some (if r<i then -Lp.dualV p t l r else Lp.dualV p t l r):=by
 unfold ngF;rw [Qn,QY h];rfl
theorem JH (p:Lp.Sys)(t:Lp.Tab)(l:Lp.Line):(List.range p.m).map (Lp.dualV p t l)=ngF p t l 0:=List.map_congr_left fun r _=>by rw [aA (Nat.not_lt_zero _)]
theorem M9 (h:i<p.m):(ngF p t l i).set i (-Lp.dualV p t l i)=ngF p t l (i+1):=by
 refine List.ext_getElem? fun v=>?_;rw [List.getElem?_set,gX];by_cases a:v<p.m
 ·rw [Br a,Br a];by_cases e:i=v
  ·subst e;rw [aV rfl,aV a,aV om_]
  rw [aA e];by_cases hm:v<i
  ·rw [aV hm,aV om_]
  rw [aA hm,aA om_]
 rw [aA om_,Qr (by rw [gX];omega),Qr (by rw [gX];omega)]
theorem Na (h:t.bas i-p.n<p.m):(ngF p t (t.line i) p.m).set (t.bas i-p.n) 1=(List.range p.m).map (Lp.refV p t i):=by
 refine List.ext_getElem? fun v=>?_;rw [List.getElem?_set,gX,Qn];by_cases a:v<p.m
 ·rw [Br a,QY a,aV a];unfold Lp.refV;by_cases e:t.bas i-p.n=v
  ·subst e;rw [aV rfl,aV h,RZ,aV rfl]
  rw [aA e,RZ,aA (fun b=>e b.symm)]
 rw [aA om_,Qr (by rw [gX];omega),Qr ap];rfl
theorem qtx1:qtx 1=[49]:=by decide +kernel
theorem enc1:aY 1=[Value.string ⟨#[49]⟩]:=by
 show [ah (qtx 1)]=_;rw [qtx1];rfl
theorem Jc (C:Mem)(p:Lp.Sys)(b i:Nat)(t:Lp.Tab)(A E s v:Value)(e:List Value)(h:TabV C b p.n t A E s v e)(w:Lp.TabOf p t)(F:p.m<=1000000)(f:i<t.basic.length)(W:p.n<=t.bas i)(H:∀ r,QB 40 (Lp.dualV p t (t.line i) r)) :
  Pur cx.P 117 [.pointer (some ⟨b,0,none⟩),.int .i64 i,.int .i64 p.m] C fun u D=>∃ g,u=.agg ⟨[.slice (some ⟨g,0,none⟩) p.m p.m]⟩/\Sl D 1 (.slice (some ⟨g,0,none⟩) p.m p.m) (((List.range p.m).map (Lp.refV p t i)).map aY):=by
 have ok:=w.ok;obtain ⟨X,Y,rfl,aa,ab,_⟩:=id h.B;obtain ⟨A2,c2,rfl,ac,ad,_⟩:=id h.L;obtain ⟨k,I⟩:=lQ h ok f;obtain ⟨A3,c3,J,ae,ag,_⟩:=id k;have ah:=ok.ll;have x:=jM (ls:=t.lines) (ws:=e) (i:=i) om_ h.fl;rw [J] at x k;have aj:maxLen<=9223372036854775807:=by simp [maxLen]
 have ak:=ok.lt _ (Qz.2 (.inl (Lp.bas_mem f)));have K:t.bas i-p.n<p.m:=by omega
 have z:((t.bas i:Int)-(p.n:Int)).toNat=t.bas i-p.n:=by omega
 refine Uk func117 49 U3 fun w0=>?_;refine Uf fun R a=>?_;refine Uv U5 (fun c=>?_);refine Ug [0,1,2,6] a Z ?_;refine UC [(9,3)] Z (fun R a=>?_);refine Uh 4 Z ?_;refine Uc (PtrTo.blockT (h.m_.o) _ 1) U8 ?_;refine Ue U6 ?_;refine Ur h.L.m_ U10 om_ x fl_ (fun al M=>?_);refine Uc M U8 ?_;refine Ue U6 ?_;refine D.call (He _ p b t (t.line i) _ _ s v _ e h.m_ w F k.m_ I) Z (.inr dc_) U6 (Qo _) fl_ (fun an _ ao _ N=>?_);obtain ⟨g,rfl,rfl⟩:=N;refine C4 1 [0,1,6,7] a Z ?_;refine Ua 3 [0,1,6,7,20,21,22] Z ?_;refine Ut (L':=[.arr (.slice (some ⟨g,0,none⟩) p.m p.m) 56 1 p.m ((ngF p t (t.line i) 0).map aY).flatten,.obj c (.cells ⟨[.slice none 0 0]⟩ 75 (0,0))]) (by rw [<- JH];rfl) ?_;refine G.loop (fun fr C' l O=>∃ (j:Nat),(j<=p.m)/\fr=[(0,[],.pointer (some ⟨b,0,none⟩)),(1,[],.int .i64 i),(6,[],.pointer (some ⟨c,0,none⟩)),(7,[],.slice (some ⟨g,0,none⟩) p.m p.m),(20,[],.slice (some ⟨g,0,none⟩) p.m p.m),(21,[],.int .i64 p.m),(22,[],.int .i64 j)]/\l=[.arr (.slice (some ⟨g,0,none⟩) p.m p.m) 56 1 p.m ((ngF p t (t.line i) j).map aY).flatten,.obj c (.cells ⟨[.slice none 0 0]⟩ 75 (0,0))]/\O=p.m-j) (hn_ [0,1,6,7,20,21,22] Z) ⟨0,Qm _,Z,Z,Z⟩ (fun fr ap aq m Q S=>?_);obtain ⟨j,hj,rfl,rfl,rfl⟩:=S;refine Ua 1 [0,1,6,7,20,21,22,23] Z ?_;refine Ud (fun q=>?_) fun q=>?_
 ·have d:j<p.m:=by
   have:=aK q;omega
  have T:(ngF p t (t.line i) j)[j]?=some (Lp.dualV p t (t.line i) j):=by rw [Br d,aA (Nat.lt_irrefl _)]
  refine Ub 1 Z fun R a=>?_;refine UI (j*1) U10 ai U2 ?_;refine UW af U6 (fun _=>(by rw [eC bK T];rfl)) U2 ?_;refine C4 2 [0,1,6,7,8,9,20,21,22] a Z ?_;refine Ub 3 Z fun R a=>?_;refine Us (eN _ _ (QG (bJ (H j) dc_) dc_)) U7 fl_ ?_;refine UI (j*1) U10 ai U2 ?_;refine UL (j:=0) U11 (by show j*1+1<=_;rw [bR bK,gX];omega) ?_;refine Ug [0,1,6,7,20,21,22] a Z ?_;refine Uf fun R a=>?_;refine Ul _ U7 ?_;refine C4 1 [0,1,6,7,20,21,22] a Z ?_;refine Ut (L':=[.arr (.slice (some ⟨g,0,none⟩) p.m p.m) 56 1 p.m ((ngF p t (t.line i) (j+1)).map aY).flatten,.obj c (.cells ⟨[.slice none 0 0]⟩ 75 (0,0))]) (by rw [<- M9 d,<- bN bK _ (by rw [gX];omega)];rfl) ?_;refine Un (m':=p.m-(j+1)) om_ Q (hn_ [0,1,6,7,20,21,22] Z) ⟨j+1,om_,Z,Z,Z⟩
 have d:j=p.m:=by
  have:=Ql q;omega
 subst d;refine Uy [0,1,2,3,4,5,6,7,8,9,10,11,12,13,14] [] Z kr_ (fun R hB a=>?_);refine Uh 4 Z ?_;refine Uc (PtrTo.blockT (h.m_.o) _ 1) U8 ?_;refine Ue U6 ?_;refine Ur h.B.m_ U10 om_ (show (t.basic.map aO)[i]?=some (aO (t.bas i)) from fe f) fl_ (fun ar U=>?_);refine Uc U U8 ?_;refine Uh 3 Z ?_;refine Uc (PtrTo.blockT (h.m_.o) _ 1) U8 ?_;refine Ul _ U7 ?_;refine UI (((t.bas i:Int)-(p.n:Int)).toNat*1) U10 ai U2 ?_;refine UL (j:=0) U11 (by show ((t.bas i:Int)-(p.n:Int)).toNat*1+1<=_;rw [z,bR bK,gX];omega) ?_;refine Ug [6,7] a Z ?_;refine Ub 1 Z fun R a=>?_;refine Uu [.slice (some ⟨g,0,none⟩) p.m p.m] U8 ?_;refine Um (j:=1) U12 ?_;refine Ug [6] a Z ?_;refine G.freezeArr 1 (((List.range p.m).map (Lp.refV p t i)).map aY) rfl (by rw [z,<- Na K,<- bN bK 1 (by rw [gX];omega),enc1]) (by intro r hr;obtain ⟨y,_,rfl⟩:=Qq.1 hr;rfl) am (fun Cg hg V=>?_);refine Up (UU af U4 ?_);exact ⟨Z,g,Z,V⟩
end Go.Proofs.YthnpijdjlddpmaaGreatDoor
