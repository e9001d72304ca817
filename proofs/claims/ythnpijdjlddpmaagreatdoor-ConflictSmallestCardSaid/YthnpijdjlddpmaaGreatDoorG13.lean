/- Laws that the proofs of this seat share, part 13. -/
import Derived.Test.YthnpijdjlddpmaaGreatDoorG12
import Derived.Test.YthnpijdjlddpmaaGreatDoorShelf
set_option maxHeartbeats 4000000
namespace Go.Proofs.YthnpijdjlddpmaaGreatDoor
open Go.Proofs.Tryz
open Go Go.Jog
set_option maxRecDepth 100000
variable {B:Bk}{C:Mem}{RO:Nat->List RowQ}{cc:Nat->Rat}{h:Nat->Bool}{i k:Nat}{km:List (Nat × Value)}{l:List Nat}{n:Nat}{outs:List (List Nat)}{p:Lp.Sys}{rows:List RowQ}{s:Nat}{t:Lp.Tab}{u:Value}{v vs:List Value}{w:Value}{z:Int}
def Wl (D:Int)(q:Rat):Prop:=∃ z:Int,q*(D:Rat)=(z:Rat)/\z.natAbs<=999999999
def RowI (r:RowQ):Prop:=∃ D:Int,D≠0/\D.natAbs<=999999999/\(∀ q∈r.f,Wl D q)/\Wl D r.b
def kc (rows:List RowQ):List (List Rat × Rat):=rows.map fun r=>(r.f,r.b)
theorem Wl.zero (D:Int):Wl D 0:=⟨0,by grind,by decide⟩
theorem Wl.neg {q:Rat}{D:Int}(h:Wl D q):Wl D (-q):=by
 obtain ⟨z,h1,h2⟩:=h;exact ⟨-z,by rw [Rat.intCast_neg,<- h1];grind,by omega⟩
theorem Wl.sg {D:Int}{q a:Rat}(h:Wl D q)(b:a=1∨a=-1):Wl D (a*q):=by
 rcases b with rfl | rfl
 ·rw [Rat.one_mul];exact h
 rw [show (-1:Rat)*q=-q by grind];exact h.neg
theorem tM (h:i<rows.length):(kc rows).getD i ([],0)=(rows[i].f,rows[i].b):=by
 unfold kc;rw [ax,Qn,ak h];rfl
theorem JS (g:n<=12)(h:∀ r∈rows,RowI r)(i:∃ D:Int,D≠0/\D.natAbs<=999999999/\∀ j,j<n->Wl D (cc j)):Lp.Lim (eJ n (kc rows)) cc 16:=by
 have k:∀ r:Nat,∃ D:Int,∀ hr:r<rows.length,D≠0/\D.natAbs<=999999999/\(∀ q∈rows[r].f,Wl D q)/\Wl D rows[r].b:=fun r=>by
  by_cases hr:r<rows.length
  ·obtain ⟨D,c⟩:=h rows[r] (Rh hr);exact ⟨D,fun _=>c⟩
  exact ⟨0,fun h=>absurd h hr⟩
 obtain ⟨D,c⟩:=Classical.axiomOfChoice k;obtain ⟨l,o,c2,p⟩:=i;have hm:(eJ n (kc rows)).m=rows.length:=al _;refine ⟨⟨D,999999999,l,by decide,⟨fun r hr=>?_,fun r j hr d=>?_,fun r hr=>?_⟩,⟨o,c2⟩,fun j d=>?_, ?_⟩⟩
 ·rw [hm] at hr;exact ⟨(c r hr).1,(c r hr).2.1⟩
 ·rw [hm] at hr;have e:(eJ n (kc rows)).a r j=rows[r].f.getD j 0:=by show ((kc rows).getD r ([],0)).1.getD j 0=_;rw [tM hr]
  have s:Wl (D r) (rows[r].f.getD j 0):=by
   rw [ax];cases t:rows[r].f[j]? with
   | none=>exact Wl.zero _
   | some q=>exact (c r hr).2.2.1 q (Qj t)
  obtain ⟨z,h1,h2⟩:=s;exact ⟨z,by rw [e,Rat.mul_comm];exact h1,h2⟩
 ·rw [hm] at hr;have e:(eJ n (kc rows)).b r=rows[r].b:=by show ((kc rows).getD r ([],0)).2=_;rw [tM hr]
  obtain ⟨z,h1,h2⟩:=(c r hr).2.2.2;exact ⟨z,by rw [e,Rat.mul_comm];exact h1,h2⟩
 ·obtain ⟨z,h1,h2⟩:=p j d;exact ⟨z,by rw [Rat.mul_comm];exact h1,h2⟩
 unfold Lp.bdQ Lp.bdT;have:∀ n,n<=12->(n+1)*(999999999*Lp.fctM (2*999999999) n)<B9 ^ 16:=by decide +kernel
 exact this _ g
theorem JR (a:n<=12)(h:∀ r∈rows,RowI r):Lp.Lim (eJ n (kc rows)) (fun _=>0) 16:=JS a h ⟨1,by decide,by decide,fun _ _=>Wl.zero _⟩
theorem wc {p:Nat}{c:List (Nat × Rat)}{b a:Rat}{D:Int}(d:a=1∨a=-1)(e:D≠0)(f:D.natAbs<=999999999)(g:∀ x∈c,Wl D x.2)(h:Wl D b):RowI (iD s p k c b a):=by
 refine ⟨D,e,f,tO (Wl.zero _) (fun x i=>?_),h.sg d⟩;obtain ⟨y,hy,rfl⟩:=Qq.1 i;exact (g y hy).sg d
theorem Mf {pts:List Pt}{t:Tri}{fs:List Rat}{p:Pt}(e:∀ j,Qtr (cor pts t j))(f:dF (cor pts t 0) (cor pts t 1) (cor pts t 2)≠0)(g:∀ j,Hlf (fz fs t j))(z:Qtr p) :
  ∃ W:Int,W≠0/\W.natAbs<=2880000/\(∀ j,∃ N:Int,wgt pts t p j*W=N/\N.natAbs<=2880000)/\(∃ N:Int,onQ pts fs t p*((2*W:Int):Rat)=N/\N.natAbs<=600000000) /\
   ∀ j,(∃ N:Int,(slf pts t j).1*W=N/\N.natAbs<=400000)/\∃ N:Int,(slf pts t j).2*W=N/\N.natAbs<=400000:=by
 obtain ⟨x0,y0,h0,m,o⟩:=e 0;obtain ⟨x1,y1,h1,q,r⟩:=e 1;obtain ⟨x2,y2,h2,s,u⟩:=e 2;obtain ⟨x3,y3,h3,h⟩:=id z;obtain ⟨k0,v,A⟩:=g 0;obtain ⟨k1,w,B⟩:=g 1;obtain ⟨k2,x,C⟩:=g 2;have D:=yF (x0:=x0) (y0:=y0) (x1:=x1) (y1:=y1) (x2:=x2) (y2:=y2) ⟨m,o,q,r,s,u⟩;refine ⟨iA x0 y0 x1 y1 x2 y2,(iR h0 h1 h2 v w x f).1,D,fun j=>?_,⟨_,Lw h0 h1 h2 h3 v w x f,OR ⟨m,o,q,r,s,u⟩ h ⟨A,B,C⟩⟩,fun j=>?_⟩
 ·obtain ⟨M,O,h4,E,F⟩:=e ((j+1) % 3);obtain ⟨P,Q,h5,G,H⟩:=e ((j+2) % 3);exact ⟨_,(wj (mA h3 h4 h5) (mA h0 h1 h2) f).2,yF ⟨h.1,h.2,E,F,G,H⟩⟩
 have l:=fun i=>zV (n:=pts.length) (k:=mE t j) (t:=t) i;obtain ⟨u0,g0,R⟩:=l 0;obtain ⟨u1,I,l1⟩:=l 1;obtain ⟨y,J,l2⟩:=l 2;obtain ⟨_,K,L⟩:=iR h0 h1 h2 g0 I J f;have S:=jV (a:=u1-u0) (b:=y2-y0) (c:=y1-y0) (d:=y-u0) ⟨by omega,by omega,by omega,by omega⟩;have T:=jV (a:=u1-u0) (b:=x2-x0) (c:=x1-x0) (d:=y-u0) ⟨by omega,by omega,by omega,by omega⟩;exact ⟨⟨_,K,by omega⟩,⟨_,L,by omega⟩⟩
theorem Oa {q:Rat}{W:Int}{N:Int}(h:q*(W:Rat)=N)(a:N.natAbs<=400000000):Wl (2*W) q:=⟨2*N,by rw [Rj,Rj,<- h];grind,by omega⟩
theorem HY {t:Tri}{f:Nat->Rat}{P:Rat->Prop}(h:∀ j,P (f j)):∀ x∈atT t f,P x.2:=gj (P:=fun x=>P x.2) (h 0) (h 1) (h 2)
theorem Kn (n:Nat):kT ((n % 12:Nat):Int) 2*2=(((n % 12:Nat):Int):Rat):=oo dc_
theorem OA (S:Sht)(H:Hts)(l:List Sgt)(s:Sgt)(i:Nat)(p:SgtR s):∀ r∈rowsO (cA S H l) (fJ S s i) (lH S s) (tK S s) (zK S H s),RowI r:=by
 obtain ⟨A,_⟩:=fy (S.kd % 8) (Q2 _ dc_) S.a S.b S.h;obtain ⟨_,B⟩:=locK S s p;have C:=jO A.ok (Qj B);obtain ⟨W,D,g,E,⟨d,u,L⟩,v⟩:=Mf (pts:=cD (S.kd % 8) S.a S.b S.h) (t:=tK S s) (fs:=fsK (cD (S.kd % 8) S.a S.b S.h).length H) (fun j=>uO j) C (fun j=>LH j) (AZ S s p);have m:∀ j,Wl (2*W) (wgt (cD (S.kd % 8) S.a S.b S.h) (tK S s) (lH S s) j):=fun j=>by
  obtain ⟨N,e,b⟩:=E j;exact Oa e om_
 have n:Wl (2*W) (kC (fJ S s i) (zK S H s)):=by
  unfold kC;split
  ·rename_i F;rw [Bn S s i F,dh (ok1 (sK s.depth))];have f:=Kn s.depth;have G:zK S H s*((2*W:Int):Rat)=d:=u;refine ⟨d-((s.depth % 12:Nat):Int)*W, ?_, ?_⟩
   ·simp only [SR,Rj,<- f];rw [show ((d:Int):Rat)=zK S H s*((2*W:Int):Rat) from G.symm];simp only [Rj];grind
   have:=jd (a:=((s.depth % 12:Nat):Int)) (b:=W) (M:=11) om_ g;omega
  exact ⟨d,u,by omega⟩
 have o:∀ sg∈([1, -1]:List Rat),sg=1∨sg=-1:=by simp
 intro r hr;unfold rowsO at hr;split at hr
 ·rcases Qz.1 hr with h | h <;> split at h
  ·rw [QF.1 h];exact wc (.inl rfl) om_ om_ (HY m) n
  ·simp at h
  ·rw [QF.1 h];exact wc (.inr rfl) om_ om_ (HY m) n
  simp at h
 rename_i h1;split at hr
 ·obtain ⟨k,_,h⟩:=List.mem_flatMap.1 hr;obtain ⟨sg,c,rfl⟩:=Qq.1 h;exact wc (o sg c) om_ om_ (HY m) n
 rename_i h2;have O:=nL s.n0;have P:=nL s.n1;have Q:=oh s.n2;have w:=uu s.n2;have f:qu (fJ S s i)*(ff s.n2:Int)=((-(s.n0.tmod 5):Int):Rat)/\jb (fJ S s i)*(ff s.n2:Int)=((-(s.n1.tmod 5):Int):Rat):=by
  have I:=dY (s.n0.tmod 5) om_;have l1:=dY (s.n1.tmod 5) om_;have l2:=dY (ff s.n2) om_;have R:((ff s.n2:Int):Rat)≠0:=by exact_mod_cast w
  revert h1 h2;unfold qu jb fJ;split
  ·intro h1;exact absurd rfl h1
  split
  ·intro _ h2;exact absurd rfl h2
  intro _ _;simp only;rw [dh (ok1 I),dh (ok1 l1),dh (ok1 l2),Rat.intCast_neg,Rat.intCast_neg];constructor <;> grind
 have hm:(W*ff s.n2).natAbs<=2880000*4:=jd g om_;have x:W*ff s.n2≠0:=Int.mul_ne_zero D w;have y:∀ {q:Rat}{N:Int},q*(W:Rat)=N->N.natAbs<=400000->Wl (W*ff s.n2) q:=fun {q N} e b=>⟨N*ff s.n2,by rw [Rj,Rj,<- e];grind,by have:=jd b (show (ff s.n2).natAbs<=4 by omega);omega⟩;have J:∀ j,Wl (W*ff s.n2) (slf (cD (S.kd % 8) S.a S.b S.h) (tK S s) j).1:=fun j=>by
  obtain ⟨N,e,b⟩:=(v j).1;exact y e b
 have K:∀ j,Wl (W*ff s.n2) (slf (cD (S.kd % 8) S.a S.b S.h) (tK S s) j).2:=fun j=>by
  obtain ⟨N,e,b⟩:=(v j).2;exact y e b
 have z:∀ {q:Rat}{N:Int},q*((ff s.n2:Int):Rat)=N->N.natAbs<=4->Wl (W*ff s.n2) q:=fun {q N} e b=>⟨N*W,by rw [Rj,Rj,<- e];grind,by have:=jd b g;omega⟩;obtain ⟨k,_,h⟩:=List.mem_flatMap.1 hr;rcases Qz.1 h with h | h
 ·obtain ⟨sg,c,rfl⟩:=Qq.1 h;exact wc (o sg c) x om_ (HY J) (z f.1 om_)
 obtain ⟨sg,c,rfl⟩:=Qq.1 h;exact wc (o sg c) x om_ (HY K) (z f.2 om_)
def PE (x:Lay):Prop:=(∃ z:Int,x.min=z/\z.natAbs<=1000)/\∀ m,x.max=some m->∃ z:Int,m=z/\z.natAbs<=1000
theorem zO {q:Rat}(e:q=z)(h:z.natAbs<=1000):Wl 1 q:=⟨z,by rw [e];show _*(1:Rat)=_;grind,by omega⟩
theorem Og {a b:Nat}{u v:Rat}{c:Rat}(f:u=1∨u=-1)(g:v=1∨v=-1)(i:Wl 1 c):RowI ⟨rP n [(a,u),(b,v)],c⟩:=by
 have d:∀ q:Rat,q=1∨q=-1->Wl 1 q:=fun q h=>by
  rcases h with rfl | rfl
  ·exact zO (z:=1) aq dc_
  exact zO (z:=-1) aq dc_
 refine ⟨1,by decide,by decide,tO (Wl.zero _) (fun x e=>?_),i⟩;simp only [Qw,Rk,SJ] at e;rcases e with rfl | rfl
 ·exact d _ f
 exact d _ g
theorem ID {p:Nat}{x:Lay}(h:PE x):∀ r∈ku s p x i k,RowI r:=by
 obtain ⟨z,a,b⟩:=h.1;intro r hr;unfold ku at hr;rcases Qw.1 hr with rfl | hr
 ·exact Og (.inr Z) (.inl Z) (zO a b).neg
 split at hr
 ·cases hr
 rename_i m hm;obtain ⟨z,a,b⟩:=h.2 m hm;rw [QF.1 hr];exact Og (.inl Z) (.inr Z) (zO a b)
theorem Ae {s p:Nat}{x:Lay}{i:Nat}(h:PE x):∀ k,∀ r∈bx s p x i k,RowI r
 | 0,r,hr=>by cases hr
 | k+1,r,hr=>by
  rcases Qz.1 hr with h1 | h1
  ·exact Ae h k r h1
  exact ID h r h1
theorem Ab {s p:Nat}{a:List Lay}(h:∀ x∈a,PE x):∀ n,∀ r∈bj s p a n,RowI r
 | 0,r,hr=>by cases hr
 | n+1,r,hr=>by
  rcases Qz.1 hr with h1 | h1
  ·exact Ab h n r h1
  refine Ae ?_ _ r h1;rw [ax];cases b:a[n+1]? with
  | none=>exact ⟨⟨0,rfl,by decide⟩,fun m hm=>by cases hm⟩
  | some x=>exact h x (Qj b)
theorem Qb:∀ x∈colK,PE x:=by
 intro x a;simp only [colK,Qw,Rk,SJ] at a;rcases a with rfl | rfl | rfl
 ·exact ⟨⟨0,Z,by decide⟩,fun m hm=>by cases hm⟩
 ·exact ⟨⟨0,Z,by decide⟩,fun m hm=>by cases hm;exact ⟨5,Z,by decide⟩⟩
 exact ⟨⟨1,Z,by decide⟩,fun m hm=>by cases hm⟩
theorem tB {z:Nat}(h:z<18446744073709551616):IntKind.u64.wrap ((z:Nat):Int)=(z:Int):=by
 simp only [IntKind.wrap,IntKind.bits,IntKind.signed];simp;omega
theorem PJ {z:Nat}(h:z<9223372036854775808):IntKind.i64.wrap ((z:Nat):Int)=(z:Int):=by
 simp only [IntKind.wrap,IntKind.bits,IntKind.signed];simp;omega
def o1 (s:Nat):Nat:=(s / 2 ^ 1 &&& 6148914691236517205)+(s &&& 6148914691236517205)
def o2 (s:Nat):Nat:=(s / 2 ^ 2 &&& 3689348814741910323)+(s &&& 3689348814741910323)
def o3 (s:Nat):Nat:=(s / 2 ^ 4+s) &&& 1085102592571150095
def o4 (s:Nat):Nat:=s+s / 2 ^ 8
def o5 (s:Nat):Nat:=s+s / 2 ^ 16
def o6 (s:Nat):Nat:=s+s / 2 ^ 32
theorem o_bd:∀ s<32,o1 s<1000/\o2 (o1 s)<1000/\o2 (o1 s) / 2 ^ 4+o2 (o1 s)<1000/\o3 (o2 (o1 s))<1000/\o4 (o3 (o2 (o1 s)))<1000/\o5 (o4 (o3 (o2 (o1 s))))<1000/\o6 (o5 (o4 (o3 (o2 (o1 s)))))<1000/\o6 (o5 (o4 (o3 (o2 (o1 s))))) &&& 127=iE s:=by decide +kernel
theorem Ga (C:Mem)(s:Nat)(b:s<32):Gives cx.P 74 [.int .u64 s] C (.int .i64 (iE s:Int)):=by
 obtain ⟨h1,h2,h3,h4,h5,e,f,d⟩:=o_bd s b;exact Uk func74 35 U3 fun w0=>Ua 1 [0] Z<|Ub 1 Z fun R a=>Vt (s) (1) U8 dc_ U2<|Vp (s / 2 ^ 1) (6148914691236517205) U8 om_ om_ U2<|Ue U6<|Vp (s) (6148914691236517205) U8 om_ om_ U2<|D.int (((o1 s:Nat):Int)) U4 (tB (by show o1 s<_;omega)) U2<|C4 1 [0] a Z<|Ub 1 Z fun R a=>Vt (o1 s) (2) U8 dc_ U2<|Vp (o1 s / 2 ^ 2) (3689348814741910323) U8 om_ om_ U2<|Ue U6<|Vp (o1 s) (3689348814741910323) U8 om_ om_ U2<|D.int (((o2 (o1 s):Nat):Int)) U4 (tB (by show o2 (o1 s)<_;omega)) U2<|C4 1 [0] a Z<|Ub 1 Z fun R a=>Vt (o2 (o1 s)) (4) U8 dc_ U2<|Ue U6<|D.int (((o2 (o1 s) / 2 ^ 4+o2 (o1 s):Nat):Int)) U4 (tB om_) U2<|Vp (o2 (o1 s) / 2 ^ 4+o2 (o1 s)) (1085102592571150095) U8 om_ om_ U2<|C4 1 [0] a Z<|Ub 2 Z fun R a=>Vt (o3 (o2 (o1 s))) (8) U8 dc_ U2<|D.int (((o4 (o3 (o2 (o1 s))):Nat):Int)) U4 (tB (by show o4 (o3 (o2 (o1 s)))<_;omega)) U2<|C4 1 [0] a Z<|Ub 2 Z fun R a=>Vt (o4 (o3 (o2 (o1 s)))) (16) U8 dc_ U2<|D.int (((o5 (o4 (o3 (o2 (o1 s)))):Nat):Int)) U4 (tB (by show o5 (o4 (o3 (o2 (o1 s))))<_;omega)) U2<|C4 1 [0] a Z<|Ub 2 Z fun R a=>Vt (o5 (o4 (o3 (o2 (o1 s))))) (32) U8 dc_ U2<|D.int (((o6 (o5 (o4 (o3 (o2 (o1 s))))):Nat):Int)) U4 (tB (by show o6 (o5 (o4 (o3 (o2 (o1 s)))))<_;omega)) U2<|C4 1 [0] a Z<|Ub 1 Z fun R a=>UQ (c:=((o6 (o5 (o4 (o3 (o2 (o1 s))))):Nat):Int)) U8 (PJ om_) fl_<|V1 (o6 (o5 (o4 (o3 (o2 (o1 s)))))) (127) Z Z Z Z Z Z Z Z om_ om_ Z Z<|C4 1 [2] a Z<|Ui U2<|⟨by rw [d],Z⟩
theorem ug (C:Mem)(s:Nat)(b:s<32):Gives cx.P 39 [.int .u64 s] C (.int .i64 (iE s:Int)):=by
 refine Uk func39 8 U3 fun w0=>Ua 1 [0] Z<|Ud (fun a=>?_) fun a=>?_
 ·cases a
 exact Ub 1 Z fun R c=>Uo (Ga _ s b) U7<|C4 1 [2] c Z<|Ui U2<|⟨Z,Z⟩
theorem Kw:∀ s<32,s≠0->Lib.ctz 64 s=(aZ s).headD 0:=by decide +kernel
theorem Od (C:Mem)(a:Tabs C)(s:Nat)(b:s<32)(c:s≠0):Gives cx.P 75 [.int .u64 s] C (.int .i64 (((aZ s).headD 0:Nat):Int)):=by
 rw [<- Kw s b c];exact PL Tryz.tz s om_ C kr_ a.db kr_
theorem wT (C:Mem)(a:Int):Gives cx.P 172 [.int .i64 a] C (.bool false):=by
 exact Uk func172 6 U3 fun w0=>Ua 1 [0] Z<|Ua 4 [2] Z<|Ui U2<|⟨by simp,Z⟩
theorem yZ (C:Mem)(a b:Int):Gives cx.P 111 [.int .i64 a,.int .i64 b] C (.int .i64 (LQ a b)):=by
 refine Uk func111 20 U3 fun w0=>Ua 1 [0,1] Z<|Ub 1 Z fun R d=>Uo (wT _ _) U7<|C4 1 [0,1,5] d Z<|Ub 1 Z fun R d=>Uo (wT _ _) U7<|C4 1 [0,1,5,6] d Z<|Ua 1 [0,1,6,11] Z<|Ud (fun f=>?_) fun f=>?_
 ·cases f
 refine Ua 1 [0,1,13] Z<|Ud (fun g=>?_) fun g=>?_
 ·cases g
 refine Ua 3 [0,1,16] Z<|Ud (fun c=>?_) fun c=>?_
 ·refine Ua 1 [4] Z<|Ui U2 ?_;simp only [Qs] at c;exact ⟨by rw [LQ,aV c],Z⟩
 refine Ua 3 [19] Z<|Ud (fun e=>?_) fun e=>?_
 ·refine Ua 1 [4] Z<|Ui U2 ?_;simp only [Qs,QH] at c e;exact ⟨by rw [LQ,aA c,aA om_],Z⟩
 refine Ua 1 [4] Z<|Ui U2 ?_;simp only [QH] at c e;exact ⟨by rw [LQ,aA c,aV om_],Z⟩
theorem zc (C:Mem)(v w:Value)(a b:List Nat)(l:Sl C 1 v (a.map aO))(n:Sl C 1 w (b.map aO))(L:a.length<=1000000)(_M:b.length<=1000000) :
  Gives cx.P 72 [v,w] C (.int .i64 (Ng a b)):=by
 obtain ⟨A,c,rfl,_⟩:=id l;obtain ⟨B,d,rfl,_⟩:=id n;simp only [al] at l n ⊢;refine Uk func72 36 U3 fun w0=>Ua 1 [0,1] Z<|Ua 3 [0,1,9,10,11] Z<|G.loop (fun fr C' z D=>∃ (k:Nat),(k<=a.length/\k<=b.length/\Ng (a.drop k) (b.drop k)=Ng a b)/\fr=[(0,[],.slice A a.length c),(1,[],.slice B b.length d),(9,[],.slice A a.length c),(10,[],.int .i64 a.length),(11,[],.int .i64 k)]/\z=[]/\D=a.length-k) (hn_ [0,1,9,10,11] Z) ⟨0,⟨Qm _,Qm _,Z⟩,Z,Z,Z⟩ (fun fr N O m _ E=>?_);obtain ⟨k,⟨Q,S,g⟩,rfl,rfl,rfl⟩:=E;refine Ua 1 [0,1,9,10,11,12] Z<|Ud (fun o=>?_) fun o=>?_
 ·have h:k<a.length:=by simpa using o
  obtain ⟨x,t⟩:∃ x,a[k]?=some x:=⟨a[k],ak h⟩;have F:(a.map aO)[k]?=some (aO x):=by rw [Qn,t];rfl
  have p:a.drop k=x::a.drop (k+1):=by rw [QK h,(aE.1 t).2]
  refine Ub 1 Z fun R f=>Ur l.m_ U10 om_ F fl_ fun T H=>Uc H U8<|C4 2 [0,1,5,6,9,10,11] f Z<|Ua 4 [0,1,5,6,9,10,11,19] Z<|Ud (fun q=>?_) fun q=>?_
  ·have i:b.length<=k:=by simpa using q
   have j:b.drop k=[]:=RF i;exact Ua 1 [4] Z<|Ui U2<|⟨by rw [<- g,p,j];rfl,Z⟩
  have i:k<b.length:=by
   have:¬ b.length<=k:=by simpa using q
   omega
  obtain ⟨y,hy⟩:∃ y,b[k]?=some y:=⟨b[k],ak i⟩;have I:(b.map aO)[k]?=some (aO y):=by rw [Qn,hy];rfl
  have j:b.drop k=y::b.drop (k+1):=by rw [QK i,(aE.1 hy).2]
  refine Ub 2 Z fun R f=>Ur n.m_ U10 om_ I fl_ fun U J=>Uc J U8<|C4 1 [0,1,6,7,9,10,11] f Z<|Ub 2 Z fun R f=>Uo (yZ _ _ _) U7<|C4 1 [0,1,8,9,10,11] f Z<|Ua 2 [0,1,8,9,10,11,28] Z<|Ud (fun r=>?_) fun r=>?_
  ·have e:LQ x y≠0:=by simpa using r
   refine Ua 2 [4] Z<|Ui U2<|⟨?_,Z⟩;rw [<- g,p,j];simp only [Ng];unfold LQ at e ⊢;by_cases h1:x<y
   ·have h3:(x:Int)<y:=by omega
    rw [aV h1,aV h3]
   have h3:¬ (x:Int)<y:=by omega
   rw [aA h1,aA h3];rw [aA h3] at e;by_cases h2:y<x
   ·have h4:¬ (x:Int)=y:=by omega
    rw [aV h2,aA h4]
   have h4:(x:Int)=y:=by omega
   rw [aV h4] at e;exact absurd Z e
  have e:LQ x y=0:=by simpa using r
  have K:x=y:=by
   unfold LQ at e;split at e
   ·cases e
   split at e
   ·omega
   cases e
  refine Uf fun R f=>Ul _ U7<|C4 1 [0,1,9,10,11] f Z<|Un (m':=a.length-(k+1)) om_ mup (hn_ [0,1,9,10,11] Z) ⟨k+1,⟨by omega,by omega,by rw [<- g,p,j,K];simp [Ng]⟩,Z,Z,Z⟩
 have h:k=a.length:=by
  have:¬ k<a.length:=by simpa using o
  omega
 subst h;rw [Rq] at g;refine Ua 5 [35] Z<|Ud (fun s=>?_) fun s=>?_
 ·have u:a.length<b.length:=by simpa using s
  refine Ua 1 [4] Z<|Ui U2<|⟨?_,Z⟩;rw [<- g,QK u];rfl
 have u:¬ a.length<b.length:=by simpa using s
 refine Ua 1 [4] Z<|Ui U2<|⟨?_,Z⟩;rw [<- g,RF om_];rfl
theorem uq (C:Mem)(p:Tabs C)(s:Nat)(r:s<32):Jog.Fn cx.P 41 [.int .u64 s] C [] fun u _ b=>∃ A n c,u=.slice A n c/\b=[.arr u 3 1 (aZ s).length ((aZ s).map aO).flatten]:=by
 have z:maxLen<=9223372036854775807:=by simp [maxLen]
 refine Uk func41 16 U3 fun w0=>Ua 1 [0] Z<|Ua 1 [0,3] Z<|G.nilArr 3 1<|G.loop (fun fr C' b t=>∃ (x:Nat)(q:List Nat)(d:Option Addr)(n1 e:Nat),(x<32/\q++aZ x=aZ s)/\fr=[(0,[],.int .u64 x),(3,[],.slice d n1 e)]/\b=[.arr (.slice d n1 e) 3 1 q.length (q.map aO).flatten]/\t=x+x) (hn_ [0,3] Z) ⟨s,[],none,0,0,⟨r,Z⟩,Z,Z,Z⟩ (fun fr B E m _ v=>?_);obtain ⟨x,q,d,n1,e,⟨f,g⟩,rfl,rfl,rfl⟩:=v;refine Ua 2 [0,3,5] Z<|Ud (fun h5=>?_) fun h5=>?_
 ·have a:x≠0:=by simpa using h5
  have w:=D9 x f a;have F:=Ea x f a;have H:q.length<=5:=by
   have h:=congrArg List.length g;rw [Qp] at h;have:(aZ s).length<=5:=RL _ _;omega
  refine Ub 2 Z fun R i=>Uo (Od _ p.m_ x f a) U7<|Ux [[.int .i64 (((aZ x).headD 0:Nat):Int)]] U12 fun I _ _ y=>UF (j:=0) U11 y Z aw (by show (q.length+1)*8<=_;omega) fl_ fun k l o=>C4 1 [0,3] i Z<|Ub 2 Z fun R i=>D.int (((x-1:Nat):Int)) U4 (by rw [show ((x:Int)-1)=((x-1:Nat):Int) by omega];exact tB om_) U2<|Vp (x) (x-1) U8 om_ om_ U2<|C4 1 [0,3] i Z<|Ut (L':=[.arr (.slice k l o) 3 1 (q++[(aZ x).headD 0]).length ((q++[(aZ x).headD 0]).map aO).flatten]) (by rw [QZ,Q5,Qp];rfl)<|Un (m':=(x &&& (x-1))+(x &&& (x-1))) om_ mup (hn_ [0,3] Z) ⟨(x &&& (x-1)),q++[(aZ x).headD 0],k,l,o,⟨by omega,by rw [QS,List.singleton_append,<- w,g]⟩,Z,Z,Z⟩
 have a:x=0:=by simpa using h5
 subst a;refine Ua 2 [2] Z<|Up (UR Z Z ?_);exact ⟨d,n1,e,Z,by rw [<- g,show aZ 0=[] from by decide,QM]⟩
theorem oc (C:Mem)(a:Tabs C)(s:Nat)(b:s<32):Pur cx.P 41 [.int .u64 s] C fun u D=>Sl D 1 u ((aZ s).map aO) :=
 WN (t:=3) (n:=(aZ s).length) (fun r hr=>by
  obtain ⟨x,_,rfl⟩:=Qq.1 hr;rfl) (al _) (Fn.mono (uq C a s b) fun u C' d _ ⟨A,n,c,h1,h2⟩=>h2)
theorem Lt (s:Nat):iE s<=5:=RL _ _
theorem NM (C:Mem)(e:Tabs C)(a b:Nat)(f:a<32)(g:b<32):Gives cx.P 71 [.int .u64 a,.int .u64 b] C (.int .i64 (KD a b)):=by
 have j:=Lt a;have k:=Lt b;refine Uk func71 19 U3 fun w0=>?_;refine Ua 1 [0,1] Z ?_;refine Ub 1 Z fun R c=>?_;refine Uo (ug _ a f) U7 ?_;refine Ue U6 ?_;refine Uo (ug _ b g) U7 ?_;refine Ul _ U7 ?_;refine C4 1 [0,1,5] c Z ?_;refine Ua 2 [0,1,5,12] Z ?_;refine Ud (fun d=>?_) fun d=>?_
 ·have i:(iE a:Int)-iE b≠0:=by simpa using d
  refine Ua 2 [4] Z ?_;refine Ui U2 ?_;refine ⟨?_,Z⟩;unfold KD;rw [aA (fun h=>i (by rw [h];omega))]
 have i:(iE a:Int)-iE b=0:=by simpa using d
 refine Ub 1 Z fun R c=>?_;refine UM (oc _ e.m_ a f) U7 (fun n _ _ l=>?_);refine Ue U6 ?_;refine UM (oc _ e.m_ b g) U7 (fun o _ _ m=>?_);refine Us (zc _ _ _ _ _ l.m_ m.m_ (QG j dc_) (QG k dc_)) U7 fl_ ?_;refine C4 1 [4] c Z ?_;refine Ui U2 ?_;refine ⟨?_,Z⟩;unfold KD;rw [aV om_]
open Go Go.Jog Go.Shelf
set_option maxRecDepth 100000
def uV (s:Nat):Value:=.int .u64 (s:Nat)
theorem Md (l:List Nat):l.map uV=(l.map ck).flatten:=(ep uV l).symm
abbrev Pk:Type:={ s:Nat // s<32 }
instance:Inhabited Pk:=⟨⟨0,by decide⟩⟩
theorem KC:Sort.SWO (ltOf fun (x y:Pk)=>KD x.1 y.1) where
 irrefl x:=by unfold ltOf;exact QJ (fun h=>by have:=(eT x.1 x.2 x.1 x.2).1 h;omega)
 trans x y z h1 h2:=by
  unfold ltOf at *;simp only [Qs] at *;rw [eT x.1 x.2 y.1 y.2] at h1;rw [eT y.1 y.2 z.1 z.2] at h2;rw [eT x.1 x.2 z.1 z.2];omega
 ntrans x y z h1 h2:=by
  unfold ltOf at *;simp only [QH] at *;rw [eT x.1 x.2 y.1 y.2] at h1;rw [eT y.1 y.2 z.1 z.2] at h2;rw [eT x.1 x.2 z.1 z.2];omega
theorem vW:∀ l:List Nat,(∀ s∈l,s<32)->∃ q:List Pk,q.map (·.1)=l
 | [],_=>⟨[],rfl⟩
 | s::l,h=>by
  obtain ⟨q,a⟩:=vW l fun s hs=>h s (Qt _ hs);exact ⟨⟨s,h s PH⟩::q,by rw [QX,a]⟩
theorem IK (C:Mem)(e:Tabs C)(v:Value)(n:Nat)(b:n<6) :
  Jog.Fn cx.P 70 [v,.func (.func 71) #[] #[]] C [.arr v 99 1 (2 ^ n) ((List.range (2 ^ n)).map uV)] fun u _ c=>u=.tuple #[]/\c=[.arr v 99 1 (2 ^ n) ((bQ n).map uV)]:=by
 have p:=wt b;obtain ⟨q,a⟩:=vW (List.range (2 ^ n)) fun s hs=>by have:=QE.1 hs;omega
 have g:q.length=2 ^ n:=by rw [<- al (f:=(·.1)),a,Rf]
 have d:=CN (P:=cx.P) (α:=Pk) Tryz.sortU (fun x=>uV x.1) (fun x=>rfl) (fun x y=>KD x.1 y.1) KC 71 [] C
  (fun x y C' i=>NM C' (e.mono i) x.1 y.1 x.2 y.2) v 99 q om_ kr_ kr_
 rw [g,show q.map (fun x:Pk=>uV x.1)=(q.map (·.1)).map uV by rw [Q8];rfl,a] at d;refine Fn.mono d (fun u C' c _ ⟨j,k1,k2,k,l⟩=>⟨k1, ?_⟩);have m:(j.map (·.1)).Perm (List.range (2 ^ n)):=by rw [<- a];exact k.map _
 have o:=vV b m (by
  rw [List.pairwise_map];refine l.imp fun {x y} h=>?_;unfold ltOf at h;exact Ql h)
 rw [k2,<- o,Q8];rfl
theorem Ms (C:Mem)(q:Tabs C)(g n:Nat)(r s t v w:Value)(x:Option Addr)(y:Nat)(B:C g=some (.cells ⟨[r,s,t,v,.slice x n y,w]⟩ 153 (0,0)))(h:n<6) :
  Jog.Fn cx.P 38 [.pointer (some ⟨g,0,none⟩)] C [] fun u _ b=>∃ A n2 c,u=.slice A n2 c/\b=[.arr u 99 1 (2 ^ n) ((bQ n).map uV)]:=by
 have J:maxLen<=9223372036854775807:=by simp [maxLen]
 have K:=wt h;refine Uk func38 23 U3 fun w0=>Ua 1 [0] Z<|Ua 1 [0,3] Z<|Ub 4 Z fun R a=>Uc (bkT B 1) U8<|Ue U6<|VL (n) Z Z Z Z Z Z (by first | exact .inl Z | exact .inr Z) Z om_ Z Z<|C4 1 [3,11,12] a Z<|G.nilArr 99 1<|G.loop (fun fr C' b E=>∃ (i:Nat)(d:Option Addr)(n1 e:Nat),(i<=2 ^ n)/\fr=[(3,[],.slice d n1 e),(11,[],.int .u64 ((2 ^ n:Nat):Int)),(12,[],.int .u64 i)]/\b=[.arr (.slice d n1 e) 99 1 i ((List.range i).map uV)]/\E=2 ^ n-i) (hn_ [3,11,12] Z) ⟨0,none,0,0,Qm _,Z,Z,Z⟩ (fun fr L M m _ F=>?_);obtain ⟨i,d,n1,e,N,rfl,rfl,rfl⟩:=F;refine Ua 1 [3,11,12,13] Z<|Ud (fun f=>?_) fun f=>?_
 ·have k:i<2 ^ n:=by
   have:=aK f;omega
  refine Ua 2 [3,4,11,12] Z<|Ub 2 Z fun R a=>Ux [[uV i]] U12 fun O _ _ H=>UF (j:=0) U11 H Z aw (by show (i+1)*8<=_;omega) fl_ fun l o p=>C4 1 [3,11,12] a Z<|Uf fun R a=>D.int (((i+1:Nat):Int)) U4 (tB (z:=i+1) om_) U2<|C4 1 [3,11,12] a Z<|Ut (L':=[.arr (.slice l o p) 99 1 (i+1) ((List.range (i+1)).map uV)]) (by rw [Rs,QZ];rfl)<|Un (m':=2 ^ n-(i+1)) om_ mup (hn_ [3,11,12] Z) ⟨i+1,l,o,p,om_,Z,Z,Z⟩
 have k:i=2 ^ n:=by
  have:=Ql f;omega
 subst k;refine UC [(1,3)] Z fun R a=>Ue U6<|D.call (IK _ q.m_ _ n h) Z (.inr dc_) U6 (Qo _) fl_ fun Q _ S _ I=>Ug [3] a Z ?_;obtain ⟨rfl,rfl⟩:=I;refine Ua 2 [2] Z<|Up (UR Z Z ?_);exact ⟨d,n1,e,Z,Z⟩
theorem P1 {p:Nat}(h:s*p<=60):ofE z s p=z:=by
 unfold ofE;split
 ·rfl
 rename_i h2;have:z=0:=by simpa using h2
 rw [aA om_,this]
theorem yX (C:Mem)(a:Value)(B:Bk)(z:Int)(b:BookZ C a B z)(h:bs B*bp B<=60):Gives cx.P 35 [a] C (.tuple #[.int .i64 (if z=0 then ((bs B*bp B:Nat):Int) else 0),.int .i64 z]):=by
 have h1:=Kx C a B z b;rw [P1 h] at h1;exact h1
def my (n:Nat)(l:List Int)(i:Nat):Int:=if l.getD i 0<0∨(n:Int)<=l.getD i 0 then 3 else if 0<i/\l.getD i 0<=l.getD (i-1) 0 then 6 else 0
def N3 (n:Nat)(l:List Int):Int:=bT (my n l) l.length
theorem KF (C:Mem)(g j:Value)(B:Bk)(z:Int)(l:List Int)(t:BookZ C g B z)(J:bs B*bp B<=60)(e:Sl C 1 j (l.map me))(W:l.length<=1000)
  (w:z=0->N3 B.obs.length l=0->∀ D:Mem,C.le D->Pur cx.P 52 [g,j] D fun u _=>∃ v,u=.tuple #[v,.int .i64 0]) :
  Gives cx.P 49 [g,j] C (.int .i64 (if z≠0 then z else N3 B.obs.length l)):=by
 have x:=t;obtain ⟨X,Y,tv,cv,ov,rfl,h1,h2,h3,h4,h5⟩:=id t.i.ex;obtain ⟨A5,c5,rfl,K,aa,_⟩:=id h5;obtain ⟨y,A,rfl,L,ab,_⟩:=id e;have ac:maxLen<=9223372036854775807:=by simp [maxLen]
 simp only [al] at h5 K x e L w ⊢;refine Uk func49 56 U3 fun w0=>Uf fun R a=>Uw U6 fun M=>C4 1 [1,2] a Z<|G.freeze 0 Z fun _ _ n=>Uf fun R a=>Uc (bkT n 5) U8<|Uo (yX _ _ B z x.m_ J) U7<|C4 5 [1,2,6] a Z<|Ua 2 [1,2,6,17] Z<|Ud (fun o=>?_) fun o=>?_
 ·have f:z≠0:=by simpa using o
  exact Ua 2 [4] Z<|Ui U2<|⟨by rw [aV f],Z⟩
 have f:z=0:=by simpa using o
 rw [aA (fun h=>h f)];refine Ua 3 [1,2,19,20,21] Z<|G.loop (fun fr C' N O=>∃ (i:Nat),(i<=l.length/\bT (my B.obs.length l) i=0)/\fr=[(1,[],.slice y l.length A),(2,[],.pointer (some ⟨M,0,none⟩)),(19,[],.slice y l.length A),(20,[],.int .i64 l.length),(21,[],.int .i64 i)]/\N=[]/\O=l.length-i) (hn_ [1,2,19,20,21] Z) ⟨0,⟨Qm _,Z⟩,Z,Z,Z⟩ (fun fr ad ae m _ Q=>?_);obtain ⟨i,⟨hi,c⟩,rfl,rfl,rfl⟩:=Q;refine Ua 1 [1,2,19,20,21,22] Z<|Ud (fun p=>?_) fun p=>?_
 ·have d:i<l.length:=by
   have:=aK p;omega
  obtain ⟨k,E⟩:∃ k,l[i]?=some k:=⟨l[i],ak d⟩;obtain ⟨k1,F⟩:∃ k1,l[i-1]?=some k1:=⟨l[i-1]'om_,ak om_⟩;have q:l.getD i 0=k:=by rw [ax,E,Ry]
  have H:l.getD (i-1) 0=k1:=by rw [ax,F,Ry]
  refine Ub 1 Z fun R a=>Ur e.m_ U10 om_ (bY E) fl_ fun af S=>Uc S U8<|C4 2 [1,2,7,8,19,20,21] a Z<|Ub 5 Z fun R a=>UE U6 (fun _=>PtrTo.blockT (Mem.get n mup) _ 1) U3<|Uh 2 Z<|UH U8<|C4 1 [1,2,7,8,19,20,21,26] a Z<|Ud (fun r=>?_) fun r=>?_
  ·have b:my B.obs.length l i=3:=by
    unfold my;rw [q,aV (by simp only [RN,Qs] at r;omega)]
   exact Ua 1 [4] Z<|Ui U2<|⟨by unfold N3;rw [fZ c (by rw [b];decide) d,b],Z⟩
  have I:¬ (k<0∨(B.obs.length:Int)<=k):=by
   simp only [RQ,QH] at r;omega
  refine Ub 6 Z fun R a=>Ul _ U7<|D.index U10 (fun T=>⟨e.mono mup,(by have h:decide ((i:Int) > 0)=true:=T.1;have:=aK h;omega),(by rw [show ((i:Int)-1).toNat=i-1 by omega];exact bY F)⟩) fl_ Z fun ag U=>UE U6 U U3<|Ue U6<|UB U8<|C4 1 [1,2,19,20,21,36] a Z<|Ud (fun s=>?_) fun s=>?_
  ·have b:my B.obs.length l i=6:=by
    unfold my;rw [q,H,aA I,aV (by simp only [Qu,Qs] at s;omega)]
   exact Ua 1 [4] Z<|Ui U2<|⟨by unfold N3;rw [fZ c (by rw [b];decide) d,b],Z⟩
  have b:my B.obs.length l i=0:=by
   unfold my;rw [q,H,aA I,aA (fun h=>by simp only [S8,QH] at s;omega)]
  refine Uf fun R a=>Ul _ U7<|C4 1 [1,2,19,20,21] a Z<|Un (m':=l.length-(i+1)) om_ mup (hn_ [1,2,19,20,21] Z) ⟨i+1,⟨by omega,ik c b⟩,Z,Z,Z⟩
 have d:i=l.length:=by
  have:=Ql p;omega
 subst d;refine Uf fun R a=>Uc (bkT n 5) U8<|Ue U6<|UM (w f c _ mup) U7 (fun ah _ _ V=>?_);obtain ⟨rv,rfl⟩:=V;exact C4 5 [10] a Z<|Ua 2 [4] Z<|Ui U2<|⟨by rw [show N3 B.obs.length l=0 from c],Z⟩
theorem DM (h:FeasO p t u):∃ (row:Int)(a:Bool),u=.tuple #[.int .i64 row,.bool a]/\(a=true->t.Feas p.n) /\
  (a=false->∃ r:Nat,row=r/\r<t.basic.length/\p.n<=t.bas r/\(t.line r).c<0/\∀ s,s<t.others.length->p.n<=t.oth s->(t.line r).g s<=0):=by
 cases h with
 | yes h=>exact ⟨0,true,rfl,fun _=>h,fun h=>by cases h⟩
 | no r h1 h2 h3 h4=>exact ⟨r,false,rfl,fun h=>(by cases h),fun _=>⟨r,rfl,h1,h2,h3,h4⟩⟩
theorem Gl (h:MinO p t u):∃ (b:Int)(a:Bool),u=.tuple #[.int .i64 b,.bool a]/\(a=true->Lp.RelW p.n t/\∀ s,s<t.others.length->p.n<=t.oth s->0<=t.worth.g s) /\
  (a=false->∃ s:Nat,b=s/\s<t.others.length/\kY t s*t.worth.g s<0/\(∀ i,i<t.basic.length->p.n<=t.bas i->0<=kY t s*(t.line i).g s)/\(p.n<=t.oth s->0<=kY t s)):=by
 cases h with
 | yes h1 h2=>exact ⟨0,true,rfl,fun _=>⟨h1,h2⟩,fun h=>by cases h⟩
 | no s h1 h2 h3 h4=>exact ⟨s,false,rfl,fun h=>(by cases h),fun _=>⟨s,rfl,h1,h2,h3,h4⟩⟩
inductive SolO (p:Lp.Sys) (cc:Nat->Rat) (D:Mem):Value->Prop where
 | opt (val:Rat) (pt du:Nat->Rat) (vp vd:Value):Lp.OptR p cc 16 val pt du->Sl D 1 vp (((List.range p.n).map pt).map aY)->Sl D 1 vd (((List.range p.m).map du).map aY)->SolO p cc D (.agg ⟨[.int .i64 1,ah (qtx val),vp,vd,.slice none 0 0]⟩)
 | inf (du:Nat->Rat) (vd:Value):Lp.InfR p 16 du->Sl D 1 vd (((List.range p.m).map du).map aY)->SolO p cc D (.agg ⟨[.int .i64 2,ah [],.slice none 0 0,vd,.slice none 0 0]⟩)
 | unb (pt ra:Nat->Rat) (vp vr:Value):Lp.UnbR p cc 16 pt ra->Sl D 1 vp (((List.range p.n).map pt).map aY)->Sl D 1 vr (((List.range p.n).map ra).map aY)->SolO p cc D (.agg ⟨[.int .i64 3,ah [],vp,.slice none 0 0,vr]⟩)
theorem Jd :kY t s=1∨kY t s=-1:=by unfold kY;split <;> simp
theorem IL (C:Mem)(x:Tabs C)(n:Nat)(V F:Value)(k:List (List Rat × Rat))(l:List Rat)(H:RowsT C V (k.map gR))(ho:Sl C 1 F (l.map aY))(X:RowsQ n k)(Y:n<=1000)(ai:l.length=n)(f:Lp.Lim (eJ n k) (fun j=>l.getD j 0) 16) :
  Pur cx.P 77 [.agg ⟨[.int .i64 n,V,F]⟩] C fun u D=>SolO (eJ n k) (fun j=>l.getD j 0) D u:=by
 have aS:maxLen<=9223372036854775807:=by simp [maxLen]
 have hm:=X.m;have aj:=H;obtain ⟨vs,ak,_,an⟩:=aj;obtain ⟨Ar,cr,rfl,_⟩:=id an;rw [tw ak,al] at H ⊢;obtain ⟨p,I⟩:∃ p,eJ n k=p:=⟨_,rfl⟩;obtain ⟨cc,ao⟩:∃ cc:Nat->Rat,(fun j=>l.getD j 0)=cc:=⟨_,rfl⟩;have ap:p.n=n:=by rw [<- I];rfl
 have aq:p.m=k.length:=by rw [<- I];rfl
 have z:=fun (D:Mem)(J:C.le D)=>Jr D (x.mono J) n (.slice Ar k.length cr) F k l (H.mono J) (ho.mono J) X Y ai;rw [I,ao] at f z ⊢;rw [<- ap] at z Y ⊢;rw [<- aq] at z ⊢;refine Uk func77 57 U3 fun w0=>?_;refine Uf fun R a=>?_;refine Uw U6 (fun b1=>?_);refine Uv U5 (fun b2=>?_);refine Ug [1,2] a Z ?_;clear a R;refine G.freeze 1 Z (fun _ _ K=>?_);refine UC [(1,3)] Z (fun R a=>?_);refine Uc (bkT K 3) U8 ?_;refine D.call (z _ mup) Z (.inr dc_) U6 (Qo _) fl_ (fun v9 C9 L9 _ ar=>?_);obtain ⟨b,wB,wL,wO,wW,wF,rfl,rfl⟩:=ar;refine C4 1 [1,2,3] a Z ?_;clear a R;refine UC [(1,3)] Z (fun R a=>?_);refine Ue U6 ?_;refine D.call (Da _ x.m_ p cc b _ wB wL wO wW wF Lp.openT_inv Z f om_ om_) Z (.inr dc_) U6 (Qo _) fl_ (fun aT _ aU _ au=>?_);refine Ug [1,2,3] a Z ?_;clear a R;obtain ⟨-,t1,av,aw,ax,rfl⟩:=au;refine UC [(1,3)] Z (fun R a=>?_);refine Ue U6 ?_;refine D.call (yP _ x.m_ p cc b t1 wB wL wO wW av aw ax f om_ om_) Z (.inr dc_) U6 (Qo _) fl_ (fun aV _ aW _ ay=>?_);obtain ⟨t,aa,w,ab,hF,rfl⟩:=ay;obtain ⟨row,is,rfl,az,aA⟩:=DM hF;refine C4 5 [1,2,3,4,5] a Z ?_;clear a R;refine Ua 2 [1,2,3,4,18] Z ?_;refine Ud (fun L=>?_) fun L=>?_
 ·have M:is=false:=by simpa using L
  obtain ⟨r,rfl,N,ac,aB,aC⟩:=aA M;refine Vv (fc b p.n t wB wL wO wW aa) (gb w.tab.ok) (fun C5 _ y=>?_);have h:=eV w.tab.ok y;refine Ub 3 Z fun R a=>?_;refine Uc (bkT K 1) U8 ?_;refine Ue U6 ?_;refine UG (Jc _ p b r t wB wL wO wW _ h.m_ w.tab om_ N ac (fun q=>(w.dualQ f dc_ N q).le dc_)) U7 fl_ (fun aX _ _ aD=>?_);obtain ⟨g,rfl,hg⟩:=aD;refine Uu [.int .i64 2,ah [],.slice none 0 0,.slice (some ⟨g,0,none⟩) p.m p.m,.slice none 0 0] U8 ?_;refine Um (j:=0) U12 ?_;refine Ug [2] a Z ?_;clear a R;refine Up (UU af U4 ?_);exact ⟨Z,.inf _ _ (w.inf f dc_ ab N ac aB aC) hg.m_⟩
 have M:is=true:=by simpa using L
 have aE:=az M;refine UC [(1,3)] Z (fun R a=>?_);refine Ue U6 ?_;refine D.call (yv _ x.m_ p cc b t wB wL wO wW aa w ab aE f om_ om_) Z (.inr dc_) U6 (Qo _) fl_ (fun aZ _ a0 _ aF=>?_);obtain ⟨d,ad,e,ae,hM,rfl⟩:=aF;obtain ⟨a1,ag,rfl,aG,aH⟩:=Gl hM;refine C4 5 [1,2,3,6,7] a Z ?_;clear a R;refine Ua 2 [1,2,3,6,32] Z ?_;refine Ud (fun O=>?_) fun O=>?_
 ·have Q:ag=false:=by simpa using O
  obtain ⟨s,rfl,A,aI,aK,aL⟩:=aH Q;refine Vv (fc b p.n d wB wL wO wW ad) (gb e.tab.ok) (fun C5 _ y=>?_);have h:=eV e.tab.ok y;refine UC [(1,3),(4,3)] Z (fun R a=>?_);refine Ue U6 ?_;refine D.call (Bb _ b p.n (p.n+p.m) d wB wL wO wW _ h.m_ e.tab.ok om_) Z (.inr dc_) U6 (Qo _) fl_ (fun a2 _ a3 _ aM=>?_);obtain ⟨S,rfl,rfl⟩:=aM;refine Uh 2 Z ?_;refine D.call (OE _ x.m_ p b s d wB wL wO wW _ h.m_ e.tab A om_ (fun i hi=>e.fac f hi A) (e.wfac f A)) Z (.inr dc_) U6 (Qo _) fl_ (fun a4 _ a5 _ aN=>?_);obtain ⟨B,rfl,rfl⟩:=aN;refine Uu [.int .i64 3,ah [],.slice (some ⟨S,0,none⟩) p.n p.n,.slice none 0 0,.slice (some ⟨B,0,none⟩) p.n p.n] U8 ?_;refine Um (j:=2) U12 ?_;refine Ug [2] a Z ?_;clear a R;refine G.freezeArr 1 (((List.range p.n).map fun v=>kY d s*d.dir s v).map aY) Z Z dK am (fun C8 _ T=>?_);refine G.freezeArr 1 (((List.range p.n).map d.sol).map aY) Z Z dK am (fun C9 _ U=>?_);refine Up (UU af U4 ?_);exact ⟨Z,.unb _ _ _ _ (e.unb f dc_ ae A Jd aI aK aL) U T.m_⟩
 have Q:ag=true:=by simpa using O
 obtain ⟨aO,aP⟩:=aG Q;refine Vv (fc b p.n d wB wL wO wW ad) (gb e.tab.ok) (fun C5 _ y=>?_);have h:=eV e.tab.ok y;refine Uy [0,1,2,3,4,5,7,8,9,10,11,12,13,14,6,15,16,17,18] [(6,3),(15,3),(4,0),(11,0),(13,0)] Z kr_ (fun R E a=>?_);refine Uh 4 Z ?_;refine Vg (fun _=>((PtrTo.blockT h.o _ 1).mono E)) U9 ?_;refine Uh 5 Z ?_;refine Vg (fun _=>((PtrTo.blockT h.o _ 2).mono E)) U9 ?_;refine Ue U6 ?_;refine Vg (fun _=>((bkT K 1).mono E)) U9 ?_;refine Ue U6 ?_;refine D.call (Bb _ b p.n (p.n+p.m) d wB wL wO wW _ h.m_ e.tab.ok om_) Z (.inr dc_) U6 (Qo _) fl_ (fun a6 _ a7 _ aQ=>?_);refine D.call (He _ p b d d.worth wB wL wO wW wW _ h.m_ e.tab om_ h.W.m_ e.tab.ok.wl) Z (.inr dc_) U6 (Qo _) fl_ (fun a8 _ a9 _ aR=>?_);obtain ⟨B,rfl,rfl⟩:=aR;obtain ⟨S,rfl,rfl⟩:=aQ;refine Uu [.slice (some ⟨B,0,none⟩) p.m p.m] U8 ?_;refine Uu [.int .i64 1,ah (qtx d.worth.c),.slice (some ⟨S,0,none⟩) p.n p.n,.slice (some ⟨B,0,none⟩) p.m p.m,.slice none 0 0] U8 ?_;refine Um (j:=2) U12 ?_;refine Ug [2] a Z ?_;clear a E R;refine G.freezeArr 1 (((List.range p.m).map (Lp.dualV p d d.worth)).map aY) Z Z dK am (fun C8 _ T=>?_);refine G.freezeArr 1 (((List.range p.n).map d.sol).map aY) Z Z dK am (fun C9 _ U=>?_);refine Up (UU af U4 ?_);exact ⟨Z,.opt _ _ _ _ _ (e.opt f dc_ ae aO aP) U T.m_⟩
theorem No (C:Mem)(n:Nat)(j:n<=1000000):Jog.Fn cx.P 186 [.slice none 0 0,.int .i64 n] C [] fun u _ h=>∃ A n2 c,u=.slice A n2 c/\h=[.arr u 56 1 0 []]:=by
 have k:maxLen<=9223372036854775807:=by simp [maxLen]
 refine Uk func186 27 U3 fun w0=>Ua 1 [0,1] Z<|Ua 2 [0,1,6] Z<|Ud (fun d=>?_) fun d=>?_
 ·simp at d;omega
 refine Ub 2 Z fun R a=>V0 Z Z Z Z Z Z Z Z Z<|Uh 2 Z<|Ul _ U7<|Ul _ U7<|C4 1 [0,1] a Z<|Ua 2 [0,1,16] Z<|Ud (fun f=>?_) fun f=>?_
 ·have i:0<n:=by
   simp at f;omega
  refine Ub 2 Z fun R a=>V0 Z Z Z Z Z Z Z Z Z<|UY 0 0 0 U12 (fun _=>⟨.inl ⟨Z,Z⟩,.inr ⟨_,Z⟩,.inl ⟨Z,Z⟩,Qi _,Qi _,Qi _⟩) U2<|Ue U6<|WD (m:=n) Z Z Z Z Z Z Z Z Z Z Z Z i (by show n*16<=_;omega) (by simp only [maxLen];omega) fl_ fun b g l=>Uh 2 Z<|UY 0 0 g U12 (fun _=>⟨.inl ⟨Z,Z⟩,.inr ⟨_,Z⟩,.inl ⟨Z,Z⟩,Qi _,Qm _,Qi _⟩) U2<|C4 1 [0] a Z<|Ua 2 [4] Z<|WU 0 0 Z (Qm _)<|Up (UR Z Z ?_);refine ⟨_,_,_,Z, ?_⟩;have e:(if g=0 then some (⟨b,0,none⟩:Addr) else (some (⟨b,0,none⟩:Addr)).map (·.add (0*1)))=some ⟨b,0,none⟩:=by
   split
   ·rfl
   simp [Addr.add_lit]
  rw [e];simp
 refine Ua 2 [4] Z<|G.nilArr 56 1<|Up (UR Z Z ?_);exact ⟨none,0,0,Z,Z⟩
def nF (xs:List (Value × List Rat)):List Rat:=(xs.map (·.2)).flatten
theorem xx {a:List (Value × List Rat)}{x:Value × List Rat}(h:a[i]?=some x):nF (a.take (i+1))=nF (a.take i)++x.2:=by
 unfold nF;rw [QO,h];simp
theorem HI (a:List (Value × List Rat))(i:Nat):(nF (a.take i)).length<=(nF a).length:=by
 have h:nF a=nF (a.take i)++nF (a.drop i):=by
  unfold nF;rw [<- Q5,<- QZ,Ro]
 rw [h,Qp];omega
def Nv (x:Value × List Rat):List Value:=[x.1]
theorem HB (C:Mem)(v:Value)(a:List (Value × List Rat))(h:Sl C 1 v (a.map Nv))(B:∀ x∈a,Sl C 1 x.1 (x.2.map aY))(K:(nF a).length<=1000000) :
  Jog.Fn cx.P 122 [v] C [] fun u _ e=>∃ A n2 c,u=.slice A n2 c/\e=[.arr u 56 1 (nF a).length ((nF a).map aY).flatten]:=by
 obtain ⟨p,c0,rfl,L,X,_⟩:=id h;have Y:maxLen<=9223372036854775807:=by simp [maxLen]
 simp only [al] at h L ⊢;refine Uk func122 36 U3 fun w0=>Ua 1 [0] Z<|Ua 1 [0,3] Z<|Ua 3 [0,3,9,10,11] Z<|G.loop (fun fr C' e q=>∃ (i:Nat)(z:Int),(i<=a.length/\z=(nF (a.take i)).length)/\fr=[(0,[],.slice p a.length c0),(3,[],.int .i64 z),(9,[],.slice p a.length c0),(10,[],.int .i64 a.length),(11,[],.int .i64 i)]/\e=[]/\q=a.length-i) (hn_ [0,3,9,10,11] Z) ⟨0,0,⟨Qm _,Z⟩,Z,Z,Z⟩ (fun fr aa ab m _ r=>?_);obtain ⟨i,z,⟨hi,s⟩,rfl,rfl,rfl⟩:=r;refine Ua 1 [0,3,9,10,11,12] Z<|Ud (fun t=>?_) fun t=>?_
 ·have f:i<a.length:=by
   have:=aK t;omega
  obtain ⟨x,d⟩:∃ x,a[i]?=some x:=⟨a[i],ak f⟩;have g:=B x (Qj d);obtain ⟨w,l⟩:=x;simp only at g;obtain ⟨Ax,ac,rfl,M,ad,_⟩:=id g;simp only [al] at g M d;have k:=xx d;have E:=HI a (i+1);have N:(nF (a.take (i+1))).length=(nF (a.take i)).length+l.length:=by rw [k,Qp]
  refine Uf fun R b=>Ur h.m_ U10 om_ (show (a.map Nv)[i]?=some [_] from gd d) fl_ fun ae O=>Uc O U8<|C4 1 [0,3,5,9,10,11] b Z<|Ub 3 Z fun R b=>Ul _ U7<|C4 1 [0,3,9,10,11] b Z<|Ua 2 [0,3,9,10,11,20] Z<|Ud (fun F=>?_) fun F=>?_
  ·exfalso;have af:=aK F;omega
  refine Uf fun R b=>Ul _ U7<|C4 1 [0,3,9,10,11] b Z<|Un (m':=a.length-(i+1)) om_ mup (hn_ [0,3,9,10,11] Z) ⟨i+1,_,⟨by omega,by rw [s];omega⟩,Z,Z,Z⟩
 have f:i=a.length:=by
  have:=Ql t;omega
 rw [f,Qv] at s;subst s;refine UC [(1,3)] Z fun R b=>Ue U6<|D.call (No _ (nF a).length K) Z (.inr dc_) U6 (Qo _) fl_ (fun ag _ ai _ Q=>?_);obtain ⟨S,T,U,rfl,rfl⟩:=Q;refine C4 1 [0,6] b Z<|Ua 3 [6,25,26,27] Z<|G.loop (fun fr C' e q=>∃ (i:Nat)(n:Option Addr)(n1 o:Nat),(i<=a.length)/\fr=[(6,[],.slice n n1 o),(25,[],.slice p a.length c0),(26,[],.int .i64 a.length),(27,[],.int .i64 i)]/\e=[.arr (.slice n n1 o) 56 1 (nF (a.take i)).length ((nF (a.take i)).map aY).flatten]/\q=a.length-i) (hn_ [6,25,26,27] Z) ⟨0,S,T,U,Qm _,Z,Z,Z⟩ (fun fr aj am m E r=>?_);obtain ⟨i,n,n1,o,an,rfl,rfl,rfl⟩:=r;refine Ua 1 [6,25,26,27,28] Z<|Ud (fun y=>?_) fun y=>?_
 ·have f:i<a.length:=by
   have:=aK y;omega
  obtain ⟨x,d⟩:∃ x,a[i]?=some x:=⟨a[i],ak f⟩;have g:=B x (Qj d);have k:=xx d;have E:=HI a (i+1);have N:(nF (a.take (i+1))).length=(nF (a.take i)).length+x.2.length:=by rw [k,Qp]
  refine Uf fun R b=>Ur h.m_ U10 om_ (show (a.map Nv)[i]?=some [x.1] from gd d) fl_ fun ao V=>Uc V U8<|C4 1 [6,8,25,26,27] b Z<|Ub 2 Z fun R b=>UF (j:=0) U11 g.m_ (by simp [aY,mG,ah]) (by simp only [al,maxLen];omega) (by show ((nF (a.take i)).length+(x.2.map aY).length)*16<=_;rw [al];omega) fl_ fun H I J=>C4 1 [6,25,26,27] b Z<|Uf fun R b=>Ul _ U7<|C4 1 [6,25,26,27] b Z<|Ut (L':=[.arr (.slice H I J) 56 1 (nF (a.take (i+1))).length ((nF (a.take (i+1))).map aY).flatten]) (by rw [k,QZ,Q5,Qp,al];rfl)<|Un (m':=a.length-(i+1)) om_ mup (hn_ [6,25,26,27] Z) ⟨i+1,H,I,J,om_,Z,Z,Z⟩
 have W:i=a.length:=by
  have:=Ql y;omega
 refine Ua 2 [2] Z<|Up (UR Z Z ?_);exact ⟨n,n1,o,Z,by rw [W,Qv]⟩
theorem IY (C:Mem)(N:Tabs C)(o:Int)(y:Str)(f g i:Value)(a b c:List Rat)(z:Sl C 1 f (a.map aY))(A:Sl C 1 g (b.map aY))(B:Sl C 1 i (c.map aY))(O:∀ x∈a,QB 16 x)(Q:∀ x∈b,QB 16 x)(S:∀ x∈c,QB 16 x)(ae:a.length<=1000)(af:b.length<=1000)(ag:c.length<=1000)
  (T:o=1->∃ q,y=qtx q/\QB 16 q):Gives cx.P 78 [.agg ⟨[.int .i64 o,ah y,f,g,i]⟩] C (.bool true):=by
 have E:nF [(f,a),(g,b),(i,c)]=a++(b++(c++[])):=rfl;have F:(nF [(f,a),(g,b),(i,c)]).length<=1000000:=by rw [E];simp;omega
 obtain ⟨all,H⟩:∃ all,nF [(f,a),(g,b),(i,c)]=all:=⟨_,rfl⟩;have I:∀ x∈all,QB 16 x:=fun x d=>by
  rw [<- H,E] at d;simp only [Qz,Rk,SJ] at d;rcases d with h | h | h
  ·exact O x h
  ·exact Q x h
  exact S x h
 have U:∀ l:List Rat,(∀ x∈l,QB 16 x)->((l.map qtx).any fun s=>!ba s)=false:=fun l V=>List.any_eq_false.2 fun s hs=>by
  obtain ⟨x,d,rfl⟩:=Qq.1 hs;rw [bO ((V x d).le dc_)];decide
 obtain ⟨p,r,rfl,_⟩:=id z;obtain ⟨t,u,rfl,_⟩:=id A;obtain ⟨v,w,rfl,_⟩:=id B;have W:∀ D:Mem,C.le D->∀ x∈[(Value.slice p (a.map aY).length r,a),(Value.slice t (b.map aY).length u,b),(Value.slice v (c.map aY).length w,c)],Sl D 1 x.1 (x.2.map aY):=fun D k x d=>by
  simp only [Qw,Rk,SJ] at d;rcases d with h | h | h
  ·rw [h];exact z.mono k
  ·rw [h];exact A.mono k
  rw [h];exact B.mono k
 refine Uk func78 24 U3 fun w0=>Uf fun R e=>Uw U6 fun b1=>C4 1 [1] e Z<|G.freeze 0 Z fun _ _ m=>UC [(8,3)] Z fun R e=>Ue U6<|Uc (bkT m 1) U8<|Uh 2 Z<|Uc (bkT m 1) U8<|Ue U6<|Uc (bkT m 1) U8<|Ux [[.slice p (a.map aY).length r],[.slice t (b.map aY).length u],[.slice v (c.map aY).length w]] U12 fun ai _ _ X=>D.call (HB _ _ [(.slice p (a.map aY).length r,a),(.slice t (b.map aY).length u,b),(.slice v (c.map aY).length w,c)] X.m_ (W _ mup) F) Z (.inr dc_) U6 (Qo _) fl_ (fun aj _ ak _ Y=>?_);obtain ⟨A3,n3,c3,rfl,rfl⟩:=Y;rw [H] at F ⊢;refine C4 1 [1,3] e Z<|Ub 1 Z fun R e=>Uc (bkT m 1) U8<|C4 1 [1,3,15] e Z<|G.cut (fun fr C' J μ=>∃ (n:Value)(l:List Rat),(∀ x∈l,QB 16 x)/\fr=[(3,[],n)]/\J=[.arr n 56 1 l.length (l.map aY).flatten]) ?_ (fun fr _ al μ _ hI=>?_)
 ·refine Ud (fun K=>?_) fun K=>?_
  ·have aa:o=1:=by simpa using K
   obtain ⟨q,rfl,ab⟩:=T aa;refine Ub 2 Z fun R e=>Uc (bkT m 1) U8<|Ux [[ah (qtx q)]] U12 fun an _ _ ac=>D.append (j:=0) U11 ac Z aw (by show (all.length+1)*16<=_;omega) fl_ fun L=>C4 1 [3] e Z<|Ut (L':=[.arr L 56 1 (all++[q]).length ((all++[q]).map aY).flatten]) (by rw [QZ,Q5,Qp];rfl)<|Uq 0 mup (hn_ [3] Z) ⟨L,all++[q],fun x d=>by
    rcases Qz.1 d with h | h
    ·exact I x h
    rw [QF.1 h];exact ab,rfl,rfl⟩
  refine Uq 0 (Mem.le.refl _) (hn_ [3] Z) ⟨_,all,I,Z,Z⟩
 obtain ⟨n ,l,M,rfl,rfl⟩:=hI;refine G.freezeArr 0 (l.map aY) Z Z dK am fun _ _ ad=>Ub 1 Z fun R e=>Us (F1 _ n (l.map qtx) 89 [] (fun s=>!ba s) (by rw [<- BJ];exact ad.mono mup) kr_ (fun s hs D k=>by
  obtain ⟨x,d,rfl⟩:=Qq.1 hs;exact pn D (N.mono (Mem.le.trans mup k)) (qtx x) (QG (bJ (M x d) dc_) dc_))) U7 fl_ ?_
 exact C4 2 [2] e Z<|Ui U2<|⟨by rw [U l M];rfl,Z⟩
theorem sj {n:Int}{l:List Str}:jh n l=0 ↔ (l.length:Int)=n/\l.all ba=true:=by
 unfold jh;by_cases h:(l.length:Int)=n
 ·rw [aV h];rcases sS (l.all ba) with ⟨h1,h2⟩ | ⟨h1,h2⟩
  ·rw [h1];exact ⟨fun _=>⟨h,h2⟩,fun _=>rfl⟩
  rw [h1,h2];exact ⟨fun h=>(by cases h),fun h=>(by cases h.2)⟩
 rw [aA h];exact ⟨fun h=>(by cases h),fun h2=>absurd h2.1 h⟩
theorem Fq {n:Int}{r:List Str × Str}:Fs n r=0 ↔ jh n r.1=0/\ba r.2=true:=by
 unfold Fs;by_cases h:jh n r.1=0
 ·rw [aA (fun a=>a h)];rcases sS (ba r.2) with ⟨h1,h2⟩ | ⟨h1,h2⟩
  ·rw [h1];exact ⟨fun _=>⟨h,h2⟩,fun _=>rfl⟩
  rw [h1,h2];exact ⟨fun h=>(by cases h),fun h=>(by cases h.2)⟩
 rw [aV h];exact ⟨fun h2=>absurd h2 h,fun h2=>absurd h2.1 h⟩
theorem E7 {D:Mem}(h:SolO p cc D u):∃ (kd:Int)(val:Str)(e g i:Value)(a b c:List Rat),u=.agg ⟨[.int .i64 kd,ah val,e,g,i]⟩/\Sl D 1 e (a.map aY)/\Sl D 1 g (b.map aY)/\Sl D 1 i (c.map aY) /\
  (∀ x∈a,QB 16 x)/\(∀ x∈b,QB 16 x)/\(∀ x∈c,QB 16 x)/\a.length<=p.n/\b.length<=p.m/\c.length<=p.n/\(kd=1->∃ q,val=qtx q/\QB 16 q):=by
 have hr:∀ (n:Nat)(f:Nat->Rat),(∀ j,QB 16 (f j))->∀ x∈(List.range n).map f,QB 16 x:=fun n f o x d=>by
  obtain ⟨j,_,rfl⟩:=Qq.1 d;exact o j
 cases h with
 | opt val pt du e g k h1 h2=>exact ⟨1,qtx val,e,g,.slice none 0 0,_,_,[],rfl,h1,h2,Sl.nil _ _,hr _ _ k.qp,hr _ _ k.qd,fun x d=>(by cases d),by simp,by simp,Qm _,fun _=>⟨val,rfl,k.qv⟩⟩
 | inf du g r h1=>exact ⟨2,[],.slice none 0 0,g,.slice none 0 0,[],_,[],rfl,Sl.nil _ _,h1,Sl.nil _ _,fun x d=>(by cases d),hr _ _ r.qd,fun x d=>(by cases d),Qm _,by simp,Qm _,fun h=>absurd h dc_⟩
 | unb pt ra e i l h1 h2=>exact ⟨3,[],e,.slice none 0 0,i,_,[],_,rfl,h1,Sl.nil _ _,h2,hr _ _ l.qp,fun x d=>(by cases d),hr _ _ l.qr,by simp,Qm _,by simp,fun h=>absurd h dc_⟩
theorem sZ {l:List Rat}(h:∀ x∈l,QB 22 x):(l.map qtx).all ba=true:=QD.2 fun s hs=>by
 obtain ⟨x,a,rfl⟩:=Qq.1 hs;exact bO (h x a)
theorem pf {n:Nat}:∀ {rs:List (List Rat × Rat)},(∀ r∈rs,r.1.length=n)->(∀ r∈rs,(∀ x∈r.1,QB 22 x)/\QB 22 r.2)->tN n (rs.map gR)=0
 | [],_,_=>rfl
 | r::rs,b,a=>by
  have e:tN n ((r::rs).map gR)=if Fs n (gR r)≠0 then Fs n (gR r) else tN n (rs.map gR):=rfl;have h0:Fs n (gR r)=0:=Fq.2 ⟨sj.2 ⟨by show ((r.1.map qtx).length:Int)=n;rw [al,b r PH],sZ (a r PH).1⟩,bO (a r PH).2⟩;rw [e,aA fun h=>h h0];exact pf (fun r hr=>b r (Qt _ hr)) fun r hr=>a r (Qt _ hr)
theorem D1 {a:List (List Rat × Rat)}{b:List Rat}(g:n<=60)(i:a.length<=300)(c:∀ r∈a,r.1.length=n)(d:∀ r∈a,(∀ x∈r.1,QB 22 x)/\QB 22 r.2)(e:b.length=n)(f:∀ x∈b,QB 22 x):KE n (a.map gR) (b.map qtx)=0:=by
 unfold KE;rw [aA om_,aA (by rw [al];omega),aA fun h=>h (sj.2 ⟨by rw [al,e],sZ f⟩)];exact pf c d
inductive FeaO (p:Lp.Sys) (D:Mem):Value->Prop where
 | yes (pt:Nat->Rat) (vp:Value):p.Hold->(∀ j,QB 16 (pt j))->Sl D 1 vp (((List.range p.n).map pt).map aY)->FeaO p D (.tuple #[vp,.agg ⟨[.slice none 0 0]⟩,.bool true,.int .i64 0])
 | no (du:Nat->Rat) (vd:Value):Lp.InfR p 16 du->Sl D 1 vd (((List.range p.m).map du).map aY)->FeaO p D (.tuple #[.slice none 0 0,.agg ⟨[vd]⟩,.bool false,.int .i64 0])
theorem IN {D:Mem}{c:Int}{g a b d:Value}(h:SolO p cc D (.agg ⟨[.int .i64 c,g,a,b,d]⟩)) :
  (c=2/\∃ du,Lp.InfR p 16 du/\Sl D 1 b (((List.range p.m).map du).map aY))∨(c≠2/\∃ pt,(p.Hold∨∃ ra,Lp.UnbR p cc 16 pt ra)/\(∀ j,QB 16 (pt j))/\Sl D 1 a (((List.range p.n).map pt).map aY)):=by
 cases h with
 | opt w pt du a b e h1 h2=>exact .inr ⟨by decide,pt,.inl e.hold,e.qp,h1⟩
 | inf du b i h1=>exact .inl ⟨rfl,du,i,h1⟩
 | unb pt ra a d f h1 h2=>exact .inr ⟨by decide,pt,.inr ⟨ra,f⟩,f.qp,h1⟩
theorem nW (n:Nat):List.replicate n (ah [48])=((List.replicate n (0:Rat)).map aY).flatten:=by
 rw [Tn,P8];induction n with
 | zero=>rfl
 | succ n a=>rw [RE,RE,RU,a];rfl
theorem Fw (n j:Nat):(List.replicate n (0:Rat)).getD j 0=0:=by
 rw [ax,R8];split <;> rfl
theorem Bg (C:Mem)(t:Tabs C)(n:Nat)(g k:Value)(f:List (List Rat × Rat))(i:List Rat)(o:RowsT C g (f.map gR))(v:Sl C 1 k (i.map aY))(w:RowsQ n f)(B:∀ x∈i,QB 22 x)(E:∀ r∈f,(∀ x∈r.1,QB 22 x)/\QB 22 r.2)(N:n<=60)(O:i.length=n)(Q:Lp.Lim (eJ n f) (fun _=>0) 16) :
  Pur cx.P 43 [.agg ⟨[.int .i64 n,g,k]⟩] C fun u D=>FeaO (eJ n f) D u:=by
 have ag:maxLen<=9223372036854775807:=by simp [maxLen]
 have hm:=w.m;have S:KE n (f.map gR) (i.map qtx)=0:=D1 N om_ w.l E O B;have T:∀ D:Mem,C.le D->Gives cx.P 56 [.agg ⟨[.int .i64 n,g,k]⟩] D (.int .i64 0):=fun D y=>by
  have h:=FY D (t.mono y) n g k (f.map gR) (i.map qtx) (o.mono y) (by rw [<- BJ];exact v.mono y) (fun r o=>by
   obtain ⟨r,U,rfl⟩:=Qq.1 o;obtain ⟨h1,h2⟩:=E r U;refine ⟨fun s hs=>?_,QG (bJ h2 dc_) dc_⟩;obtain ⟨x,z,rfl⟩:=Qq.1 hs;exact QG (bJ (h1 x z) dc_) dc_) (fun s hs=>by
   obtain ⟨x,z,rfl⟩:=Qq.1 hs;exact QG (bJ (B x z) dc_) dc_)
  rw [S] at h;exact h
 have V:Lp.Lim (eJ n f) (fun j=>(List.replicate n (0:Rat)).getD j 0) 16:=by
  have e:(fun j=>(List.replicate n (0:Rat)).getD j 0)=fun _=>(0:Rat):=funext (Fw n);rw [e];exact Q
 refine Uk func43 32 U3 fun w0=>Uf fun R d=>Uw U6 fun b1=>Ue U6<|Uv U5 fun b3=>C4 2 [1,3] d Z<|Uf fun R d=>Uj ae U9<|Uo (T _ mup) U7<|C4 1 [1,3,6] d Z<|Ua 2 [1,3,6,11] Z<|Ud (fun F=>?_) fun F=>?_
 ·exact absurd F dc_
 refine UC [(2,3)] Z fun R d=>Ue U6<|Uj ae U9<|D.call (iW _ n om_) Z (.inr dc_) U6 (Qo _) fl_ (fun ah _ ai _ W=>?_);obtain ⟨bz,rfl,rfl⟩:=W;rw [nW];refine Ue U6<|Um (j:=2) U12<|Ug [1,3] d Z<|G.freezeArr 1 ((List.replicate n (0:Rat)).map aY) Z Z dK am fun _ _ X=>G.freeze 0 Z fun _ _ Y=>Uf fun R d=>Uc (bkT Y 3) U8<|UG (IL _ t.m_ n g _ f (List.replicate n 0) o.m_ X.m_ w om_ am V) U7 fl_ (fun aj _ _ H=>?_);obtain ⟨kd,val,vp,vd,vr,a,b,c,rfl,I,J,K,qa,qb,qc,aa,ab,ac,hv⟩:=E7 H;have A:=IN H;rw [show (fun j=>(List.replicate n (0:Rat)).getD j 0)=fun _=>(0:Rat) from funext (Fw n)] at A;obtain ⟨Ap,cp,rfl,_⟩:=id I;obtain ⟨Ad,cd,rfl,_⟩:=id J;obtain ⟨Ar,cr,rfl,_⟩:=id K;refine Uv U5 fun b7=>Um (j:=0) U12<|Ug [3,7] d Z<|G.freeze 0 Z fun _ _ p=>Uf fun R d=>Uc (bkT p 5) U8<|Us (IY _ t.m_ kd val _ _ _ a b c I.m_ J.m_ K.m_ qa qb qc (QG aa (by show n<=_;omega)) (QG ab (by show f.length<=_;omega)) (QG ac (by show n<=_;omega)) hv) U7 fl_<|C4 1 [3,7,22] d Z<|Ud (fun L=>?_) fun L=>?_
 ·exact absurd L dc_
 refine Ub 1 Z fun R d=>Uc (bkT p 1) U8<|C4 1 [3,7,26] d Z<|Ud (fun q=>?_) fun q=>?_
 ·refine Uy [0,1,2,3,4,5] [(1,0)] Z kr_ fun R M d=>Ue U6<|Vg (fun _=>((bkT p 1).mono M)) U9<|Ue U6<|Um (j:=0) U12<|Uh 2 Z<|Ug [2,3,4,5] d Z ?_;clear d M R;refine Up (Wi af Z Z Z Z Z Z Z ?_);refine ⟨Z, ?_⟩;rcases A with ⟨_,du,hi,h1⟩ | ⟨h,_⟩
  ·exact .no du _ hi h1.m_
  exact absurd (by simpa using q) h
 refine Ub 1 Z fun R d=>Uc (bkT p 1) U8<|Uu ([.slice none 0 0]) U8<|Ue U6<|Um (j:=0) U12<|C4 2 [2,3,4,5] d Z<|Up (Wi af Z Z Z Z Z Z Z ?_);refine ⟨Z, ?_⟩;rcases A with ⟨h,_⟩ | ⟨_,pt,v,ad,h1⟩
 ·rw [h] at q;cases q
 refine .yes pt _ ?_ ad h1.m_;rcases v with h | ⟨ra,hu⟩
 ·exact h
 exact hu.zero.elim
def prC (vs:List Value)(l:List SrcQ):List (List Value):=aT vs (l.map SrcQ.r)
def frC (l:List SrcQ):List (List Value):=l.map fun s=>[Value.int .i64 s.n]
theorem Ba {l:List SrcQ}{s:SrcQ}(a:vs.length=l.length)(c:vs[i]?=some w)(d:l[i]?=some s):prC (vs.take (i+1)) (l.take (i+1))=prC (vs.take i) (l.take i)++[[w,ah (qtx s.r.b)]]:=by
 unfold prC;rw [QO,QO,c,d,QZ];exact fq (by simp [a]) w s.r
theorem J9 {l:List SrcQ}{s:SrcQ}(a:l[i]?=some s):frC (l.take (i+1))=frC (l.take i)++[[.int .i64 s.n]]:=by
 unfold frC;rw [QO,a,QZ];rfl
theorem K7 {l:List SrcQ}{s:SrcQ}(a:vs[i]?=some w)(c:l[i]?=some s):(bS vs l)[i]?=some [.int .i64 s.n,w,ah (qtx s.r.b)]:=by
 unfold bS;rw [List.getElem?_zipWith,a,c]
abbrev sA7 (A:Option Addr)(n c:Nat):Value:=.slice A n c
abbrev sB7 (A:Option Addr)(n c:Nat):Value:=.slice A n c
structure ProbIn (D:Mem)(n:Nat)(l:List SrcQ)(u:Value):Prop where
 ex:∃ rv ov fv,u=.tuple #[.agg ⟨[.int .i64 n,rv,ov]⟩,fv]/\RowsT D rv ((kc (l.map SrcQ.r)).map gR)/\Sl D 1 ov ((List.replicate n (0:Rat)).map aY)/\Sl D 1 fv (frC l)
theorem FP (a:List Value)(l:List SrcQ):∀ r∈prC a l,r.length=2:=iV _ _
theorem Ns (l:List SrcQ):∀ r∈frC l,r.length=1:=fun r hr=>by
 obtain ⟨s,_,rfl⟩:=Qq.1 hr;rfl
theorem AI {v:Value}(h:RowsOk C vs rows)(b:Sl C 2 v (aT vs rows)):RowsT C v ((kc rows).map gR):=by
 refine ⟨vs,by rw [h.1];simp [kc],fun i w r c hr=>?_, ?_⟩
 ·rw [kc,Q8,Qn] at hr;cases a:rows[i]? with
  | none=>rw [a] at hr;cases hr
  | some x =>
   rw [a] at hr;cases hr
   have:=h.2 i w x c a;show Sl C 1 w ((x.f.map qtx).map yR);rw [<- BJ];exact this
 have e:List.zipWith (fun w (r:List Str × Str)=>[w,ah r.2]) vs ((kc rows).map gR)=aT vs rows:=by
  unfold kc aT;rw [Q8,List.zipWith_map_right];rfl
 rw [e];exact b
theorem De (C:Mem)(x lv:Value)(B:Bk)(l:List SrcQ)(O:BookZ C x B 0)(ag:bs B*bp B<=60)(aI:l.length<=300)
  (aq:∀ D:Mem,C.le D->Pur cx.P 52 [x,lv] D fun u E=>∃ v,u=.tuple #[v,.int .i64 0]/\xH E v l) :
  Pur cx.P 51 [x,lv] C fun u D=>ProbIn D (bs B*bp B) l u:=by
 have aL:=O;obtain ⟨n,hn⟩:∃ n,bs B*bp B=n:=⟨_,rfl⟩;have ar:∀ D:Mem,C.le D->Gives cx.P 35 [x] D (.tuple #[.int .i64 n,.int .i64 0]):=fun D hD=>by
  have h:=yX D x B 0 (O.mono hD) ag;rw [aV rfl,hn] at h;exact h
 rw [hn] at ag ⊢;obtain ⟨v1,v2,tv,cv,ov,rfl,h1,h2,h3,h4,h5⟩:=id O.i.ex;have aM:maxLen<=9223372036854775807:=by simp [maxLen]
 refine Uk func51 51 U3 fun w0=>Uf fun R a=>Uw U6 fun b2=>Uv U5 fun g=>C4 1 [1,2,4] a Z<|G.freeze 1 Z fun _ _ ai=>Uf fun R a=>Uc (bkT ai 5) U8<|Uo (ar _ mup) U7<|C4 5 [1,2,4,6] a Z<|Uf fun R a=>Uc (bkT ai 5) U8<|Ue U6<|UM (aq _ mup) U7 (fun aN _ _ au=>?_);obtain ⟨wv,rfl,av⟩:=au;obtain ⟨vs,Q,S⟩:=av;have T:=jC Q;obtain ⟨Aw,cw,rfl,ax,aO,_⟩:=id S;have ay:(bS vs l).length=l.length:=by unfold bS;simp [T]
 rw [ay] at S ax ⊢;refine C4 5 [4,6,8] a Z<|UC [(3,3)] Z fun R a=>Ue U6<|Ux [[ah [48]]] U12 fun aP _ _ az=>Ue U6<|D.call (rR _ _ n [48] az.m_ om_) Z (.inr dc_) U6 (Qo _) fl_ (fun aQ _ aR _ aA=>?_);obtain ⟨bz,rfl,rfl⟩:=aA;rw [nW];refine Uu [.int .i64 n,.slice none 0 0,.slice (some ⟨bz,0,none⟩) n n] U8<|Uv U5 fun k=>Um (j:=0) U12<|Ug [4,8,10] a Z<|G.freezeArr 1 ((List.replicate n (0:Rat)).map aY) Z Z dK am fun _ _ aB=>Ua 1 [4,8,10,11] Z<|Ua 3 [4,10,11,30,31,32] Z<|G.nilArr 123 2<|G.nilArr 3 1<|G.perm (L':=[.arr (sA7 none 0 0) 123 2 0 (prC (vs.take 0) (l.take 0)).flatten,.arr (sB7 none 0 0) 3 1 0 (frC (l.take 0)).flatten,.obj k (.cells ⟨[.int .i64 n,.slice none 0 0,.slice (some ⟨bz,0,none⟩) n n]⟩ 80 (0,0)),.obj g (.cells ⟨[.int .i64 0,.slice none 0 0,.slice none 0 0]⟩ 80 (0,0))]) (pkL [1,0,0,0] Z)<|G.loop (fun fr C' t U=>∃ (i:Nat)(V:Option Addr)(n1 W:Nat)(A2:Option Addr)(n2 c2:Nat),(i<=l.length)/\fr=[(4,[],.pointer (some ⟨g,0,none⟩)),(10,[],.pointer (some ⟨k,0,none⟩)),(11,[],.slice A2 n2 c2),(30,[],.slice Aw l.length cw),(31,[],.int .i64 l.length),(32,[],.int .i64 i)]/\t=[.arr (sA7 V n1 W) 123 2 i (prC (vs.take i) (l.take i)).flatten,.arr (sB7 A2 n2 c2) 3 1 i (frC (l.take i)).flatten,.obj k (.cells ⟨[.int .i64 n,.slice V n1 W,.slice (some ⟨bz,0,none⟩) n n]⟩ 80 (0,0)),.obj g (.cells ⟨[.int .i64 0,.slice none 0 0,.slice none 0 0]⟩ 80 (0,0))]/\U=l.length-i) (hn_ [4,10,11,30,31,32] Z) ⟨0,none,0,0,none,0,0,Qm _,Z,Z,Z⟩ (fun fr aS aT m _ X=>?_);obtain ⟨i,V,n1,W,A2,n2,c2,hi,rfl,rfl,rfl⟩:=X;refine Ua 1 [4,10,11,30,31,32,33] Z<|Ud (fun Y=>?_) fun Y=>?_
 ·have aa:i<l.length:=by
   have:=aK Y;omega
  obtain ⟨s,F⟩:∃ s,l[i]?=some s:=⟨l[i],ak aa⟩;obtain ⟨w,ab⟩:∃ w,vs[i]?=some w:=⟨vs[i]'om_,ak om_⟩;have aC:=Q.2 i w s.r ab (by rw [Qn,F];rfl);obtain ⟨Ax,aj,rfl,_⟩:=id aC;have ad:=Ba T ab F;have ae:=J9 F;refine Uf fun R a=>Ur S.m_ U10 om_ (K7 ab F) fl_ fun aU aD=>Uc aD U8<|Uv U5 fun aW=>Um (j:=0) U12<|Ug [4,10,11,13,30,31,32] a Z<|G.freeze 0 Z fun _ _ an=>G.cut (fun fr C' t U=>∃ (H:Option Addr)(I J:Nat)(K:Option Addr)(L M:Nat),(True)/\fr=[(4,[],.pointer (some ⟨g,0,none⟩)),(10,[],.pointer (some ⟨k,0,none⟩)),(11,[],.slice K L M),(30,[],.slice Aw l.length cw),(31,[],.int .i64 l.length),(32,[],.int .i64 i)]/\t=[.arr (sA7 H I J) 123 2 (i+1) (prC (vs.take (i+1)) (l.take (i+1))).flatten,.arr (sB7 K L M) 3 1 (i+1) (frC (l.take (i+1))).flatten,.obj k (.cells ⟨[.int .i64 n,.slice H I J,.slice (some ⟨bz,0,none⟩) n n]⟩ 80 (0,0)),.obj g (.cells ⟨[.int .i64 0,.slice none 0 0,.slice none 0 0]⟩ 80 (0,0))]) ?_ (fun fr aX aZ U a0 X=>?_)
  ·refine UV (.cut [0,1,2,3,6,7,8] (.alt 4 (.cut [] (.alt 5 (.fin [11,9,10,12,13]) (.alt 9 (.fin [5,11,10,12,13]) .stop))) (.alt 9 (.fin [4,5,11,10,12,13]) .stop))) [(3,0),(8,0)] Z Z kr_ fun R y a z=>Ue U6<|Uj ac U9<|Ue U6<|Vg (fun _=>((bkT an 2).mono y)) U9<|Uh 2 Z<|Vg (fun _=>((bkT an 1).mono y)) U9<|UK z Z ⟨?_, ?_,trivial⟩
   ·refine Ux [[.slice Ax (s.r.f.map fh).length aj,ah (qtx s.r.b)]] U12 fun aE aF _ N=>UK z Z ⟨?_, ?_,trivial⟩
    ·refine UF (j:=0) U11 N.m_ Z aw (by show (i+1)*40<=_;omega) fl_ fun c d e=>Ue U6<|Ux [[.int .i64 s.n]] U12 fun ao ap _ A=>UF (j:=1) U11 A.m_ Z aw (by show (i+1)*8<=_;omega) fl_ fun o p q=>Um (j:=2) U12<|Ue U6<|Ug [4,10,11,30,31,32] a Z ?_;clear a y z R;exact G.perm (L':=[.arr (sA7 c d e) 123 2 (i+1) (prC (vs.take (i+1)) (l.take (i+1))).flatten,.arr (sB7 o p q) 3 1 (i+1) (frC (l.take (i+1))).flatten,.obj k (.cells ⟨[.int .i64 n,.slice c d e,.slice (some ⟨bz,0,none⟩) n n]⟩ 80 (0,0)),.obj g (.cells ⟨[.int .i64 0,.slice none 0 0,.slice none 0 0]⟩ 80 (0,0))]) (by rw [ad,ae,Q5,Q5];(exact pkL [2,1,0,0] Z))<|Uq 0 mup (hn_ [4,10,11,30,31,32] Z) ⟨c,d,e,o,p,q,trivial,Z,Z⟩
    refine Ux [[.int .i64 s.n]] U12 fun ao ap _ A=>UF (j:=0) U11 N.m_ Z aw (by show (i+1)*40<=_;omega) fl_ fun c d e=>Ue U6<|UF (j:=1) U11 A.m_ Z aw (by show (i+1)*8<=_;omega) fl_ fun o p q=>Um (j:=2) U12<|Ue U6<|Ug [4,10,11,30,31,32] a Z ?_;clear a y z R;exact G.perm (L':=[.arr (sA7 c d e) 123 2 (i+1) (prC (vs.take (i+1)) (l.take (i+1))).flatten,.arr (sB7 o p q) 3 1 (i+1) (frC (l.take (i+1))).flatten,.obj k (.cells ⟨[.int .i64 n,.slice c d e,.slice (some ⟨bz,0,none⟩) n n]⟩ 80 (0,0)),.obj g (.cells ⟨[.int .i64 0,.slice none 0 0,.slice none 0 0]⟩ 80 (0,0))]) (by rw [ad,ae,Q5,Q5];(exact pkL [2,1,0,0] Z))<|Uq 0 mup (hn_ [4,10,11,30,31,32] Z) ⟨c,d,e,o,p,q,trivial,Z,Z⟩
   refine Ux [[.int .i64 s.n]] U12 fun ao ap _ A=>Ux [[.slice Ax (s.r.f.map fh).length aj,ah (qtx s.r.b)]] U12 fun aE aF _ N=>UF (j:=0) U11 N.m_ Z aw (by show (i+1)*40<=_;omega) fl_ fun c d e=>Ue U6<|UF (j:=1) U11 A.m_ Z aw (by show (i+1)*8<=_;omega) fl_ fun o p q=>Um (j:=2) U12<|Ue U6<|Ug [4,10,11,30,31,32] a Z ?_;clear a y z R;exact G.perm (L':=[.arr (sA7 c d e) 123 2 (i+1) (prC (vs.take (i+1)) (l.take (i+1))).flatten,.arr (sB7 o p q) 3 1 (i+1) (frC (l.take (i+1))).flatten,.obj k (.cells ⟨[.int .i64 n,.slice c d e,.slice (some ⟨bz,0,none⟩) n n]⟩ 80 (0,0)),.obj g (.cells ⟨[.int .i64 0,.slice none 0 0,.slice none 0 0]⟩ 80 (0,0))]) (by rw [ad,ae,Q5,Q5];(exact pkL [2,1,0,0] Z))<|Uq 0 mup (hn_ [4,10,11,30,31,32] Z) ⟨c,d,e,o,p,q,trivial,Z,Z⟩
  obtain ⟨H,I,J,K,L,M,_,rfl,rfl⟩:=X;refine Uf fun R a=>Ul _ U7<|C4 1 [4,10,11,30,31,32] a Z<|Un (m':=l.length-(i+1)) om_ mup (hn_ [4,10,11,30,31,32] Z) ⟨i+1,H,I,J,K,L,M,om_,Z,Z,Z⟩
 have aa:i=l.length:=by
  have:=Ql Y;omega
 subst aa;refine Uf fun R a=>Uj ac U9<|Ue U6<|Um (j:=3) U12<|C4 1 [4,5] a Z ?_;rw [QI (show vs.length<=l.length by omega),Qv];refine G.freezeArr 1 (prC vs l) Z Z (FP _ _) (by rw [prC,dx (by simp [T]),al]) fun _ _ aG=>G.freezeArr 1 (frC l) Z Z (Ns _) (al _) fun _ _ aH=>Up (Vl af U5 ?_);exact ⟨Z,⟨_,_,_,Z,(AI (rows:=l.map SrcQ.r) (RowsOk.m_ Q) aG.m_),aB.mono mup,aH⟩⟩
structure Calm (B:Bk)(fs:List Rat)(RO:Nat->List RowQ):Prop where
 rich:Rich B fs RO
 n12:bs B*bp B<=12
 thI:∀ r∈bH B,RowI r
 roI:∀ i,i<B.obs.length->∀ r∈RO i,RowI r
 th:(bH B).length<=24
 ro:∀ i,i<B.obs.length->(RO i).length<=8
 ob:B.obs.length<=12
structure SetIn (n:Nat)(l:List Nat):Prop where
 lt:∀ i∈l,i<n
 nd:l.Nodup
def eX (B:Bk)(RO:Nat->List RowQ)(l:List Nat):List RowQ:=(bP (bH B) RO l).map SrcQ.r
def Ec (B:Bk)(RO:Nat->List RowQ)(l:List Nat):Prop:=(eJ (bs B*bp B) (kc (eX B RO l))).Hold
open Classical in
noncomputable def ii (B:Bk)(RO:Nat->List RowQ)(l:List Nat):Bool:=decide (Ec B RO l)
theorem nV :eX B RO l=bH B++l.flatMap RO:=by
 unfold eX bP kG;rw [QZ,Q8,List.map_flatMap];congr 1
 ·exact List.map_id _
 congr 1;funext i;rw [Q8];exact List.map_id _
theorem SetIn.len (h:SetIn n l):l.length<=n:=by
 have:=List.Nodup.length_le_of_subset (l₂:=List.range n) h.nd fun v a=>QE.2 (h.lt v a)
 rwa [Rf] at this
section
variable {B:Bk} {fs:List Rat} {RO:Nat->List RowQ} {l:List Nat}
theorem Kd {c:Nat}{f:Nat->List RowQ}:∀ {l:List Nat},(∀ i∈l,(f i).length<=c)->(l.flatMap f).length<=c*l.length
 | [],_=>Qm _
 | i::l,h=>by
  rw [List.flatMap_cons,Qp,QA,Nat.mul_succ];have h1:=h i PH;have h2:=Kd (l:=l) fun j a=>h j (Qt _ a);omega
theorem Calm.cnt (h:Calm B fs RO)(a:SetIn B.obs.length l):(eX B RO l).length<=120:=by
 rw [nV,Qp];have h1:=Kd (c:=8) (f:=RO) fun i b=>h.ro i (a.lt i b);have h2:=a.len;have h3:=h.ob;have h4:=h.th;omega
theorem Calm.rowI (h:Calm B fs RO)(a:SetIn B.obs.length l):∀ r∈eX B RO l,RowI r:=by
 intro r hr;rw [nV] at hr;rcases Qz.1 hr with hr | hr
 ·exact h.thI r hr
 obtain ⟨i,b,hr⟩:=List.mem_flatMap.1 hr;exact h.roI i (a.lt i b) r hr
theorem vJ {s p:Nat}{a:List Lay}:∀ n,∀ r∈bj s p a n,r.f.length=s*p
 | 0,r,hr=>by cases hr
 | n+1,r,hr=>by
  rcases Qz.1 hr with hr | hr
  ·exact vJ n r hr
  have:∀ k,∀ r∈bx s p (a.getD (n+1) ⟨[],0,none⟩) (n+1) k,r.f.length=s*p:=by
   intro k;induction k with
   | zero=>intro r hr;cases hr
   | succ k b =>
    intro r hr;rcases Qz.1 hr with hr | hr
    ·exact b r hr
    unfold ku at hr;rcases Qw.1 hr with rfl | hr
    ·exact jF _ _
    split at hr
    ·cases hr
    rw [QF.1 hr];exact jF _ _
  exact this p r hr
theorem Ob {D:Int}{q:Rat}(h:Wl D q)(a:D≠0)(b:D.natAbs<=999999999):QB 1 q:=by
 obtain ⟨z,h1,h2⟩:=h;exact pm a h1 om_ om_
theorem RowI.q {r:RowQ}(h:RowI r):(∀ x∈r.f,QB 1 x)/\QB 1 r.b:=by
 obtain ⟨D,h0,a,h1,h2⟩:=h;exact ⟨fun x c=>Ob (h1 x c) h0 a,Ob h2 h0 a⟩
theorem AH {a:List RowQ}{P:List Rat × Rat->Prop}(h:∀ r∈a,P (r.f,r.b)):∀ x∈kc a,P x:=fun x c=>by
 obtain ⟨r,hr,rfl⟩:=Qq.1 c;exact h r hr
theorem Calm.q22 (h:Calm B fs RO)(a:SetIn B.obs.length l):∀ r∈kc (eX B RO l),(∀ x∈r.1,QB 22 x)/\QB 22 r.2 :=
 AH (P:=fun r=>(∀ x∈r.1,QB 22 x)/\QB 22 r.2) fun r hr=>⟨fun x b=>((h.rowI a r hr).q.1 x b).le dc_,(h.rowI a r hr).q.2.le dc_⟩
theorem Calm.rowsQ (h:Calm B fs RO)(a:SetIn B.obs.length l):RowsQ (bs B*bp B) (kc (eX B RO l)):=by
 refine ⟨AH (P:=fun r=>r.1.length=bs B*bp B) fun r hr=>?_,fun r hr=>⟨fun x b=>((h.q22 a r hr).1 x b).le dc_,(h.q22 a r hr).2.le dc_⟩, ?_⟩
 ·rw [nV] at hr;rcases Qz.1 hr with hr | hr
  ·exact vJ _ r hr
  obtain ⟨i,c,hr⟩:=List.mem_flatMap.1 hr;exact (pg h.rich (a.lt i c)).2 r hr
 have:=h.cnt a;rw [kc,al];omega
theorem Calm.lim (h:Calm B fs RO)(a:SetIn B.obs.length l):Lp.Lim (eJ (bs B*bp B) (kc (eX B RO l))) (fun _=>0) 16:=JR h.n12 (h.rowI a)
theorem NN {n:Nat}(c:SetIn n l):chZ n (l.map fun i:Nat=>(i:Int))=0:=by
 refine kS fun i b=>?_;rw [al] at b;have f:l[i]?=some l[i]:=ak b;have g:(l.map fun i:Nat=>(i:Int)).getD i 0=(l[i]:Int):=by rw [ax,Qn,f];rfl
 have h1:=c.lt l[i] (Rh b);unfold rB;rw [g,aA om_,aA];intro hm;rw [<- Sd] at hm;obtain ⟨k,h,e⟩:=Qq.1 hm;have m:k=l[i]:=by omega
 subst m;obtain ⟨j,a⟩:=RH h;rw [Q0] at a;split at a
 ·rename_i o;have d:j<l.length:=by omega
  have p:=List.pairwise_iff_getElem.1 c.nd j i d b o;rw [ak d] at a;exact p (RS a)
 cases a
theorem Bt (l:List Nat):(l.map fun i:Nat=>(i:Int)).map Int.toNat=l:=by
 rw [Q8];have e:∀ i∈l,(Int.toNat ∘ fun i:Nat=>(i:Int)) i=id i:=fun i _=>R5 i;rw [List.map_congr_left e,List.map_id]
theorem nj (C:Mem)(g:Tabs C)(a b:Value)(j:BookIn C a B)(h:Calm B fs RO)(c:SetIn B.obs.length l)(k:Sl C 1 b (l.map aO)) :
  ∀ D:Mem,C.le D->Pur cx.P 52 [a,b] D fun u E=>∃ v,u=.tuple #[v,.int .i64 0]/\xH E v (bP (bH B) RO l):=fun D d=>by
 have m:=NN c;have e:=h.cnt c;have n:l.length<=12:=QG c.len h.ob;have f:=DZ D (g.mono d) a b B fs RO (l.map fun i:Nat=>(i:Int)) (j.mono d) h.rich (by rw [Q8];exact k.mono d) (by rw [al];omega) (fun _=>by
  rw [Bt];unfold eX at e;rw [al] at e;omega)
 rw [m,aV rfl,Bt] at f;exact f
end
theorem BE (C:Mem)(k:Tabs C)(e f:Value)(B:Bk)(H:List Rat)(a:Nat->List RowQ)(l:List Nat)(g:BookIn C e B)(h:Calm B H a)(b:SetIn B.obs.length l)(I:Sl C 1 f (l.map aO)) :
  Gives cx.P 47 [e,f] C (.tuple #[.bool (ii B a l),.int .i64 0]):=by
 have ab:=g;have J:=h.rich.bookz k g;have u:=h.cnt b;have v:=fun (D:Mem)(i:C.le D)=>De D e f B (bP (bH B) a l) (J.mono i) (by have:=h.n12;omega) (by unfold eX at u;rw [al] at u;omega) (nj D (k.mono i) e f (g.mono i) h b (I.mono i));obtain ⟨n,w⟩:∃ n,bs B*bp B=n:=⟨_,rfl⟩;have K:=h.n12;have m:=h.rowsQ b;have y:=h.q22 b;have o:=h.lim b;obtain ⟨rows,p⟩:∃ rows,eX B a l=rows:=⟨_,rfl⟩;have L:ii B a l=@decide (eJ n (kc rows)).Hold (Classical.propDecidable _):=by
  unfold ii Ec;rw [w,p]
 have M:(bP (bH B) a l).map SrcQ.r=rows:=p;rw [w] at v m o K;rw [p] at m y o;obtain ⟨v1,v2,tv,cv,ov,rfl,_⟩:=id g.ex;have ac:maxLen<=9223372036854775807:=by simp [maxLen]
 refine Uk func47 27 U3 fun w0=>Uf fun R d=>Uw U6 fun b2=>C4 2 [1,2] d Z<|G.freeze 0 Z fun _ _ N=>Uf fun R d=>Uc (bkT N 5) U8<|Ue U6<|UM (v _ mup) U7 (fun ad _ _ O=>?_);obtain ⟨rv,ae,fv,rfl,q,z,af⟩:=O.ex;rw [M] at q;obtain ⟨_,_,_,Q⟩:=id q;obtain ⟨Ar,cr,rfl,_⟩:=id Q;obtain ⟨Ao,co,rfl,_⟩:=id z;refine Uh 3 Z<|Uv U5 fun b6=>Um (j:=0) U12<|C4 1 [6] d Z<|G.freeze 0 Z fun _ _ S=>Uf fun R d=>Uc (bkT S 3) U8<|UG (Bg _ k.m_ n _ _ (kc rows) (List.replicate n 0) q.m_ z.m_ m (fun x T=>by rw [(List.mem_replicate.1 T).2];exact QB_zero.le dc_) y om_ am o) U7 fl_ (fun U _ _ V=>?_);have W:∃ (s:Value)(E:Option Addr)(nd F:Nat)(t:Bool),U=.tuple #[s,.agg ⟨[.slice E nd F]⟩,.bool t,.int .i64 0]/\ii B a l=t:=by
  rw [L];cases V with
  | yes pt s X _ _=>exact ⟨_,_,_,_,true,rfl,@QC _ (Classical.propDecidable _) X⟩
  | no du vd Y h1 =>
   obtain ⟨A,c,rfl,_⟩:=id h1;exact ⟨_,_,_,_,false,Z,@QJ _ (Classical.propDecidable _) Y.not⟩
 obtain ⟨s,E,nd,F,t,rfl,aa⟩:=W;refine Uh 5 Z<|Uv U5 fun b9=>Ue U6<|Um (j:=0) U12<|C4 2 [10,11] d Z<|Ua 4 [4,5] Z<|Up (G.dropAll (UD U3 ?_));exact ⟨by rw [aa],Z⟩
structure AscIn (n:Nat)(l:List Nat):Prop where
 lt:∀ i∈l,i<n
 up:l.Pairwise (·<·)
theorem AscIn.set (h:AscIn n l):SetIn n l:=⟨h.lt,h.up.imp fun h=>Nat.ne_of_lt h⟩
theorem KR (h:AscIn n l):N3 n (l.map fun i:Nat=>(i:Int))=0:=by
 refine kS fun i a=>?_;rw [al] at a;have b:∀ j (c:j<l.length),(l.map fun i:Nat=>(i:Int)).getD j 0=(l[j]:Int):=fun j c=>by
  rw [ax,Qn,ak c];rfl
 have h1:=h.lt l[i] (Rh a);unfold my;rw [b i a,aA om_,aA];rintro ⟨h0,h2⟩;rw [b (i-1) om_] at h2;have:=List.pairwise_iff_getElem.1 h.up (i-1) i om_ a om_;omega
section
variable {B:Bk} {fs:List Rat} {RO:Nat->List RowQ} {l:List Nat}
theorem xv (C:Mem)(d:Tabs C)(a b:Value)(e:BookIn C a B)(h:Calm B fs RO)(c:AscIn B.obs.length l)(f:Sl C 1 b (l.map aO)):Gives cx.P 49 [a,b] C (.int .i64 0):=by
 have j:=h.rich.bookz d e;have k:=KR c;have g:=KF C a b B 0 (l.map fun i:Nat=>(i:Int)) j (by have:=h.n12;omega) (by rw [Q8];exact f) (by rw [al];have:=c.set.len;have:=h.ob;omega) (fun _ _ D m=>Fn.mono (nj C d a b e h c.set f D m) fun u C' n _ ⟨h1,v,h2,_⟩=>⟨h1,v,h2⟩);rw [k,aA (fun h=>h rfl)] at g;exact g
end
theorem Cl (C:Mem)(c:Tabs C)(d e:Value)(B:Bk)(f:List Rat)(b:Nat->List RowQ)(l:List Nat)(g:BookIn C d B)(h:Calm B f b)(i:AscIn B.obs.length l)(j:Sl C 1 e (l.map aO)) :
  Gives cx.P 25 [d,e] C (.tuple #[.bool (ii B b l),.int .i64 0]):=by
 have k:=g;obtain ⟨o,p,q,r,s,rfl,_⟩:=id g.ex;refine Uk func25 18 U3 fun w0=>Uf fun R a=>Uw U6 fun t=>C4 2 [1,2] a Z<|G.freeze 0 Z fun _ _ m=>Uf fun R a=>Uc (bkT m 5) U8<|Ue U6<|Uo (xv _ c.m_ _ _ k.m_ h i j.m_) U7<|C4 1 [1,2,6] a Z<|Ua 2 [1,2,6,11] Z<|Ud (fun n=>?_) fun n=>?_
 ·exact absurd n dc_
 refine Uf fun R a=>Uc (bkT m 5) U8<|Ue U6<|Uo (BE _ c.m_ _ _ B f b l k.m_ h i.set j.m_) U7<|C4 4 [4,5] a Z<|Up (G.dropAll (UD U3 ?_));exact ⟨Z,Z⟩
def xK (h:Nat->Bool)(km:List (Nat × Value)):Prop:=∀ s v,dp km s=some v->v=.bool (h s)
theorem wR (h:Nat->Bool):xK h []:=fun s v e=>by cases e
theorem GP (b:xK h km):xK h (fR km s (.bool (h s))):=fun t v e=>by
 by_cases a:s=t
 ·subst a;rw [kB] at e;exact (RS e).symm
 rw [je a] at e;exact b t v e
theorem Dw (a:xK h km)(s:Nat):∃ x f:Bool,kO (.bool false) true (dp km s)=.tuple #[.bool x,.bool f]/\(f=true->x=h s):=by
 cases e:dp km s with
 | none=>exact ⟨false,false,rfl,fun h=>by cases h⟩
 | some v=>exact ⟨h s,true,by rw [a s v e];rfl,fun _=>rfl⟩
theorem Ce:∀ n<6,∀ s<2 ^ n,(∀ i∈aZ s,i<n)/\(aZ s).Pairwise (·<·):=by decide +kernel
theorem HT (a:n<6)(b:s<2 ^ n):AscIn n (aZ s):=⟨(Ce n a s b).1,(Ce n a s b).2⟩
structure SrchIn (C:Mem)(B:Bk)(b0 bm:Nat):Prop where
 ex:∃ v1 v2 tv cv ov,C b0=some (.cells ⟨[v1,v2,tv,cv,ov,.map (some bm)]⟩ 153 (0,0))/\BookIn C (.agg ⟨[v1,v2,tv,cv,ov]⟩) B
theorem SrchIn.mono {C D:Mem}{B:Bk}{a b:Nat}(h:SrchIn C B a b)(c:C.le D):SrchIn D B a b:=by
 obtain ⟨d,e,f,g,i,h1,h2⟩:=h.ex;exact ⟨d,e,f,g,i,c _ _ h1,h2.mono c⟩
theorem SrchIn.m_ {D:Mem}{a b:Nat}(h:SrchIn C B a b)(c:C.le D:=by exact mup):SrchIn D B a b:=SrchIn.mono h c
noncomputable def hS (B:Bk)(RO:Nat->List RowQ)(s:Nat):Bool:=ii B RO (aZ s)
theorem vU (C:Mem)(k:Tabs C)(B:Bk)(l:List Rat)(b:Nat->List RowQ)(m c s:Nat)(d:List (Nat × Value))(t:SrchIn C B m c)(h:Calm B l b)(n:B.obs.length<6)(v:s<2 ^ B.obs.length)(e:xK (hS B b) d) :
  Jog.Fn cx.P 40 [.pointer (some ⟨m,0,none⟩),.int .u64 s] C [.obj c (aQ keyU.enc d)] fun u _ o=>u=.tuple #[.bool (hS B b s),.int .i64 0]/\∃ p,xK (hS B b) p/\o=[.obj c (aQ keyU.enc p)]:=by
 obtain ⟨F,G,H,I,J,g,w⟩:=t.ex;obtain ⟨x,f,y,z⟩:=Dw e s;have i:=wt n;refine Uk func40 41 U3 fun w0=>Ut (L':=[.obj c (aQ keyU.enc d)]) Z<|Ua 2 [0,1] Z<|Ub 3 Z fun R a=>Uc (bkT g 1) U8<|Ue U6<|Vx keyU af Z Z Z Z Z Z Z Z kr_ Z y Z Z<|C4 5 [0,1,6,7] a Z<|Ua 1 [0,1,6,19] Z<|Ud (fun q=>?_) fun q=>?_
 ·have A:f=true:=q;refine Ua 3 [4,5] Z<|Up (UD U3 ?_);exact ⟨by rw [z A],d,e,Z⟩
 refine Uy [0,1,2,3,4,5,6,7,8,9,10,11] [(6,1),(3,0)] Z kr_ fun R r a=>Uh 3 Z<|Vg (fun _=>((bkT g 5).mono r)) U9<|Ue U6<|UG (oc _ k.m_ s om_) U7 fl_ fun K _ _ E=>UJ (fun _=>(BE _ k.m_ _ _ B l b (aZ s) w.m_ h (HT n v).set E.m_)) U9<|Uh 5 Z<|Ug [0,1,8,9] a Z ?_;clear a r R;refine Ua 2 [0,1,8,9,32] Z<|Ud (fun i=>?_) fun i=>?_
 ·refine Ub 3 Z fun R a=>Uc (bkT g 1) U8<|Uh 2 Z<|D.mapUpdate keyU (j:=0) Z Z Z Z Z Z Z Z Z Z kr_<|Ug [8,9] a Z<|Ua 4 [4,5] Z<|Up (UD U3 ?_);exact ⟨Z,_,GP e,Z⟩
 exact absurd i dc_
def Ep (i n:Nat):List Nat:=(List.range n).map fun q=>if q<i then q else 0
theorem zU :(Ep i n).length=n:=by simp [Ep]
theorem EL :kp [.int .i64 0] n=((Ep 0 n).map aO).flatten:=by
 rw [eg];congr 1;unfold Ep;rw [Q8];refine (List.eq_replicate_iff.2 ⟨by simp,fun x a=>?_⟩).symm;obtain ⟨q,_,rfl⟩:=Qq.1 a;rfl
theorem Iu :(Ep i n).set i i=Ep (i+1) n:=by
 refine List.ext_getElem? fun j=>?_;unfold Ep;rw [List.getElem?_set,Qn,Qn,al,Rf];by_cases a:j<n
 ·rw [QY a];by_cases e:i=j
  ·subst e;simp [a]
  have:(j<i+1) ↔ j<i:=by omega
  simp [e,this]
 rw [Qr (show (List.range n).length<=j by simp;omega)];simp;omega
theorem EM :Ep n n=List.range n:=by
 unfold Ep;have e:∀ q∈List.range n,(if q<n then q else 0)=id q:=fun q a=>aV (QE.1 a);rw [List.map_congr_left e,List.map_id]
theorem FC (n:Nat):AscIn n (List.range n):=⟨fun _b a=>QE.1 a,List.pairwise_lt_range⟩
theorem xf:∀ i,(aO i).length=1:=fun _=>rfl
theorem mb (l:List Nat):∀ r∈l.map aO,r.length=1:=fun r hr=>by
 obtain ⟨x,_,rfl⟩:=Qq.1 hr;rfl
theorem E5 (C:Mem)(w:Tabs C)(p:Value)(B:Bk)(x:List Rat)(y:Nat->List RowQ)(q:BookIn C p B)(h:Calm B x y) :
  Jog.Fn cx.P 37 [p] C [] fun u D b=>(10<B.obs.length/\u=.tuple #[.pointer none,.int .i64 4]/\b=[])∨(B.obs.length<=10/\∃ r s,u=.tuple #[.pointer (some ⟨r,0,none⟩),.int .i64 0]/\SrchIn D B r s/\b=[.obj s (aQ keyU.enc [])]):=by
 have z:=h.ob;have d:=q;obtain ⟨W,X,Y,cv,ov,rfl,h1,h2,h3,h4,h5⟩:=id q.ex;obtain ⟨A,E,rfl,_⟩:=id h1;obtain ⟨A2,c2,rfl,_⟩:=id h2;obtain ⟨F,H,rfl,_⟩:=id h3;obtain ⟨I,J,rfl,_⟩:=id h4;obtain ⟨K,L,rfl,M,aa,_⟩:=id h5;obtain ⟨n,e⟩:∃ n,B.obs.length=n:=⟨_,rfl⟩;have ab:maxLen<=9223372036854775807:=by simp [maxLen]
 rw [e] at z;simp only [al,e] at h5 M d ⊢;refine Uk func37 34 U3 fun w0=>Uf fun R a=>Uw U6 fun N=>C4 2 [1] a Z<|G.freeze 0 Z fun _ _ f=>Ub 1 Z fun R a=>Uc (bkT f 1) U8<|Ue U6<|Vc U9 (Qi _) (by show 8*n<=_;omega) (by simp only [maxLen];omega) fl_ fun c=>C4 1 [1,4] a Z<|Ua 3 [1,4,12,13] Z<|Ut (L':=[.arr (.slice (some ⟨c,0,none⟩) n n) 3 1 n ((Ep 0 n).map aO).flatten]) (by rw [<- EL];rfl)<|G.loop (fun fr C' b O=>∃ (i:Nat),(i<=n)/\fr=[(1,[],.pointer (some ⟨N,0,none⟩)),(4,[],.slice (some ⟨c,0,none⟩) n n),(12,[],.int .i64 n),(13,[],.int .i64 i)]/\b=[.arr (.slice (some ⟨c,0,none⟩) n n) 3 1 n ((Ep i n).map aO).flatten]/\O=n-i) (hn_ [1,4,12,13] Z) ⟨0,Qm _,Z,Z,Z⟩ (fun fr ac ad m Q S=>?_);obtain ⟨i,hi,rfl,rfl,rfl⟩:=S;refine Ua 1 [1,4,12,13,14] Z<|Ud (fun g=>?_) fun g=>?_
 ·have k:i<n:=by
   have:=aK g;omega
  refine Ua 2 [1,4,5,12,13] Z<|Ub 3 Z fun R a=>UI (i*1) U10 ai U2<|UL (j:=0) U11 (by show i*1+1<=_;rw [bR xf,zU];omega)<|Ug [1,4,12,13] a Z<|Uf fun R a=>Ul _ U7<|C4 1 [1,4,12,13] a Z<|Ut (L':=[.arr (.slice (some ⟨c,0,none⟩) n n) 3 1 n ((Ep (i+1) n).map aO).flatten]) (by rw [<- Iu,<- bN xf _ (by rw [zU];exact k)];rfl)<|Un (m':=n-(i+1)) om_ Q (hn_ [1,4,12,13] Z) ⟨i+1,om_,Z,Z,Z⟩
 have k:i=n:=by
  have:=Ql g;omega
 subst k;rw [EM];refine G.freezeArr 0 ((List.range i).map aO) Z Z (mb _) am fun _ _ T=>Uf fun R a=>Uc (bkT f 5) U8<|Ue U6<|Uo (xv _ w.m_ _ _ d.m_ h (e ▸ FC i) T.m_) U7<|C4 1 [1,4,6] a Z<|Ua 2 [1,4,6,25] Z<|Ud (fun t=>?_) fun t=>?_
 ·exact absurd t dc_
 refine Ua 3 [1,29] Z<|Ud (fun l=>?_) fun l=>?_
 ·have o:10<i:=by
   have:=aK l;omega
  refine Ua 2 [2,3] Z<|Up (G.dropAll (UD U3 ?_));exact .inl ⟨o,Z,Z⟩
 have o:i<=10:=by
  have:=Ql l;omega
 refine Uf fun R a=>Uc (bkT f 5) U8<|D.makeMap keyU Z Z Z Z fl_ fun v=>Uu [.slice A B.pts.length E,.slice A2 B.tris.length c2,.slice F B.terr.length H,.slice I B.col.length J,.slice K i L,.map (some v)] U8<|Uw U6 fun U=>C4 2 [2,3] a Z<|G.freeze 0 Z fun _ _ V=>Up (UD U3 ?_);exact .inr ⟨o,U,v,Z,⟨_,_,_,_,_,V,d.mono mup⟩,Z⟩
theorem tJ (C:Mem)(f:Tabs C)(a:Value)(B:Bk)(b:List Rat)(c:Nat->List RowQ)(g:BookIn C a B)(h:Calm B b c)(j:B.obs.length<=10) :
  Jog.Fn cx.P 37 [a] C [] fun u D i=>∃ d e,u=.tuple #[.pointer (some ⟨d,0,none⟩),.int .i64 0]/\SrchIn D B d e/\i=[.obj e (aQ keyU.enc [])] :=
 Fn.mono (E5 C f a B b c g h) fun _ _ _ _ h=>h.elim (fun h=>absurd h.1 om_) (·.2)
def OutL (C:Mem)(vs:List Value)(outs:List (List Nat)):Prop:=vs.length=outs.length/\∀ (j:Nat)(v:Value)(o:List Nat),vs[j]?=some v->outs[j]?=some o->Sl C 1 v (o.map aO)
def OutsIn (C:Mem)(v:Value)(outs:List (List Nat)):Prop:=∃ vs,OutL C vs outs/\Sl C 1 v (vs.map fun x=>[x])
theorem OutL.mono {C D:Mem}{a:List Value}{b:List (List Nat)}(h:OutL C a b)(c:C.le D):OutL D a b:=⟨h.1,fun j v o h1 h2=>(h.2 j v o h1 h2).mono c⟩
theorem OutL.m_ {D:Mem}(h:OutL C vs outs)(a:C.le D:=by exact mup):OutL D vs outs:=OutL.mono h a
theorem OutsIn.mono {C D:Mem}{v:Value}{a:List (List Nat)}(h:OutsIn C v a)(b:C.le D):OutsIn D v a:=by
 obtain ⟨vs,h1,h2⟩:=h;exact ⟨vs,h1.mono b,h2.mono b⟩
theorem OutsIn.m_ {D:Mem}{v:Value}(h:OutsIn C v outs)(a:C.le D:=by exact mup):OutsIn D v outs:=OutsIn.mono h a
theorem OutL.nil (C:Mem):OutL C [] []:=⟨rfl,fun j v o h _=>by simp at h⟩
theorem OutL.snoc {v:Value}{o:List Nat}(h:OutL C vs outs)(b:Sl C 1 v (o.map aO)):OutL C (vs++[v]) (outs++[o]):=by
 refine ⟨by simp [h.1],fun j w q h1 h2=>?_⟩;rcases Nat.lt_trichotomy j vs.length with a | a | a
 ·rw [Ra a] at h1;rw [Ra (by rw [<- h.1];exact a)] at h2;exact h.2 j w q h1 h2
 ·subst a;rw [QQ (Qi _),SN] at h1;rw [h.1,QQ (Qi _),SN] at h2;cases h1
  cases h2
  exact b
 rw [Qr ap] at h1;cases h1
theorem lk (a:List Value):a=(a.map fun x=>[x]).flatten:=by
 induction a with
 | nil=>rfl
 | cons v a b=>rw [QX,RU,<- b];rfl
theorem lj (a:List Value):∀ r∈a.map (fun x=>[x]),r.length=1:=fun r hr=>by
 obtain ⟨x,_,rfl⟩:=Qq.1 hr;rfl
theorem qq (l:List Nat):∀ r∈l.map ck,r.length=1:=fun r hr=>by
 obtain ⟨x,_,rfl⟩:=Qq.1 hr;rfl
theorem Kz:∀ n<6,∀ s<2 ^ n,KT (2 ^ n-1) s<2 ^ n:=by decide +kernel
noncomputable def hC (B:Bk)(RO:Nat->List RowQ)(s:Nat):Bool:=hS B RO (KT (2 ^ B.obs.length-1) s)
theorem AD (C:Mem)(d:Tabs C)(B:Bk)(a f:Nat)(g:SrchIn C B a f)(h:B.obs.length<6) :
  Jog.Fn cx.P 38 [.pointer (some ⟨a,0,none⟩)] C [] fun u _ i=>∃ A n2 c,u=.slice A n2 c/\i=[.arr u 99 1 (2 ^ B.obs.length) (((bQ B.obs.length).map ck).flatten)]:=by
 obtain ⟨j,k,l,m,o,b,n⟩:=g.ex;obtain ⟨_,_,_,_,_,e,_,_,_,_,h5⟩:=n.ex;cases e
 obtain ⟨A,c,rfl,_⟩:=id h5;rw [al] at b;rw [<- Md];exact Ms C d a B.obs.length j k l m _ A c b h
theorem Eb (C:Mem)(w:Tabs C)(T:Value)(B:Bk)(J:List Rat)(b:Nat->List RowQ)(U:BookIn C T B)(h:Calm B J b)(f:B.obs.length<6) :
  Pur cx.P 13 [T] C fun u D=>∃ v,u=.tuple #[v,.int .i64 0]/\OutsIn D v ((yo (hC B b) (bQ B.obs.length)).map aZ):=by
 have V:=U;obtain ⟨v1,v2,tv,cv,ov,rfl,_,_,_,_,h5⟩:=id U.ex;obtain ⟨A5,c5,rfl,ao,aC,_⟩:=id h5;obtain ⟨n,k⟩:∃ n,B.obs.length=n:=⟨_,rfl⟩;have aD:maxLen<=9223372036854775807:=by simp [maxLen]
 have ap:=fun (D:Mem)(hD:C.le D)(g c s:Nat)(km:List (Nat × Value))(y:SrchIn D B g c)(hs:s<2 ^ n)=>vU D (w.mono hD) B J b g c s km y h f (k ▸ hs);have W:∀ s,hC B b s=hS B b (KT (2 ^ n-1) s):=fun s=>by unfold hC;rw [k]
 rw [k] at f;have aE:=wt f;simp only [al,k] at h5 ao V ⊢;have K:=iS n;obtain ⟨F,d⟩:∃ F:Nat->List Nat,∀ i,F i=((bQ n).take i).foldl (pj (hC B b)) []:=⟨_,fun _=>rfl⟩;have X:F 0=[]:=by rw [d,List.take_zero];rfl
 have A:∀ {i s},(bQ n)[i]?=some s->F (i+1)=pj (hC B b) (F i) s:=fun {i s} hs=>by rw [d,d,qj hs]
 have aq:∀ i,i<=2 ^ n->(F i).length<=32:=fun i hi=>by
  rw [d];have h1:=AN (h:=hC B b) ((bQ n).take i) [];rw [Qx] at h1;simp only [Qy] at h1;omega
 refine Uk func13 69 U3 fun w0=>Uf fun R a=>Uw U6 fun b1=>C4 2 [1] a Z<|G.freeze 0 Z fun _ _ Y=>UC [(1,3)] Z fun R a=>Uc (bkT Y 5) U8<|D.call (tJ _ w.m_ _ B J b V.m_ h om_) Z (.inr dc_) U6 (Qo _) fl_ (fun aF _ aG _ ar=>?_);obtain ⟨g,c,rfl,y,rfl⟩:=ar;refine C4 5 [1,4,5] a Z<|Ua 2 [1,4,5,19] Z<|Ud (fun aa=>?_) fun aa=>?_
 ·exact absurd aa dc_
 refine Ub 1 Z fun R a=>Uc (bkT Y 1) U8<|Ue U6<|VL (n) Z Z Z Z Z Z (by first | exact .inl Z | exact .inr Z) Z om_ Z Z<|D.int (((2 ^ n-1:Nat):Int)) U4 (by rw [show (((2 ^ n:Nat):Int)-1)=((2 ^ n-1:Nat):Int) by have:=Nat.one_le_two_pow (n:=n);omega];exact tB om_) U2<|C4 1 [4,6] a Z<|Ua 1 [4,6,7] Z<|Ua 1 [4,6,7,8] Z<|UC [(1,3)] Z fun R a=>Ue U6<|D.call (AD _ w.m_ B g c y.m_ om_) Z (.inr dc_) U6 (Qo _) fl_ (fun aH _ aI _ au=>?_);obtain ⟨As,ns,cs,rfl,rfl⟩:=au;rw [k];refine C4 2 [4,6,7,8,27,28,29] a Z<|G.freezeArr 0 ((bQ n).map ck) Z Z (qq _) (by rw [al,K]) (fun _ _ ab=>?_);obtain ⟨_,_,ac,_⟩:=id ab;rw [al,K] at ac;cases ac
 refine G.nilArr 50 1<|G.loop (fun fr C' L μ=>∃ (i:Nat)(z:Int)(km:List (Nat × Value))(vs:List Value)(l:Option Addr)(n1 o:Nat),(i<=2 ^ n/\xK (hS B b) km/\OutL C' vs ((F i).map aZ)/\xI (F i) z)/\fr=[(4,[],.pointer (some ⟨g,0,none⟩)),(6,[],.int .u64 ((2 ^ n-1:Nat):Int)),(7,[],.slice l n1 o),(8,[],.int .i64 z),(27,[],.slice As (2 ^ n) cs),(28,[],.int .i64 ((2 ^ n:Nat):Int)),(29,[],.int .i64 i)]/\L=[.arr (.slice l n1 o) 50 1 vs.length vs,.obj c (aQ keyU.enc km)]/\μ=2 ^ n-i) (hn_ [4,6,7,8,27,28,29] Z) ⟨0, -1,[],[],none,0,0,⟨Qm _,wR _,by rw [X];exact OutL.nil _,.inl ⟨X,Z⟩⟩,Z,Z,Z⟩ (fun fr aL aM m _ hI=>?_);obtain ⟨i,z,km,vs,l,n1,o,⟨hi,av,p,q⟩,rfl,rfl,rfl⟩:=hI;refine Ua 1 [4,6,7,8,27,28,29,30] Z<|Ud (fun M=>?_) fun M=>?_
 ·have ad:i<2 ^ n:=by
   have:=aK M;omega
  obtain ⟨s,hs⟩:∃ s,(bQ n)[i]?=some s:=⟨(bQ n)[i]'om_,ak om_⟩;have ax:s<2 ^ n:=fo (Qj hs);have N:s<32:=by omega
  have aN:vs.length=(F i).length:=by rw [p.1,al]
  have aP:=aq i om_;refine Uf fun R a=>Ur ab.m_ U10 om_ (gd hs) fl_ fun aR ay=>Uc ay U8<|C4 1 [4,6,7,8,10,27,28,29] a Z<|Ub 4 Z fun R a=>UJ (fun _=>(ug _ s N)) U9<|Uh 2 Z<|UB U8<|Ug [4,6,7,8,10,27,28,29,40] a Z<|Ud (fun O=>?_) fun O=>?_
  ·have r:0<=z/\z<(iE s:Int):=by
    simp only [Qu,Qs] at O;omega
   refine Ua 3 [2,3] Z<|G.freezeArr 0 (vs.map fun x=>[x]) Z (lk vs) (lj vs) (al _) fun C8 _ Q=>Up (G.dropAll (UD U3 ?_));refine ⟨Z,_,Z,vs, ?_,Q⟩;rw [Fv f hs (by rw [<- d];exact q) r,<- d];exact p.mono mup
  have r:¬ (0<=z/\z<(iE s:Int)):=by
   simp only [S8,QH] at O;omega
  refine UC [(4,3)] Z fun R a=>Uh 3 Z<|Wt (2 ^ n-1) (s) Z Z Z Z Z Z Z Z om_ om_ Z Z<|D.call (ap _ mup g c (KT (2 ^ n-1) s) km y.m_ (Kz n f s ax) av) Z (.inr dc_) U6 (List.Perm.swap _ _ _) fl_ (fun aS _ aT _ az=>?_);obtain ⟨rfl,E,af,rfl⟩:=az;refine C4 5 [4,6,7,8,10,11,12,27,28,29] a Z<|Ua 3 [4,6,7,8,10,11,12,27,28,29,49] Z<|Ud (fun ag=>?_) fun ag=>?_
  ·exact absurd ag dc_
  refine Ua 3 [4,6,7,8,10,27,28,29,53] Z<|Ud (fun S=>?_) fun S=>?_
  ·have t:hC B b s=false:=by rw [W];simpa using S
   refine Uf fun R a=>Ul _ U7<|C4 1 [4,6,7,8,27,28,29] a Z<|G.perm (L':=[.arr (.slice l n1 o) 50 1 vs.length vs,.obj c (aQ keyU.enc E)]) (List.Perm.swap _ _ _)<|Un (m':=2 ^ n-(i+1)) om_ mup (hn_ [4,6,7,8,27,28,29] Z) ⟨i+1,z,E,vs,l,n1,o,⟨by omega,af,by rw [A hs,wi t];exact p.mono mup,by rw [A hs,wi t];exact q⟩,Z,Z,Z⟩
  have t:hC B b s=true:=by rw [W];simpa using S
  refine VV ae (fun _ _ aA _=>?_);cases aA
  refine Ua 4 [4,6,7,10,27,28,29,56] Z<|Ud (fun ah=>?_) fun ah=>?_
  ·exact absurd (by simpa using ah) (show ¬ ((vs.length:Int)=200) by omega)
  refine Ub 1 Z fun R a=>Uo (ug _ s N) U7<|C4 1 [4,6,7,8,10,27,28,29] a Z<|Ub 2 Z fun R a=>UM (oc _ w.m_ s N) U7 (fun aU _ _ ai=>?_);obtain ⟨H,I,rfl,_⟩:=id ai;refine Ux [[.slice H ((aZ s).map aO).length I]] U12 fun aV _ _ aB=>UF (j:=1) U11 aB Z aw (by show (vs.length+1)*24<=_;omega) fl_ fun aj am an=>C4 1 [4,6,7,8,27,28,29] a Z<|Uf fun R a=>Ul _ U7<|C4 1 [4,6,7,8,27,28,29] a Z<|Ut (L':=[.arr (.slice aj am an) 50 1 (vs++[Value.slice H ((aZ s).map aO).length I]).length (vs++[Value.slice H ((aZ s).map aO).length I]),.obj c (aQ keyU.enc E)]) (by rw [Qp];rfl)<|Un (m':=2 ^ n-(i+1)) om_ mup (hn_ [4,6,7,8,27,28,29] Z) ⟨i+1,iE s,E,vs++[Value.slice H ((aZ s).map aO).length I],aj,am,an,⟨by omega,af,by rw [A hs,AO q r t,QZ];exact p.m_.snoc ai.m_,by rw [A hs,AO q r t];exact CQ q (by rw [d];exact OJ f hs) r⟩,Z,Z,Z⟩
 have ad:i=2 ^ n:=by
  have:=Ql M;omega
 refine Ua 3 [2,3] Z<|G.freezeArr 0 (vs.map fun x=>[x]) Z (lk vs) (lj vs) (al _) fun C8 _ Q=>Up (G.dropAll (UD U3 ?_));refine ⟨Z,_,Z,vs, ?_,Q⟩;have e:yo (hC B b) (bQ n)=F i:=by rw [d,ad,<- K,Qv];rfl
 rw [e];exact p.mono mup
theorem EP (C:Mem)(v:Value)(l:List Nat)(g:Nat)(d:List Value)(a:Nat->Bool)(e:Sl C 1 v (l.map ck))(_A:Jog.Enters cx.P g=true)
  (n:∀ x∈l,∀ D:Mem,C.le D->Gives cx.P g (.int .u64 (x:Nat)::d) D (.bool (a x))) :
  Gives cx.P 124 [v,.func (.func g) #[] ⟨d⟩] C (.int .i64 (Ih a l 0)):=by
 obtain ⟨o,c0,rfl,p,B,_⟩:=id e;have E:maxLen<=9223372036854775807:=by simp [maxLen]
 simp only [al] at e p ⊢;refine Uk func124 19 U3 fun w0=>Ua 1 [0,1] Z<|Ua 3 [0,1,7,8] Z<|G.loop (fun fr C' q r=>∃ (i:Nat),(i<=l.length/\∀ y∈l.take i,a y=false)/\fr=[(0,[],.slice o l.length c0),(1,[],.func (.func g) #[] ⟨d⟩),(7,[],.int .i64 l.length),(8,[],.int .i64 i)]/\q=[]/\r=l.length-i) (hn_ [0,1,7,8] Z) ⟨0,⟨Qm _,by simp⟩,Z,Z,Z⟩ (fun fr F H m s t=>?_);obtain ⟨i,⟨I,b⟩,rfl,rfl,rfl⟩:=t;refine Ua 1 [0,1,7,8,9] Z<|Ud (fun f=>?_) fun f=>?_
 ·have h:i<l.length:=by simpa using f
  obtain ⟨x,c⟩:∃ x,l[i]?=some x:=⟨l[i],ak h⟩;refine Ua 2 [0,1,5,7,8] Z<|Ub 3 Z fun R j=>Ur e.m_ U10 om_ (gd c) fl_ fun J u=>Uc u U8<|Uo (n x (Qj c) _ mup) U7<|Ug [0,1,5,7,8,16] j Z<|Ud (fun k=>?_) fun k=>?_
  ·have w:a x=true:=k;exact Ua 2 [4] Z<|Ui U2<|⟨by rw [nY c w b,RG],Z⟩
  have z:a x=false:=k;refine Uf fun R j=>Ul _ U7<|C4 1 [0,1,7,8] j Z<|Un (m':=l.length-(i+1)) om_ s (hn_ [0,1,7,8] Z) ⟨i+1,⟨by omega,fun y hy=>by
   rw [QO,c] at hy;rcases Qz.1 hy with hy | hy
   ·exact b y hy
   simp only [RD,QF] at hy;subst hy;exact z⟩,Z,Z,Z⟩
 have h:i=l.length:=by
  have:¬ i<l.length:=by simpa using f
  omega
 exact Ua 1 [4] Z<|Ui U2<|⟨by rw [h,Qv] at b;rw [lI b],Z⟩
theorem Mc (C:Mem)(v:Value)(l:List Nat)(g:Nat)(b:List Value)(a:Nat->Bool)(c:Sl C 1 v (l.map ck))(d:Jog.Enters cx.P g=true)
  (e:∀ x∈l,∀ D:Mem,C.le D->Gives cx.P g (.int .u64 (x:Nat)::b) D (.bool (a x))) :
  Gives cx.P 80 [v,.func (.func g) #[] ⟨b⟩] C (.bool (l.any a)):=by
 refine Uk func80 9 U3 fun w0=>Ua 1 [0,1] Z<|Ub 2 Z fun R f=>Uo (EP _ v l g b a c.m_ d (fun x h D j=>e x h D (Mem.le.trans mup j))) U7<|C4 2 [4] f Z<|Ui U2<|⟨?_,Z⟩;congr 1;rcases rV a l with ⟨h1,h2⟩ | ⟨i,x,h1,h2,h3,_⟩
 ·rw [h1,List.any_eq_false.2 (fun y hy=>by rw [h2 y hy];decide)];rfl
 rw [h1,SG.2 ⟨x,Qj h2,h3⟩];exact QC om_
theorem Iy (C:Mem)(v:Value)(l:List Nat)(g:Nat)(c:List Value)(b:Nat->Bool)(d:Jog.Enters cx.P g=true)(e:∀ x∈l,∀ D:Mem,C.le D->Gives cx.P g (.int .u64 (x:Nat)::c) D (.bool (b x))) :
  Jog.Fn cx.P 80 [v,.func (.func g) #[] ⟨c⟩] C [.arr v 99 1 l.length (l.map ck).flatten] fun u _ a=>u=.bool (l.any b)/\a=[.arr v 99 1 l.length (l.map ck).flatten] :=
 Fn.mono (VG (L:=[]) (post:=fun u a=>u=.bool (l.any b)/\a=[]) kr_ (qq l) (al _) fun C' hC hs=>Fn.mono (Mc C' v l g c b hs d fun x f D i=>e x f D (hC.trans i)) fun u _ a _ h=>⟨h.1,h.2⟩) fun u _ j _ ⟨a,h1,h2,h3⟩=>⟨h2,by rw [h1,h3]⟩
theorem MS (C:Mem)(a s x:Nat)(f:s<18446744073709551616)(g:x<18446744073709551616)(b:C a=some (.cells ⟨[.int .u64 (s:Nat)]⟩ 99 (0,0))) :
  Gives cx.P 81 [.int .u64 (x:Nat),.pointer (some ⟨a,0,none⟩)] C (.bool (x &&& s == x)):=by
 refine Uk func81 9 U3 fun w0=>Ua 1 [0,1] Z<|Ub 1 Z fun R c=>Uc (bkT b 1) U8<|Vp (x) (s) U8 om_ om_ U2<|C4 3 [3] c Z<|Ui U2<|⟨?_,Z⟩;congr 1;by_cases e:x &&& s=x
 ·rw [e];simp
 have d:¬ (((x &&& s:Nat):Int)=x):=fun h=>e (Int.ofNat_inj.1 h);rw [Rr.2 d,Rr.2 e]
def EH (l:List Nat):List (List Value):=l.map fun s=>[.int .u64 (s:Nat),.int .i64 0]
theorem sk (C:Mem)(V:Tabs C)(B:Bk)(W:List Rat)(c:Nat->List RowQ)(o d:Nat)(Y:SrchIn C B o d)(h:Calm B W c)(u:B.obs.length<6) :
  IterM cx.P 46 #[.pointer (some ⟨o,0,none⟩)] #[] C [.obj d (aQ keyU.enc [])] (EH (eI (hS B c) (bQ B.obs.length))):=by
 have aD:maxLen<=9223372036854775807:=by simp [maxLen]
 obtain ⟨n,hn⟩:∃ n,B.obs.length=n:=⟨_,rfl⟩;have aj:=fun (D:Mem)(f:C.le D)(s:Nat)(km:List (Nat × Value))(hs:s<2 ^ n)=>vU D (V.mono f) B W c o d s km (Y.mono f) h u (hn ▸ hs);have aa:=fun (D:Mem)(f:C.le D)=>AD D (V.mono f) B o d (Y.mono f) u;rw [hn] at u aa ⊢;have aF:=wt u;have A:=iS n;obtain ⟨F,g⟩:∃ F:Nat->List Nat,∀ i,F i=((bQ n).take i).foldl (fu (hS B c)) []:=⟨_,fun _=>rfl⟩;have ab:F 0=[]:=by rw [g,List.take_zero];rfl
 have am:∀ {i s},(bQ n)[i]?=some s->F (i+1)=fu (hS B c) (F i) s:=fun {i s} hs=>by rw [g,g,qj hs]
 have an:F (2 ^ n)=eI (hS B c) (bQ n):=by rw [g,<- A,Qv];rfl
 have ao:∀ i,∃ t,eI (hS B c) (bQ n)=F i++t:=fun i=>by
  unfold eI;rw [g]
  conv=>enter [1,t,1];rw [<- Ro i (bQ n),List.foldl_append]
  exact xn _ _ _
 have ap:∀ i,∀ x∈F i,x<2 ^ n:=fun i x v=>by
  rw [g] at v;rcases ml _ _ v with h | h
  ·cases h
  exact fo (Rt h)
 have aq:∀ i,i<=2 ^ n->(F i).length<=32:=fun i hi=>by
  rw [g];have h1:=jp (h:=hS B c) ((bQ n).take i) [];rw [Qx] at h1;simp only [Qy] at h1;omega
 refine IterM.intro (fb:=[.pointer (some ⟨o,0,none⟩)]) (lb:=[]) kr_ func46 Z 44 Z Z fun l I X L hY h0 w0=>?_;refine Ua 1 [0,1,4] Z ?_;refine UC [(1,3)] Z (fun R a=>?_);refine Ue U6 ?_;refine D.call (aa _ mup) Z (.inr dc_) U6 (Qo _) fl_ (fun aG _ aH _ ar=>?_);obtain ⟨As,ns,cs,rfl,rfl⟩:=ar;refine C4 2 [0,1,4,10,11,12] a Z ?_;clear a R;refine G.freezeArr 0 ((bQ n).map ck) Z Z (qq _) (by rw [al,A]) (fun _ _ ac=>?_);obtain ⟨_,_,ad,_⟩:=id ac;rw [al,A] at ad;cases ad
 refine G.nilArr 99 1 ?_;refine G.loop (fun fr C' L' μ=>∃ (i:Nat)(km:List (Nat × Value))(k:List Ent)(p:Option Addr)(n1 q:Nat),(i<=2 ^ n/\xK (hS B c) km/\I (F i).length k)/\fr=[(0,[],.pointer (some ⟨o,0,none⟩)),(1,[],.func (.yield l) #[] #[]),(4,[],.slice p n1 q),(10,[],.slice As (2 ^ n) cs),(11,[],.int .i64 ((2 ^ n:Nat):Int)),(12,[],.int .i64 i)]/\L'=.arr (.slice p n1 q) 99 1 (F i).length ((F i).map ck).flatten::.obj d (aQ keyU.enc km)::k/\μ=2 ^ n-i) (hn_ [0,1,4,10,11,12] Z) ⟨0,[],L,none,0,0,⟨Qm _,wR _,by rw [ab];exact h0⟩,Z,by rw [ab];rfl,Z⟩ (fun fr aI aL m _ hI=>?_);obtain ⟨i,km,k,p,n1,q,⟨hi,ae,w⟩,rfl,rfl,rfl⟩:=hI;refine Ua 1 [0,1,4,10,11,12,13] Z ?_;refine Ud (fun E=>?_) fun E=>?_
 ·have ag:i<2 ^ n:=by
   have:=aK E;omega
  obtain ⟨s,hs⟩:∃ s,(bQ n)[i]?=some s:=⟨(bQ n)[i]'om_,ak om_⟩;have au:s<2 ^ n:=fo (Qj hs);have aM:=aq i hi;have H:=am hs;refine VV af (fun _ _ av _=>?_);cases av
  refine Uf fun R a=>?_;refine Ur ac.m_ U10 om_ (gd hs) fl_ (fun aN ax=>?_);refine Uc ax U8 ?_;refine Uv U5 (fun b6=>?_);refine Um (j:=0) U12 ?_;refine Ug [0,1,4,6,10,11,12] a Z ?_;clear a R;refine G.freeze 0 Z (fun _ _ y=>?_);refine UC [(2,3)] Z (fun R a=>?_);refine Uh 2 Z ?_;refine D.call (Iy _ _ (F i) 81 [.pointer (some ⟨b6,0,none⟩)] (fun x=>x &&& s == x) kr_ (fun x v D f=>MS D b6 s x om_ (by have:=ap i x v;omega) (f _ _ (Mem.get y mup)))) Z (.inr dc_) U6 (Qo (_::_)) fl_ (fun aO _ aP _ ay=>?_);obtain ⟨rfl,rfl⟩:=ay;refine Ug [0,1,4,6,10,11,12,18] a Z ?_;clear a R;refine Ud (fun J=>?_) fun J=>?_
  ·have r:F (i+1)=F i:=by
    rw [H];unfold fu;rw [show ((F i).any fun x=>x &&& s == x)=true from J];rfl
   refine Uf fun R a=>?_;refine Ul _ U7 ?_;refine C4 1 [0,1,4,10,11,12] a Z ?_;clear a R;refine Un (m':=2 ^ n-(i+1)) om_ mup (hn_ [0,1,4,10,11,12] Z) ⟨i+1,km,k,p,_,q,⟨by omega,ae,by rw [r];exact w⟩,Z,by rw [r];rfl,Z⟩
  refine UC [(2,3)] Z (fun R a=>?_);refine Ue U6 ?_;refine Uc (bkT y 1) U8 ?_;refine D.call (aj _ mup s km au ae) Z (.inr dc_) U6 (List.Perm.swap _ _ _) fl_ (fun aR _ aS _ az=>?_);obtain ⟨rfl,z,ah,rfl⟩:=az;refine C4 5 [0,1,4,6,7,8,10,11,12] a Z ?_;clear a R;refine Ub 4 Z fun R a=>?_;refine UB U8 ?_;refine Ug [0,1,4,6,8,10,11,12,29] a Z ?_;clear a R;refine Ud (fun K=>?_) fun K=>?_
  ·have M:hS B c s=true:=by simpa using K
   have r:F (i+1)=F i:=by
    rw [H];unfold fu;rw [M,Bool.or_true];rfl
   refine Uf fun R a=>?_;refine Ul _ U7 ?_;refine C4 1 [0,1,4,10,11,12] a Z ?_;clear a R;refine G.perm _ (List.Perm.swap _ _ _) ?_;refine Un (m':=2 ^ n-(i+1)) om_ mup (hn_ [0,1,4,10,11,12] Z) ⟨i+1,z,k,p,_,q,⟨by omega,ah,by rw [r];exact w⟩,Z,by rw [r],Z⟩
  have M:hS B c s=false:=by simpa using K
  have N:F (i+1)=F i++[s]:=by
   rw [H];unfold fu;rw [M,Bool.or_false,show ((F i).any fun x=>x &&& s == x)=false from J];rfl
  obtain ⟨tl,ai⟩:=ao (i+1);rw [N] at ai;have hv:(EH (eI (hS B c) (bQ n)))[(F i).length]?=some [.int .u64 (s:Nat),.int .i64 0]:=by
   rw [ai];unfold EH;rw [Qn,QS,QQ (Qi _),SN];rfl
  refine Ub 1 Z fun R a=>?_;refine Uc (bkT y 1) U8 ?_;refine Ux [ck s] U12 (fun aT _ _ aA=>?_);refine UF (j:=1) U11 aA Z aw (by show ((F i).length+1)*8<=_;omega) fl_ (fun O Q S=>?_);refine C4 1 [0,1,4,6,8,10,11,12] a Z ?_;clear a R;refine Ut (L':=.arr (.slice O Q S) 99 1 (F i++[s]).length ((F i++[s]).map ck).flatten::.obj d (aQ keyU.enc z)::k) (by rw [QZ,Q5,Qp];rfl) ?_;refine W6 3 [0,1,2] [4,5,6,7,8] [] (YW.plain _) Z Z Z Z Z Z (fun R T hy=>?_);refine Ue U6 ?_;refine Uc (bkT y 1) U8 ?_;refine Ue U6 ?_;refine hy (hY _ _ _ hv w) mup Z Z Z Z (Lo:=[.arr (.slice O Q S) 99 1 (F i++[s]).length ((F i++[s]).map ck).flatten,.obj d (aQ keyU.enc z)]) (QV (l₁:=[_,_])) fl_ (fun b L2 hb R T a=>?_);rcases hb with ⟨rfl,aB⟩ | ⟨rfl,aC⟩
  ·refine Uh 4 Z ?_;refine UH U8 ?_;refine Ug [0,1,4,10,11,12,42] a Z ?_;clear a T R;refine G.cond Z (fun U=>absurd U dc_) (fun _=>?_);refine Uf fun R a=>?_;refine Ul _ U7 ?_;refine C4 1 [0,1,4,10,11,12] a Z ?_;clear a R;refine G.perm _ (QV (l₂:=[_,_])) ?_;refine Un (m':=2 ^ n-(i+1)) om_ mup (hn_ [0,1,4,10,11,12] Z) ⟨i+1,z,L2,O,Q,S,⟨by omega,ah,by rw [N,Qp];exact aB⟩,Z,by rw [N];rfl,Z⟩
  refine Uh 4 Z ?_;refine UH U8 ?_;refine Ug [0,1,4,10,11,12,42] a Z ?_;clear a T R;refine G.cond Z (fun _=>?_) (fun U=>absurd U dc_);refine G.perm _ (QV (l₂:=[_,_])) ?_;refine Up (VS Z ?_);exact ⟨[_,_],L2,Z,.inr ⟨_,(aE.1 hv).1,aC⟩⟩
 have ag:i=2 ^ n:=by
  have:=Ql E;omega
 refine Vo Z ?_;refine ⟨[_,_],k,Z,.inl ?_⟩;have e:(EH (eI (hS B c) (bQ n))).length=(F i).length:=by rw [ag,an,EH,al]
 rw [e];exact w
inductive SmallO (l:List Nat) (D:Mem):Value->Prop where
 | none:l=[]->SmallO l D (.tuple #[.slice none 0 0,.bool false,.int .i64 0])
 | some (x:Nat) (v:Value):l.head?=some x->Sl D 1 v ((aZ x).map aO)->SmallO l D (.tuple #[v,.bool true,.int .i64 0])
theorem EG {j:Nat}(h:(EH l)[j]?=some v):∃ x,l[j]?=some x/\v=[.int .u64 (x:Nat),.int .i64 0]:=by
 unfold EH at h;rw [Qn] at h;cases a:l[j]? with
 | none=>rw [a] at h;cases h
 | some x=>rw [a] at h;exact ⟨x,rfl,(RS h).symm⟩
theorem nQ (h:v∈EH l):∃ x,x∈l/\v=[.int .u64 (x:Nat),.int .i64 0]:=by
 obtain ⟨x,a,rfl⟩:=Qq.1 h;exact ⟨x,a,Z⟩
theorem BV {x:Nat}(a:x∈eI h (bQ n)):x<2 ^ n:=by
 rcases ml _ _ a with h | h
 ·cases h
 exact fo h
theorem qS (C:Mem)(t:Tabs C)(w:Value)(B:Bk)(y:List Rat)(l:Nat->List RowQ)(E:BookIn C w B)(h:Calm B y l)(F:B.obs.length<6) :
  Pur cx.P 21 [w] C fun u D=>SmallO (eI (hS B l) (bQ B.obs.length)) D u:=by
 have ad:maxLen<=9223372036854775807:=by simp [maxLen]
 have ag:=wt F;have K:=E;obtain ⟨cs,H⟩:∃ cs,eI (hS B l) (bQ B.obs.length)=cs:=⟨_,rfl⟩;have M:∀ x∈cs,x<32:=fun x d=>by have:=BV (H ▸ d);omega
 have N:=fun (D:Mem)(m:C.le D)=>tJ D (t.mono m) w B y l (K.mono m) h om_;have I:=fun (D:Mem)(m:C.le D)(o p:Nat)(z:SrchIn D B o p)=>sk D (t.mono m) B y l o p z h F;simp only [H] at I ⊢;obtain ⟨v1,v2,tv,cv,ov,rfl,_⟩:=id E.ex;refine Vu kr_ func21 Z 25 Z Z fun w0=>Uf fun R b=>Uw U6 fun b1=>Uv U5 fun f=>Uv U5 fun g=>Uv U5 fun i=>Ug [1,2,3,4] b Z<|G.freeze 3 Z fun _ _ O=>UC [(1,3)] Z fun R b=>Uc (bkT O 5) U8<|D.call (N _ mup) Z (.inr dc_) U6 (Qo _) fl_ (fun ah _ ai _ Q=>?_);obtain ⟨o,p,rfl,z,rfl⟩:=Q;refine Uh 4 Z<|Um (j:=1) U12<|Ug [2,3,4,5] b Z<|Uf fun R b=>Uj af U9<|C4 1 [2,3,4,5,14] b Z<|G.cond Z (fun S=>absurd S dc_) fun _=>Ua 2 [2,3,4,17] Z ?_;have T:=I _ mup o p z;refine We (ps:=[18,19]) (Lr:=[.obj i (.cells ⟨[.int .i64 0]⟩ 46 (0,0)),.obj g (.cells ⟨[.bool false]⟩ 4 (0,0)),.obj f (.cells ⟨[.slice none 0 0]⟩ 50 (0,0))]) Z Z kr_ T (List.Perm.swap _ _ _) (fun v k=>?_)
  (fun j a=>j=0/\a=[.obj i (.cells ⟨[.int .i64 0]⟩ 46 (0,0)),.obj g (.cells ⟨[.bool false]⟩ 4 (0,0)),.obj f (.cells ⟨[.slice none 0 0]⟩ 50 (0,0))])
  (fun q j a=>q=.ret/\∃ (x:Nat)(A:Option Addr)(n c:Nat),cs.head?=some x/\a=[.obj i (.cells ⟨[.int .i64 0]⟩ 46 (0,0)),.obj g (.cells ⟨[.bool true]⟩ 4 (0,0)),.obj f (.cells ⟨[.slice A n c]⟩ 50 (0,0)),.arr (.slice A n c) 3 1 (aZ x).length ((aZ x).map aO).flatten])
  ⟨rfl,rfl⟩ (fun v k=>?_)
  (fun j a J LA=>j=0/\∃ x,cs[0]?=some x/\J=[(2,[],.pointer (some ⟨f,0,none⟩)),(3,[],.pointer (some ⟨g,0,none⟩)),(4,[],.pointer (some ⟨i,0,none⟩)),(6,[],.int .u64 (x:Nat)),(7,[],.int .i64 0)]/\LA=[.obj i (.cells ⟨[.int .i64 0]⟩ 46 (0,0)),.obj g (.cells ⟨[.bool false]⟩ 4 (0,0)),.obj f (.cells ⟨[.slice none 0 0]⟩ 50 (0,0))])
  ?_ ?_ ?_ ?_
 ·obtain ⟨x,_,rfl⟩:=nQ k;rfl
 ·obtain ⟨x,_,rfl⟩:=nQ k;rfl
 ·intro l2 j v a W1 r k;obtain ⟨rfl,rfl⟩:=r;obtain ⟨x,d,rfl⟩:=EG k;exact Ua 1 [2,3,4,6,19] Z<|Ua 1 [2,3,4,6,7] Z<|Wc [(2,[],_),(3,[],_),(4,[],_),(6,[],_),(7,[],_)] ⟨Z,Z,Z,Z,Z,trivial⟩ ⟨Z,x,d,Z,Z⟩
 ·intro l2 j v a J LA W1 r k U;obtain ⟨rfl,x,d,rfl,rfl⟩:=U;have V:=M x (Qj d);refine Ua 2 [2,3,4,6,21] Z<|G.cond Z (fun W=>absurd W dc_) fun _=>UC [(1,3)] Z fun R b=>Ue U6<|D.call (uq _ t.m_ x V) Z (.inr dc_) U6 (Qo _) fl_ (fun aj _ ak _ Y=>?_);obtain ⟨A,n,c,rfl,rfl⟩:=Y;refine Um (j:=3) U12<|Um (j:=3) U12<|Um (j:=3) U12<|Ug [2,3,4] b Z<|Up (Xa (e:=.ret) (c:=.ret) (X:=fun q a=>q=.ret/\_) Z ⟨Z,x,A,n,c,by rw [List.head?_eq_getElem?];exact d, ?_⟩);rfl
 ·intro s a r;obtain ⟨h0,rfl⟩:=r;have aa:cs=[]:=by
   unfold EH at h0;rw [al] at h0;exact Q1 h0
  exact Uf fun R b=>Um (j:=3) U12<|Um (j:=3) U12<|Um (j:=3) U12<|Ug [2,3,4] b Z<|Up<|G.perm (L':=[s].map qF++[.obj i (.cells ⟨[.int .i64 0]⟩ 46 (0,0)),.obj g (.cells ⟨[.bool false]⟩ 4 (0,0)),.obj f (.cells ⟨[.slice none 0 0]⟩ 50 (0,0))]) (pkL [3,0,0,0] Z)<|VW (Ds:=[s]) (.inl Z) (Fu ac ae af Z Z Z Z Z Z Z Z Z Z) ⟨Z,.none aa⟩
 intro s j q a hj hX;obtain ⟨rfl,x,A,n,c,d,rfl⟩:=hX;exact UP 64<|G.freezeArr 4 ((aZ x).map aO) Z Z (mb _) (al _) fun Cf hf ab=>Up<|VW (Ds:=[s]) (L:=[.obj i (.cells ⟨[.int .i64 0]⟩ 46 (0,0)),.obj g (.cells ⟨[.bool true]⟩ 4 (0,0)),.obj f (.cells ⟨[.slice A n c]⟩ 50 (0,0))]) (.inl Z) (Fu ac ae af Z Z Z Z Z Z Z Z Z Z) ⟨Z,.some x _ d ab⟩
theorem wX :Ec B RO l ↔ ∃ y:Nat->Rat,∀ r∈eX B RO l,Lp.sumN (fun j=>r.f.getD j 0*y j) (bs B*bp B)<=r.b:=by
 have hm:(eJ (bs B*bp B) (kc (eX B RO l))).m=(eX B RO l).length:=al _;refine exists_congr fun y=>⟨fun h r hr=>?_,fun h i a=>?_⟩
 ·obtain ⟨i,a⟩:=RH hr;obtain ⟨h1,h2⟩:=aE.1 a;have h3:=h i (by rw [hm];exact h1);have e:(kc (eX B RO l)).getD i ([],0)=(r.f,r.b):=by rw [tM h1,h2]
  have h4:Lp.sumN (fun j=>((kc (eX B RO l)).getD i ([],0)).1.getD j 0*y j) (bs B*bp B)<=((kc (eX B RO l)).getD i ([],0)).2:=h3;rw [e] at h4;exact h4
 rw [hm] at a;have h4:=h _ (Rh a);have e:(kc (eX B RO l)).getD i ([],0)=((eX B RO l)[i].f,(eX B RO l)[i].b):=tM a;show Lp.sumN (fun j=>((kc (eX B RO l)).getD i ([],0)).1.getD j 0*y j) (bs B*bp B)<=((kc (eX B RO l)).getD i ([],0)).2;rw [e];exact h4
theorem J3 (h:Ec B RO l):ii B RO l=true:=@QC _ (Classical.propDecidable _) h
theorem GW (h:¬ Ec B RO l):ii B RO l=false:=@QJ _ (Classical.propDecidable _) h
theorem jo {x:Nat}(h:l[k]?=some x):(l.map aO)[k]?=some (aO x):=by rw [Qn,h];rfl
theorem Hg {c:Type}{a b:List c}(h:k<a.length)(d:k<b.length):(a.drop k=b.drop k ↔ a[k]=b[k]/\a.drop (k+1)=b.drop (k+1)):=by
 rw [QK h,QK d,Sy]
theorem pT (C:Mem)(v w:Value)(a b:List Nat)(d:Sl C 1 v (a.map aO))(f:Sl C 1 w (b.map aO)):Gives cx.P 22 [v,w] C (.bool (decide (a=b))):=by
 obtain ⟨A,c,rfl,u,K,_⟩:=id d;obtain ⟨A2,c2,rfl,_⟩:=id f;have L:maxLen<=9223372036854775807:=by simp [maxLen]
 simp only [al] at d f u ⊢;refine Uk func22 26 U3 fun w0=>Ua 1 [0,1] Z<|Ua 5 [0,1,10] Z<|Ud (fun g=>?_) fun g=>?_
 ·have r:(a.length:Int)≠b.length:=by simpa using g
  exact Ua 1 [4] Z<|Ui U2<|⟨by rw [QJ (fun e=>r (by rw [e]))],Z⟩
 have r:(a.length:Int)=b.length:=by simpa using g
 refine Ua 1 [0,1,5] Z<|G.loop (fun fr C' z B=>∃ (k:Nat),(k<=a.length/\(a=b ↔ a.drop k=b.drop k))/\fr=[(0,[],.slice A a.length c),(1,[],.slice A2 b.length c2),(5,[],.int .i64 k)]/\z=[]/\B=a.length-k) (hn_ [0,1,5] Z) ⟨0,⟨Qm _,Iff.rfl⟩,Z,Z,Z⟩ (fun fr M N m D E=>?_);obtain ⟨k,⟨O,i⟩,rfl,rfl,rfl⟩:=E;refine Ua 4 [0,1,5,14] Z<|Ud (fun j=>?_) fun j=>?_
 ·have l:k<a.length:=by
   have:=aK j;omega
  have s:k<b.length:=by omega
  obtain ⟨x,t⟩:∃ x,a[k]=x:=⟨_,rfl⟩;obtain ⟨y,hy⟩:∃ y,b[k]=y:=⟨_,rfl⟩;have n:=Hg l s;rw [t,hy] at n;have F:a[k]?=some x:=by rw [ak l,t]
  have H:b[k]?=some y:=by rw [ak s,hy]
  refine Uy [0,1,2,3,4,5,6,7,8] [] Z kr_ fun R Q o=>Uh 2 Z<|Ur d.m_ U10 om_ (jo F) fl_ fun S I=>Uc I U8<|Uh 2 Z<|Ur f.m_ U10 om_ (jo H) fl_ fun T J=>Uc J U8<|C4 1 [0,1,5,25] o Z<|Ud (fun p=>?_) fun p=>?_
  ·have q:x≠y:=fun e=>by subst e;simp at p
   exact Ua 1 [4] Z<|Ui U2<|⟨by rw [QJ (fun e=>q (n.1 (i.1 e)).1)],Z⟩
  have q:x=y:=by
   have:(x:Int)=y:=by simpa using p
   omega
  refine Ub 1 Z fun R o=>Ul _ U7<|C4 1 [0,1,5] o Z<|Un (m':=a.length-(k+1)) om_ D (hn_ [0,1,5] Z) ⟨k+1,⟨by omega,i.trans (n.trans ⟨fun h=>h.2,fun h=>⟨q,h⟩⟩)⟩,Z,Z,Z⟩
 have l:k=a.length:=by
  have:=Ql j;omega
 exact Ua 1 [4] Z<|Ui U2<|⟨by rw [QC (i.2 (by rw [RF om_,RF om_]))],Z⟩
theorem Bz (C:Mem)(v w:Value)(a b:List (List Nat))(d:OutsIn C v a)(f:OutsIn C w b)(Y:a.length<=1000):Gives cx.P 17 [v,w] C (.bool (decide (a=b))):=by
 obtain ⟨g,z,d⟩:=d;obtain ⟨i,B,f⟩:=f;obtain ⟨A,c,rfl,J,aa,_⟩:=id d;obtain ⟨A2,c2,rfl,_⟩:=id f;have ab:maxLen<=9223372036854775807:=by simp [maxLen]
 have K:=z.1;have L:=B.1;simp only [al,K,L] at d f J ⊢;refine Uk func17 27 U3 fun w0=>Ua 1 [0,1] Z<|Ua 5 [0,1,10] Z<|Ud (fun j=>?_) fun j=>?_
 ·have D:(a.length:Int)≠b.length:=by simpa using j
  exact Ua 1 [4] Z<|Ui U2<|⟨by rw [QJ (fun e=>D (by rw [e]))],Z⟩
 have D:(a.length:Int)=b.length:=by simpa using j
 refine Ua 1 [0,1,5] Z<|G.loop (fun fr C' M N=>∃ (k:Nat),(k<=a.length/\(a=b ↔ a.drop k=b.drop k))/\fr=[(0,[],.slice A a.length c),(1,[],.slice A2 b.length c2),(5,[],.int .i64 k)]/\M=[]/\N=a.length-k) (hn_ [0,1,5] Z) ⟨0,⟨Qm _,Iff.rfl⟩,Z,Z,Z⟩ (fun fr ac ad m O Q=>?_);obtain ⟨k,⟨hk,l⟩,rfl,rfl,rfl⟩:=Q;refine Ua 4 [0,1,5,14] Z<|Ud (fun n=>?_) fun n=>?_
 ·have o:k<a.length:=by
   have:=aK n;omega
  have E:k<b.length:=by omega
  obtain ⟨x,F⟩:∃ x,a[k]=x:=⟨_,rfl⟩;obtain ⟨y,hy⟩:∃ y,b[k]=y:=⟨_,rfl⟩;have r:=Hg o E;rw [F,hy] at r;obtain ⟨p,H⟩:∃ p,g[k]?=some p:=⟨g[k]'om_,ak om_⟩;obtain ⟨q,I⟩:∃ q,i[k]?=some q:=⟨i[k]'om_,ak om_⟩;have S:(g.map fun x=>[x])[k]?=some [p]:=by rw [Qn,H];rfl
  have T:(i.map fun x=>[x])[k]?=some [q]:=by rw [Qn,I];rfl
  have U:=z.2 k p x H (by rw [ak o,F]);have V:=B.2 k q y I (by rw [ak E,hy]);refine Uy [0,1,2,3,4,5,6,7,8,9] [(8,1)] Z kr_ fun R hB s=>Uh 2 Z<|Ur d.m_ U10 om_ S fl_ fun ae W=>Uc W U8<|Uh 2 Z<|Ur f.m_ U10 om_ T fl_ fun af X=>Uc X U8<|UJ (fun _=>(pT _ _ _ x y U.m_ V.m_)) U9<|C4 1 [0,1,5,26] s Z<|Ud (fun t=>?_) fun t=>?_
  ·have u:x≠y:=by simpa using t
   exact Ua 1 [4] Z<|Ui U2<|⟨by rw [QJ (fun e=>u (r.1 (l.1 e)).1)],Z⟩
  have u:x=y:=by simpa using t
  refine Ub 1 Z fun R s=>Ul _ U7<|C4 1 [0,1,5] s Z<|Un (m':=a.length-(k+1)) om_ O (hn_ [0,1,5] Z) ⟨k+1,⟨by omega,l.trans (r.trans ⟨fun h=>h.2,fun h=>⟨u,h⟩⟩)⟩,Z,Z,Z⟩
 have o:k=a.length:=by
  have:=Ql n;omega
 exact Ua 1 [4] Z<|Ui U2<|⟨by rw [QC (l.2 (by rw [RF om_,RF om_]))],Z⟩
end Go.Proofs.YthnpijdjlddpmaaGreatDoor
