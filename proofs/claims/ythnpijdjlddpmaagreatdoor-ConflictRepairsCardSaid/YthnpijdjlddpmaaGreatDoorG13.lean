/- Laws that the proofs of this seat share, part 13. -/
import Derived.Test.YthnpijdjlddpmaaGreatDoorG12
import Derived.Test.YthnpijdjlddpmaaGreatDoorShelf
set_option maxHeartbeats 4000000
namespace Go.Proofs.YthnpijdjlddpmaaGreatDoor
open Go.Proofs.Tryz
open Go Go.Jog
set_option maxRecDepth 100000
variable {B:Bk}{C:Mem}{RO:Nat->List RowQ}{cc:Nat->Rat}{h:Nat->Bool}{i k:Nat}{km:List (Nat × Value)}{l:List Nat}{n:Nat}{outs:List (List Nat)}{p:Lp.Sys}{rows:List RowQ}{s:Nat}{t:Lp.Tab}{u:Value}{v vs:List Value}{w:Value}{z:Int}
def Wl (D:Int)(q:Rat):Prop:=∃ z:Int,q*(D:Rat)=(z:Rat)/\z.natAbs<=999999999
def RowI (r:RowQ):Prop:=∃ D:Int,D≠0/\D.natAbs<=999999999/\(∀ q∈r.f,Wl D q)/\Wl D r.b
def jY (rows:List RowQ):List (List Rat × Rat):=rows.map fun r=>(r.f,r.b)
theorem Wl.zero (D:Int):Wl D 0:=⟨0,by grind,by decide⟩
theorem Wl.neg {q:Rat}{D:Int}(h:Wl D q):Wl D (-q):=by
 obtain ⟨z,h1,h2⟩:=h;exact ⟨-z,by rw [Rat.intCast_neg,<- h1];grind,by omega⟩
theorem Wl.sg {D:Int}{q a:Rat}(h:Wl D q)(b:a=1∨a=-1):Wl D (a*q):=by
 rcases b with rfl | rfl
 ·rw [Rat.one_mul];exact h
 rw [show (-1:Rat)*q=-q by grind];exact h.neg
theorem tG (h:i<rows.length):(jY rows).getD i ([],0)=(rows[i].f,rows[i].b):=by
 unfold jY;rw [aw,Qg,aj h];rfl
theorem JL (g:n<=12)(h:∀ r∈rows,RowI r)(i:∃ D:Int,D≠0/\D.natAbs<=999999999/\∀ j,j<n->Wl D (cc j)):Lp.Lim (eH n (jY rows)) cc 16:=by
 have k:∀ r:Nat,∃ D:Int,∀ hr:r<rows.length,D≠0/\D.natAbs<=999999999/\(∀ q∈rows[r].f,Wl D q)/\Wl D rows[r].b:=fun r=>by
  by_cases hr:r<rows.length
  ·obtain ⟨D,c⟩:=h rows[r] (Q8 hr);exact ⟨D,fun _=>c⟩
  exact ⟨0,fun h=>absurd h hr⟩
 obtain ⟨D,c⟩:=Classical.axiomOfChoice k;obtain ⟨l,o,c2,p⟩:=i;have hm:(eH n (jY rows)).m=rows.length:=al _;refine ⟨⟨D,999999999,l,by decide,⟨fun r hr=>?_,fun r j hr d=>?_,fun r hr=>?_⟩,⟨o,c2⟩,fun j d=>?_, ?_⟩⟩
 ·rw [hm] at hr;exact ⟨(c r hr).1,(c r hr).2.1⟩
 ·rw [hm] at hr;have e:(eH n (jY rows)).a r j=rows[r].f.getD j 0:=by show ((jY rows).getD r ([],0)).1.getD j 0=_;rw [tG hr]
  have s:Wl (D r) (rows[r].f.getD j 0):=by
   rw [aw];cases t:rows[r].f[j]? with
   | none=>exact Wl.zero _
   | some q=>exact (c r hr).2.2.1 q (Qc t)
  obtain ⟨z,h1,h2⟩:=s;exact ⟨z,by rw [e,Rat.mul_comm];exact h1,h2⟩
 ·rw [hm] at hr;have e:(eH n (jY rows)).b r=rows[r].b:=by show ((jY rows).getD r ([],0)).2=_;rw [tG hr]
  obtain ⟨z,h1,h2⟩:=(c r hr).2.2.2;exact ⟨z,by rw [e,Rat.mul_comm];exact h1,h2⟩
 ·obtain ⟨z,h1,h2⟩:=p j d;exact ⟨z,by rw [Rat.mul_comm];exact h1,h2⟩
 unfold Lp.bdQ Lp.bdT;have:∀ n,n<=12->(n+1)*(999999999*Lp.fctM (2*999999999) n)<B9 ^ 16:=by decide +kernel
 exact this _ g
theorem JK (a:n<=12)(h:∀ r∈rows,RowI r):Lp.Lim (eH n (jY rows)) (fun _=>0) 16:=JL a h ⟨1,by decide,by decide,fun _ _=>Wl.zero _⟩
theorem wb {p:Nat}{c:List (Nat × Rat)}{b a:Rat}{D:Int}(d:a=1∨a=-1)(e:D≠0)(f:D.natAbs<=999999999)(g:∀ x∈c,Wl D x.2)(h:Wl D b):RowI (iz s p k c b a):=by
 refine ⟨D,e,f,tI (Wl.zero _) (fun x i=>?_),h.sg d⟩;obtain ⟨y,hy,rfl⟩:=Qk.1 i;exact (g y hy).sg d
theorem L3 {pts:List Pt}{t:Tri}{fs:List Rat}{p:Pt}(e:∀ j,Qtr (cor pts t j))(f:dD (cor pts t 0) (cor pts t 1) (cor pts t 2)≠0)(g:∀ j,Hlf (fz fs t j))(z:Qtr p) :
  ∃ W:Int,W≠0/\W.natAbs<=2880000/\(∀ j,∃ N:Int,wgt pts t p j*W=N/\N.natAbs<=2880000)/\(∃ N:Int,onQ pts fs t p*((2*W:Int):Rat)=N/\N.natAbs<=600000000) /\
   ∀ j,(∃ N:Int,(slf pts t j).1*W=N/\N.natAbs<=400000)/\∃ N:Int,(slf pts t j).2*W=N/\N.natAbs<=400000:=by
 obtain ⟨x0,y0,h0,m,o⟩:=e 0;obtain ⟨x1,y1,h1,q,r⟩:=e 1;obtain ⟨x2,y2,h2,s,u⟩:=e 2;obtain ⟨x3,y3,h3,h⟩:=id z;obtain ⟨k0,v,A⟩:=g 0;obtain ⟨k1,w,B⟩:=g 1;obtain ⟨k2,x,C⟩:=g 2;have D:=yE (x0:=x0) (y0:=y0) (x1:=x1) (y1:=y1) (x2:=x2) (y2:=y2) ⟨m,o,q,r,s,u⟩;refine ⟨iA x0 y0 x1 y1 x2 y2,(iO h0 h1 h2 v w x f).1,D,fun j=>?_,⟨_,Ll h0 h1 h2 h3 v w x f,OL ⟨m,o,q,r,s,u⟩ h ⟨A,B,C⟩⟩,fun j=>?_⟩
 ·obtain ⟨M,O,h4,E,F⟩:=e ((j+1) % 3);obtain ⟨P,Q,h5,G,H⟩:=e ((j+2) % 3);exact ⟨_,(wi (mm h3 h4 h5) (mm h0 h1 h2) f).2,yE ⟨h.1,h.2,E,F,G,H⟩⟩
 have l:=fun i=>zU (n:=pts.length) (k:=mB t j) (t:=t) i;obtain ⟨u0,g0,R⟩:=l 0;obtain ⟨u1,I,l1⟩:=l 1;obtain ⟨y,J,l2⟩:=l 2;obtain ⟨_,K,L⟩:=iO h0 h1 h2 g0 I J f;have S:=jR (a:=u1-u0) (b:=y2-y0) (c:=y1-y0) (d:=y-u0) ⟨by omega,by omega,by omega,by omega⟩;have T:=jR (a:=u1-u0) (b:=x2-x0) (c:=x1-x0) (d:=y-u0) ⟨by omega,by omega,by omega,by omega⟩;exact ⟨⟨_,K,by omega⟩,⟨_,L,by omega⟩⟩
theorem N4 {q:Rat}{W:Int}{N:Int}(h:q*(W:Rat)=N)(a:N.natAbs<=400000000):Wl (2*W) q:=⟨2*N,by rw [Ra,Ra,<- h];grind,by omega⟩
theorem HQ {t:Tri}{f:Nat->Rat}{P:Rat->Prop}(h:∀ j,P (f j)):∀ x∈atT t f,P x.2:=gg (P:=fun x=>P x.2) (h 0) (h 1) (h 2)
theorem Kh (n:Nat):kQ ((n % 12:Nat):Int) 2*2=(((n % 12:Nat):Int):Rat):=od dc_
theorem Ou (S:Sht)(H:Hts)(l:List Sgt)(s:Sgt)(i:Nat)(p:SgtR s):∀ r∈rowsO (cm S H l) (fE S s i) (lE S s) (tK S s) (zK S H s),RowI r:=by
 obtain ⟨A,_⟩:=fq (S.kd % 8) (QV _ dc_) S.a S.b S.h;obtain ⟨_,B⟩:=locK S s p;have C:=jK A.ok (Qc B);obtain ⟨W,D,g,E,⟨d,u,L⟩,v⟩:=L3 (pts:=cC (S.kd % 8) S.a S.b S.h) (t:=tK S s) (fs:=fsK (cC (S.kd % 8) S.a S.b S.h).length H) (fun j=>uL j) C (fun j=>Lx j) (AX S s p);have m:∀ j,Wl (2*W) (wgt (cC (S.kd % 8) S.a S.b S.h) (tK S s) (lE S s) j):=fun j=>by
  obtain ⟨N,e,b⟩:=E j;exact N4 e om_
 have n:Wl (2*W) (kw (fE S s i) (zK S H s)):=by
  unfold kw;split
  ·rename_i F;rw [Bj S s i F,df (ok1 (sD s.depth))];have f:=Kh s.depth;have G:zK S H s*((2*W:Int):Rat)=d:=u;refine ⟨d-((s.depth % 12:Nat):Int)*W, ?_, ?_⟩
   ·simp only [SH,Ra,<- f];rw [show ((d:Int):Rat)=zK S H s*((2*W:Int):Rat) from G.symm];simp only [Ra];grind
   have:=iY (a:=((s.depth % 12:Nat):Int)) (b:=W) (M:=11) om_ g;omega
  exact ⟨d,u,by omega⟩
 have o:∀ sg∈([1, -1]:List Rat),sg=1∨sg=-1:=by simp
 intro r hr;unfold rowsO at hr;split at hr
 ·rcases Qt.1 hr with h | h <;> split at h
  ·rw [Qx.1 h];exact wb (.inl rfl) om_ om_ (HQ m) n
  ·simp at h
  ·rw [Qx.1 h];exact wb (.inr rfl) om_ om_ (HQ m) n
  simp at h
 rename_i h1;split at hr
 ·obtain ⟨k,_,h⟩:=List.mem_flatMap.1 hr;obtain ⟨sg,c,rfl⟩:=Qk.1 h;exact wb (o sg c) om_ om_ (HQ m) n
 rename_i h2;have O:=nI s.n0;have P:=nI s.n1;have Q:=nZ s.n2;have w:=uq s.n2;have f:qi (fE S s i)*(fa s.n2:Int)=((-(s.n0.tmod 5):Int):Rat)/\iX (fE S s i)*(fa s.n2:Int)=((-(s.n1.tmod 5):Int):Rat):=by
  have I:=dX (s.n0.tmod 5) om_;have l1:=dX (s.n1.tmod 5) om_;have l2:=dX (fa s.n2) om_;have R:((fa s.n2:Int):Rat)≠0:=by exact_mod_cast w
  revert h1 h2;unfold qi iX fE;split
  ·intro h1;exact absurd rfl h1
  split
  ·intro _ h2;exact absurd rfl h2
  intro _ _;simp only;rw [df (ok1 I),df (ok1 l1),df (ok1 l2),Rat.intCast_neg,Rat.intCast_neg];constructor <;> grind
 have hm:(W*fa s.n2).natAbs<=2880000*4:=iY g om_;have x:W*fa s.n2≠0:=Int.mul_ne_zero D w;have y:∀ {q:Rat}{N:Int},q*(W:Rat)=N->N.natAbs<=400000->Wl (W*fa s.n2) q:=fun {q N} e b=>⟨N*fa s.n2,by rw [Ra,Ra,<- e];grind,by have:=iY b (show (fa s.n2).natAbs<=4 by omega);omega⟩;have J:∀ j,Wl (W*fa s.n2) (slf (cC (S.kd % 8) S.a S.b S.h) (tK S s) j).1:=fun j=>by
  obtain ⟨N,e,b⟩:=(v j).1;exact y e b
 have K:∀ j,Wl (W*fa s.n2) (slf (cC (S.kd % 8) S.a S.b S.h) (tK S s) j).2:=fun j=>by
  obtain ⟨N,e,b⟩:=(v j).2;exact y e b
 have z:∀ {q:Rat}{N:Int},q*((fa s.n2:Int):Rat)=N->N.natAbs<=4->Wl (W*fa s.n2) q:=fun {q N} e b=>⟨N*W,by rw [Ra,Ra,<- e];grind,by have:=iY b g;omega⟩;obtain ⟨k,_,h⟩:=List.mem_flatMap.1 hr;rcases Qt.1 h with h | h
 ·obtain ⟨sg,c,rfl⟩:=Qk.1 h;exact wb (o sg c) x om_ (HQ J) (z f.1 om_)
 obtain ⟨sg,c,rfl⟩:=Qk.1 h;exact wb (o sg c) x om_ (HQ K) (z f.2 om_)
def Pw (x:Lay):Prop:=(∃ z:Int,x.min=z/\z.natAbs<=1000)/\∀ m,x.max=some m->∃ z:Int,m=z/\z.natAbs<=1000
theorem zM {q:Rat}(e:q=z)(h:z.natAbs<=1000):Wl 1 q:=⟨z,by rw [e];show _*(1:Rat)=_;grind,by omega⟩
theorem Oa {a b:Nat}{u v:Rat}{c:Rat}(f:u=1∨u=-1)(g:v=1∨v=-1)(i:Wl 1 c):RowI ⟨rJ n [(a,u),(b,v)],c⟩:=by
 have d:∀ q:Rat,q=1∨q=-1->Wl 1 q:=fun q h=>by
  rcases h with rfl | rfl
  ·exact zM (z:=1) aq dc_
  exact zM (z:=-1) aq dc_
 refine ⟨1,by decide,by decide,tI (Wl.zero _) (fun x e=>?_),i⟩;simp only [Qp,Rb,SA] at e;rcases e with rfl | rfl
 ·exact d _ f
 exact d _ g
theorem Iw {p:Nat}{x:Lay}(h:Pw x):∀ r∈kl s p x i k,RowI r:=by
 obtain ⟨z,a,b⟩:=h.1;intro r hr;unfold kl at hr;rcases Qp.1 hr with rfl | hr
 ·exact Oa (.inr Z) (.inl Z) (zM a b).neg
 split at hr
 ·cases hr
 rename_i m hm;obtain ⟨z,a,b⟩:=h.2 m hm;rw [Qx.1 hr];exact Oa (.inl Z) (.inr Z) (zM a b)
theorem Ab {s p:Nat}{x:Lay}{i:Nat}(h:Pw x):∀ k,∀ r∈bx s p x i k,RowI r
 | 0,r,hr=>by cases hr
 | k+1,r,hr=>by
  rcases Qt.1 hr with h1 | h1
  ·exact Ab h k r h1
  exact Iw h r h1
theorem Aa {s p:Nat}{a:List Lay}(h:∀ x∈a,Pw x):∀ n,∀ r∈bj s p a n,RowI r
 | 0,r,hr=>by cases hr
 | n+1,r,hr=>by
  rcases Qt.1 hr with h1 | h1
  ·exact Aa h n r h1
  refine Ab ?_ _ r h1;rw [aw];cases b:a[n+1]? with
  | none=>exact ⟨⟨0,rfl,by decide⟩,fun m hm=>by cases hm⟩
  | some x=>exact h x (Qc b)
theorem P4:∀ x∈colK,Pw x:=by
 intro x a;simp only [colK,Qp,Rb,SA] at a;rcases a with rfl | rfl | rfl
 ·exact ⟨⟨0,Z,by decide⟩,fun m hm=>by cases hm⟩
 ·exact ⟨⟨0,Z,by decide⟩,fun m hm=>by cases hm;exact ⟨5,Z,by decide⟩⟩
 exact ⟨⟨1,Z,by decide⟩,fun m hm=>by cases hm⟩
theorem tt {z:Nat}(h:z<18446744073709551616):IntKind.u64.wrap ((z:Nat):Int)=(z:Int):=by
 simp only [IntKind.wrap,IntKind.bits,IntKind.signed];simp;omega
theorem PC {z:Nat}(h:z<9223372036854775808):IntKind.i64.wrap ((z:Nat):Int)=(z:Int):=by
 simp only [IntKind.wrap,IntKind.bits,IntKind.signed];simp;omega
def o1 (s:Nat):Nat:=(s / 2 ^ 1 &&& 6148914691236517205)+(s &&& 6148914691236517205)
def o2 (s:Nat):Nat:=(s / 2 ^ 2 &&& 3689348814741910323)+(s &&& 3689348814741910323)
def o3 (s:Nat):Nat:=(s / 2 ^ 4+s) &&& 1085102592571150095
def o4 (s:Nat):Nat:=s+s / 2 ^ 8
def o5 (s:Nat):Nat:=s+s / 2 ^ 16
def o6 (s:Nat):Nat:=s+s / 2 ^ 32
theorem o_bd:∀ s<32,o1 s<1000/\o2 (o1 s)<1000/\o2 (o1 s) / 2 ^ 4+o2 (o1 s)<1000/\o3 (o2 (o1 s))<1000/\o4 (o3 (o2 (o1 s)))<1000/\o5 (o4 (o3 (o2 (o1 s))))<1000/\o6 (o5 (o4 (o3 (o2 (o1 s)))))<1000/\o6 (o5 (o4 (o3 (o2 (o1 s))))) &&& 127=fT s:=by decide +kernel
theorem F2 (C:Mem)(s:Nat)(b:s<32):Gives cx.P 74 [.int .u64 s] C (.int .i64 (fT s:Int)):=by
 obtain ⟨h1,h2,h3,h4,h5,e,f,d⟩:=o_bd s b;exact Ud func74 35 U3 fun w0=>TT 1 [0] Z<|TU 1 Z fun R a=>Vm (s) (1) U8 dc_ U2<|Vi (s / 2 ^ 1) (6148914691236517205) U8 om_ om_ U2<|TX U6<|Vi (s) (6148914691236517205) U8 om_ om_ U2<|D.int (((o1 s:Nat):Int)) U4 (tt (by show o1 s<_;omega)) U2<|C4 1 [0] a Z<|TU 1 Z fun R a=>Vm (o1 s) (2) U8 dc_ U2<|Vi (o1 s / 2 ^ 2) (3689348814741910323) U8 om_ om_ U2<|TX U6<|Vi (o1 s) (3689348814741910323) U8 om_ om_ U2<|D.int (((o2 (o1 s):Nat):Int)) U4 (tt (by show o2 (o1 s)<_;omega)) U2<|C4 1 [0] a Z<|TU 1 Z fun R a=>Vm (o2 (o1 s)) (4) U8 dc_ U2<|TX U6<|D.int (((o2 (o1 s) / 2 ^ 4+o2 (o1 s):Nat):Int)) U4 (tt om_) U2<|Vi (o2 (o1 s) / 2 ^ 4+o2 (o1 s)) (1085102592571150095) U8 om_ om_ U2<|C4 1 [0] a Z<|TU 2 Z fun R a=>Vm (o3 (o2 (o1 s))) (8) U8 dc_ U2<|D.int (((o4 (o3 (o2 (o1 s))):Nat):Int)) U4 (tt (by show o4 (o3 (o2 (o1 s)))<_;omega)) U2<|C4 1 [0] a Z<|TU 2 Z fun R a=>Vm (o4 (o3 (o2 (o1 s)))) (16) U8 dc_ U2<|D.int (((o5 (o4 (o3 (o2 (o1 s)))):Nat):Int)) U4 (tt (by show o5 (o4 (o3 (o2 (o1 s))))<_;omega)) U2<|C4 1 [0] a Z<|TU 2 Z fun R a=>Vm (o5 (o4 (o3 (o2 (o1 s))))) (32) U8 dc_ U2<|D.int (((o6 (o5 (o4 (o3 (o2 (o1 s))))):Nat):Int)) U4 (tt (by show o6 (o5 (o4 (o3 (o2 (o1 s)))))<_;omega)) U2<|C4 1 [0] a Z<|TU 1 Z fun R a=>UJ (c:=((o6 (o5 (o4 (o3 (o2 (o1 s))))):Nat):Int)) U8 (PC om_) fl_<|VT (o6 (o5 (o4 (o3 (o2 (o1 s)))))) (127) Z Z Z Z Z Z Z Z om_ om_ Z Z<|C4 1 [2] a Z<|Ub U2<|⟨by rw [d],Z⟩
theorem ud (C:Mem)(s:Nat)(b:s<32):Gives cx.P 39 [.int .u64 s] C (.int .i64 (fT s:Int)):=by
 refine Ud func39 8 U3 fun w0=>TT 1 [0] Z<|TW (fun a=>?_) fun a=>?_
 ·cases a
 exact TU 1 Z fun R c=>Uh (F2 _ s b) U7<|C4 1 [2] c Z<|Ub U2<|⟨Z,Z⟩
theorem Kp:∀ s<32,s≠0->Lib.ctz 64 s=(ba s).headD 0:=by decide +kernel
theorem N7 (C:Mem)(a:Tabs C)(s:Nat)(b:s<32)(c:s≠0):Gives cx.P 75 [.int .u64 s] C (.int .i64 (((ba s).headD 0:Nat):Int)):=by
 rw [<- Kp s b c];exact PE Tryz.tz s om_ C kr_ a.db kr_
theorem wR (C:Mem)(a:Int):Gives cx.P 172 [.int .i64 a] C (.bool false):=by
 exact Ud func172 6 U3 fun w0=>TT 1 [0] Z<|TT 4 [2] Z<|Ub U2<|⟨by simp,Z⟩
theorem yY (C:Mem)(a b:Int):Gives cx.P 111 [.int .i64 a,.int .i64 b] C (.int .i64 (LI a b)):=by
 refine Ud func111 20 U3 fun w0=>TT 1 [0,1] Z<|TU 1 Z fun R d=>Uh (wR _ _) U7<|C4 1 [0,1,5] d Z<|TU 1 Z fun R d=>Uh (wR _ _) U7<|C4 1 [0,1,5,6] d Z<|TT 1 [0,1,6,11] Z<|TW (fun f=>?_) fun f=>?_
 ·cases f
 refine TT 1 [0,1,13] Z<|TW (fun g=>?_) fun g=>?_
 ·cases g
 refine TT 3 [0,1,16] Z<|TW (fun c=>?_) fun c=>?_
 ·refine TT 1 [4] Z<|Ub U2 ?_;simp only [Qj] at c;exact ⟨by rw [LI,aU c],Z⟩
 refine TT 3 [19] Z<|TW (fun e=>?_) fun e=>?_
 ·refine TT 1 [4] Z<|Ub U2 ?_;simp only [Qj,Qz] at c e;exact ⟨by rw [LI,az c,az om_],Z⟩
 refine TT 1 [4] Z<|Ub U2 ?_;simp only [Qz] at c e;exact ⟨by rw [LI,az c,aU om_],Z⟩
theorem yZ (C:Mem)(v w:Value)(a b:List Nat)(l:Sl C 1 v (a.map aN))(n:Sl C 1 w (b.map aN))(L:a.length<=1000000)(_M:b.length<=1000000) :
  Gives cx.P 72 [v,w] C (.int .i64 (M8 a b)):=by
 obtain ⟨A,c,rfl,_⟩:=id l;obtain ⟨B,d,rfl,_⟩:=id n;simp only [al] at l n ⊢;refine Ud func72 36 U3 fun w0=>TT 1 [0,1] Z<|TT 3 [0,1,9,10,11] Z<|G.loop (fun fr C' z D=>∃ (k:Nat),(k<=a.length/\k<=b.length/\M8 (a.drop k) (b.drop k)=M8 a b)/\fr=[(0,[],.slice A a.length c),(1,[],.slice B b.length d),(9,[],.slice A a.length c),(10,[],.int .i64 a.length),(11,[],.int .i64 k)]/\z=[]/\D=a.length-k) (hn_ [0,1,9,10,11] Z) ⟨0,⟨Qf _,Qf _,Z⟩,Z,Z,Z⟩ (fun fr N O m _ E=>?_);obtain ⟨k,⟨Q,S,g⟩,rfl,rfl,rfl⟩:=E;refine TT 1 [0,1,9,10,11,12] Z<|TW (fun o=>?_) fun o=>?_
 ·have h:k<a.length:=by simpa using o
  obtain ⟨x,t⟩:∃ x,a[k]?=some x:=⟨a[k],aj h⟩;have F:(a.map aN)[k]?=some (aN x):=by rw [Qg,t];rfl
  have p:a.drop k=x::a.drop (k+1):=by rw [QG h,(aF.1 t).2]
  refine TU 1 Z fun R f=>Ul l.m_ U10 om_ F fl_ fun T H=>TV H U8<|C4 2 [0,1,5,6,9,10,11] f Z<|TT 4 [0,1,5,6,9,10,11,19] Z<|TW (fun q=>?_) fun q=>?_
  ·have i:b.length<=k:=by simpa using q
   have j:b.drop k=[]:=Ry i;exact TT 1 [4] Z<|Ub U2<|⟨by rw [<- g,p,j];rfl,Z⟩
  have i:k<b.length:=by
   have:¬ b.length<=k:=by simpa using q
   omega
  obtain ⟨y,hy⟩:∃ y,b[k]?=some y:=⟨b[k],aj i⟩;have I:(b.map aN)[k]?=some (aN y):=by rw [Qg,hy];rfl
  have j:b.drop k=y::b.drop (k+1):=by rw [QG i,(aF.1 hy).2]
  refine TU 2 Z fun R f=>Ul n.m_ U10 om_ I fl_ fun U J=>TV J U8<|C4 1 [0,1,6,7,9,10,11] f Z<|TU 2 Z fun R f=>Uh (yY _ _ _) U7<|C4 1 [0,1,8,9,10,11] f Z<|TT 2 [0,1,8,9,10,11,28] Z<|TW (fun r=>?_) fun r=>?_
  ·have e:LI x y≠0:=by simpa using r
   refine TT 2 [4] Z<|Ub U2<|⟨?_,Z⟩;rw [<- g,p,j];simp only [M8];unfold LI at e ⊢;by_cases h1:x<y
   ·have h3:(x:Int)<y:=by omega
    rw [aU h1,aU h3]
   have h3:¬ (x:Int)<y:=by omega
   rw [az h1,az h3];rw [az h3] at e;by_cases h2:y<x
   ·have h4:¬ (x:Int)=y:=by omega
    rw [aU h2,az h4]
   have h4:(x:Int)=y:=by omega
   rw [aU h4] at e;exact absurd Z e
  have e:LI x y=0:=by simpa using r
  have K:x=y:=by
   unfold LI at e;split at e
   ·cases e
   split at e
   ·omega
   cases e
  refine TY fun R f=>Ue _ U7<|C4 1 [0,1,9,10,11] f Z<|Ug (m':=a.length-(k+1)) om_ mup (hn_ [0,1,9,10,11] Z) ⟨k+1,⟨by omega,by omega,by rw [<- g,p,j,K];simp [M8]⟩,Z,Z,Z⟩
 have h:k=a.length:=by
  have:¬ k<a.length:=by simpa using o
  omega
 subst h;rw [Rj] at g;refine TT 5 [35] Z<|TW (fun s=>?_) fun s=>?_
 ·have u:a.length<b.length:=by simpa using s
  refine TT 1 [4] Z<|Ub U2<|⟨?_,Z⟩;rw [<- g,QG u];rfl
 have u:¬ a.length<b.length:=by simpa using s
 refine TT 1 [4] Z<|Ub U2<|⟨?_,Z⟩;rw [<- g,Ry om_];rfl
theorem Gu (C:Mem)(p:Tabs C)(s:Nat)(r:s<32):Jog.Fn cx.P 41 [.int .u64 s] C [] fun u _ b=>∃ A n c,u=.slice A n c/\b=[.arr u 3 1 (ba s).length ((ba s).map aN).flatten]:=by
 have z:maxLen<=9223372036854775807:=by simp [maxLen]
 refine Ud func41 16 U3 fun w0=>TT 1 [0] Z<|TT 1 [0,3] Z<|G.nilArr 3 1<|G.loop (fun fr C' b t=>∃ (x:Nat)(q:List Nat)(d:Option Addr)(n1 e:Nat),(x<32/\q++ba x=ba s)/\fr=[(0,[],.int .u64 x),(3,[],.slice d n1 e)]/\b=[.arr (.slice d n1 e) 3 1 q.length (q.map aN).flatten]/\t=x+x) (hn_ [0,3] Z) ⟨s,[],none,0,0,⟨r,Z⟩,Z,Z,Z⟩ (fun fr B E m _ v=>?_);obtain ⟨x,q,d,n1,e,⟨f,g⟩,rfl,rfl,rfl⟩:=v;refine TT 2 [0,3,5] Z<|TW (fun h5=>?_) fun h5=>?_
 ·have a:x≠0:=by simpa using h5
  have w:=D4 x f a;have F:=D5 x f a;have H:q.length<=5:=by
   have h:=congrArg List.length g;rw [Qi] at h;have:(ba s).length<=5:=Rw _ _;omega
  refine TU 2 Z fun R i=>Uh (N7 _ p.m_ x f a) U7<|Uq [[.int .i64 (((ba x).headD 0:Nat):Int)]] U12 fun I _ _ y=>Uy (j:=0) U11 y Z ax (by show (q.length+1)*8<=_;omega) fl_ fun k l o=>C4 1 [0,3] i Z<|TU 2 Z fun R i=>D.int (((x-1:Nat):Int)) U4 (by rw [show ((x:Int)-1)=((x-1:Nat):Int) by omega];exact tt om_) U2<|Vi (x) (x-1) U8 om_ om_ U2<|C4 1 [0,3] i Z<|Um (L':=[.arr (.slice k l o) 3 1 (q++[(ba x).headD 0]).length ((q++[(ba x).headD 0]).map aN).flatten]) (by rw [QS,QW,Qi];rfl)<|Ug (m':=(x &&& (x-1))+(x &&& (x-1))) om_ mup (hn_ [0,3] Z) ⟨(x &&& (x-1)),q++[(ba x).headD 0],k,l,o,⟨by omega,by rw [QJ,List.singleton_append,<- w,g]⟩,Z,Z,Z⟩
 have a:x=0:=by simpa using h5
 subst a;refine TT 2 [2] Z<|Ui (UK Z Z ?_);exact ⟨d,n1,e,Z,by rw [<- g,show ba 0=[] from by decide,QA]⟩
theorem nW (C:Mem)(a:Tabs C)(s:Nat)(b:s<32):Pur cx.P 41 [.int .u64 s] C fun u D=>Sl D 1 u ((ba s).map aN) :=
 WC (t:=3) (n:=(ba s).length) (fun r hr=>by
  obtain ⟨x,_,rfl⟩:=Qk.1 hr;rfl) (al _) (Fn.mono (Gu C a s b) fun u C' d _ ⟨A,n,c,h1,h2⟩=>h2)
theorem Lh (s:Nat):fT s<=5:=Rw _ _
theorem NG (C:Mem)(e:Tabs C)(a b:Nat)(f:a<32)(g:b<32):Gives cx.P 71 [.int .u64 a,.int .u64 b] C (.int .i64 (Kx a b)):=by
 have j:=Lh a;have k:=Lh b;refine Ud func71 19 U3 fun w0=>?_;refine TT 1 [0,1] Z ?_;refine TU 1 Z fun R c=>?_;refine Uh (ud _ a f) U7 ?_;refine TX U6 ?_;refine Uh (ud _ b g) U7 ?_;refine Ue _ U7 ?_;refine C4 1 [0,1,5] c Z ?_;refine TT 2 [0,1,5,12] Z ?_;refine TW (fun d=>?_) fun d=>?_
 ·have i:(fT a:Int)-fT b≠0:=by simpa using d
  refine TT 2 [4] Z ?_;refine Ub U2 ?_;refine ⟨?_,Z⟩;unfold Kx;rw [az (fun h=>i (by rw [h];omega))]
 have i:(fT a:Int)-fT b=0:=by simpa using d
 refine TU 1 Z fun R c=>?_;refine UF (nW _ e.m_ a f) U7 (fun n _ _ l=>?_);refine TX U6 ?_;refine UF (nW _ e.m_ b g) U7 (fun o _ _ m=>?_);refine Uk (yZ _ _ _ _ _ l.m_ m.m_ (Qy j dc_) (Qy k dc_)) U7 fl_ ?_;refine C4 1 [4] c Z ?_;refine Ub U2 ?_;refine ⟨?_,Z⟩;unfold Kx;rw [aU om_]
open Go Go.Jog Go.Shelf
set_option maxRecDepth 100000
def uV (s:Nat):Value:=.int .u64 (s:Nat)
theorem LY (l:List Nat):l.map uV=(l.map cj).flatten:=(eo uV l).symm
abbrev Pe:Type:={ s:Nat // s<32 }
instance:Inhabited Pe:=⟨⟨0,by decide⟩⟩
theorem Kw:Sort.SWO (ltOf fun (x y:Pe)=>Kx x.1 y.1) where
 irrefl x:=by unfold ltOf;exact QC (fun h=>by have:=(eQ x.1 x.2 x.1 x.2).1 h;omega)
 trans x y z h1 h2:=by
  unfold ltOf at *;simp only [Qj] at *;rw [eQ x.1 x.2 y.1 y.2] at h1;rw [eQ y.1 y.2 z.1 z.2] at h2;rw [eQ x.1 x.2 z.1 z.2];omega
 ntrans x y z h1 h2:=by
  unfold ltOf at *;simp only [Qz] at *;rw [eQ x.1 x.2 y.1 y.2] at h1;rw [eQ y.1 y.2 z.1 z.2] at h2;rw [eQ x.1 x.2 z.1 z.2];omega
theorem vV:∀ l:List Nat,(∀ s∈l,s<32)->∃ q:List Pe,q.map (·.1)=l
 | [],_=>⟨[],rfl⟩
 | s::l,h=>by
  obtain ⟨q,a⟩:=vV l fun s hs=>h s (Qm _ hs);exact ⟨⟨s,h s Pz⟩::q,by rw [QO,a]⟩
theorem IE (C:Mem)(e:Tabs C)(v:Value)(n:Nat)(b:n<6) :
  Jog.Fn cx.P 70 [v,.func (.func 71) #[] #[]] C [.arr v 99 1 (2 ^ n) ((List.range (2 ^ n)).map uV)] fun u _ c=>u=.tuple #[]/\c=[.arr v 99 1 (2 ^ n) ((bT n).map uV)]:=by
 have p:=yp b;obtain ⟨q,a⟩:=vV (List.range (2 ^ n)) fun s hs=>by have:=Qw.1 hs;omega
 have g:q.length=2 ^ n:=by rw [<- al (f:=(·.1)),a,Q5]
 have d:=CI (P:=cx.P) (α:=Pe) Tryz.sortU (fun x=>uV x.1) (fun x=>rfl) (fun x y=>Kx x.1 y.1) Kw 71 [] C
  (fun x y C' i=>NG C' (e.mono i) x.1 y.1 x.2 y.2) v 99 q om_ kr_ kr_
 rw [g,show q.map (fun x:Pe=>uV x.1)=(q.map (·.1)).map uV by rw [Q1];rfl,a] at d;refine Fn.mono d (fun u C' c _ ⟨j,k1,k2,k,l⟩=>⟨k1, ?_⟩);have m:(j.map (·.1)).Perm (List.range (2 ^ n)):=by rw [<- a];exact k.map _
 have o:=vU b m (by
  rw [List.pairwise_map];refine l.imp fun {x y} h=>?_;unfold ltOf at h;exact Qe h)
 rw [k2,<- o,Q1];rfl
theorem Ml (C:Mem)(q:Tabs C)(g n:Nat)(r s t v w:Value)(x:Option Addr)(y:Nat)(B:C g=some (.cells ⟨[r,s,t,v,.slice x n y,w]⟩ 153 (0,0)))(h:n<6) :
  Jog.Fn cx.P 38 [.pointer (some ⟨g,0,none⟩)] C [] fun u _ b=>∃ A n2 c,u=.slice A n2 c/\b=[.arr u 99 1 (2 ^ n) ((bT n).map uV)]:=by
 have J:maxLen<=9223372036854775807:=by simp [maxLen]
 have K:=yp h;refine Ud func38 23 U3 fun w0=>TT 1 [0] Z<|TT 1 [0,3] Z<|TU 4 Z fun R a=>TV (bkT B 1) U8<|TX U6<|VE (n) Z Z Z Z Z Z (by first | exact .inl Z | exact .inr Z) Z om_ Z Z<|C4 1 [3,11,12] a Z<|G.nilArr 99 1<|G.loop (fun fr C' b E=>∃ (i:Nat)(d:Option Addr)(n1 e:Nat),(i<=2 ^ n)/\fr=[(3,[],.slice d n1 e),(11,[],.int .u64 ((2 ^ n:Nat):Int)),(12,[],.int .u64 i)]/\b=[.arr (.slice d n1 e) 99 1 i ((List.range i).map uV)]/\E=2 ^ n-i) (hn_ [3,11,12] Z) ⟨0,none,0,0,Qf _,Z,Z,Z⟩ (fun fr L M m _ F=>?_);obtain ⟨i,d,n1,e,N,rfl,rfl,rfl⟩:=F;refine TT 1 [3,11,12,13] Z<|TW (fun f=>?_) fun f=>?_
 ·have k:i<2 ^ n:=by
   have:=aJ f;omega
  refine TT 2 [3,4,11,12] Z<|TU 2 Z fun R a=>Uq [[uV i]] U12 fun O _ _ H=>Uy (j:=0) U11 H Z ax (by show (i+1)*8<=_;omega) fl_ fun l o p=>C4 1 [3,11,12] a Z<|TY fun R a=>D.int (((i+1:Nat):Int)) U4 (tt (z:=i+1) om_) U2<|C4 1 [3,11,12] a Z<|Um (L':=[.arr (.slice l o p) 99 1 (i+1) ((List.range (i+1)).map uV)]) (by rw [Re,QS];rfl)<|Ug (m':=2 ^ n-(i+1)) om_ mup (hn_ [3,11,12] Z) ⟨i+1,l,o,p,om_,Z,Z,Z⟩
 have k:i=2 ^ n:=by
  have:=Qe f;omega
 subst k;refine Uv [(1,3)] Z fun R a=>TX U6<|D.call (IE _ q.m_ _ n h) Z (.inr dc_) U6 (Qh _) fl_ fun Q _ S _ I=>TZ [3] a Z ?_;obtain ⟨rfl,rfl⟩:=I;refine TT 2 [2] Z<|Ui (UK Z Z ?_);exact ⟨d,n1,e,Z,Z⟩
theorem PU {p:Nat}(h:s*p<=60):ofE z s p=z:=by
 unfold ofE;split
 ·rfl
 rename_i h2;have:z=0:=by simpa using h2
 rw [az om_,this]
theorem yW (C:Mem)(a:Value)(B:Bk)(z:Int)(b:BookZ C a B z)(h:bs B*bp B<=60):Gives cx.P 35 [a] C (.tuple #[.int .i64 (if z=0 then ((bs B*bp B:Nat):Int) else 0),.int .i64 z]):=by
 have h1:=Kr C a B z b;rw [PU h] at h1;exact h1
def ml (n:Nat)(l:List Int)(i:Nat):Int:=if l.getD i 0<0∨(n:Int)<=l.getD i 0 then 3 else if 0<i/\l.getD i 0<=l.getD (i-1) 0 then 6 else 0
def NX (n:Nat)(l:List Int):Int:=bS (ml n l) l.length
theorem Kz (C:Mem)(g j:Value)(B:Bk)(z:Int)(l:List Int)(t:BookZ C g B z)(J:bs B*bp B<=60)(e:Sl C 1 j (l.map lZ))(W:l.length<=1000)
  (w:z=0->NX B.obs.length l=0->∀ D:Mem,C.le D->Pur cx.P 52 [g,j] D fun u _=>∃ v,u=.tuple #[v,.int .i64 0]) :
  Gives cx.P 49 [g,j] C (.int .i64 (if z≠0 then z else NX B.obs.length l)):=by
 have x:=t;obtain ⟨X,Y,tv,cv,ov,rfl,h1,h2,h3,h4,h5⟩:=id t.i.ex;obtain ⟨A5,c5,rfl,K,aa,_⟩:=id h5;obtain ⟨y,A,rfl,L,ab,_⟩:=id e;have ac:maxLen<=9223372036854775807:=by simp [maxLen]
 simp only [al] at h5 K x e L w ⊢;refine Ud func49 56 U3 fun w0=>TY fun R a=>Up U6 fun M=>C4 1 [1,2] a Z<|G.freeze 0 Z fun _ _ n=>TY fun R a=>TV (bkT n 5) U8<|Uh (yW _ _ B z x.m_ J) U7<|C4 5 [1,2,6] a Z<|TT 2 [1,2,6,17] Z<|TW (fun o=>?_) fun o=>?_
 ·have f:z≠0:=by simpa using o
  exact TT 2 [4] Z<|Ub U2<|⟨by rw [aU f],Z⟩
 have f:z=0:=by simpa using o
 rw [az (fun h=>h f)];refine TT 3 [1,2,19,20,21] Z<|G.loop (fun fr C' N O=>∃ (i:Nat),(i<=l.length/\bS (ml B.obs.length l) i=0)/\fr=[(1,[],.slice y l.length A),(2,[],.pointer (some ⟨M,0,none⟩)),(19,[],.slice y l.length A),(20,[],.int .i64 l.length),(21,[],.int .i64 i)]/\N=[]/\O=l.length-i) (hn_ [1,2,19,20,21] Z) ⟨0,⟨Qf _,Z⟩,Z,Z,Z⟩ (fun fr ad ae m _ Q=>?_);obtain ⟨i,⟨hi,c⟩,rfl,rfl,rfl⟩:=Q;refine TT 1 [1,2,19,20,21,22] Z<|TW (fun p=>?_) fun p=>?_
 ·have d:i<l.length:=by
   have:=aJ p;omega
  obtain ⟨k,E⟩:∃ k,l[i]?=some k:=⟨l[i],aj d⟩;obtain ⟨k1,F⟩:∃ k1,l[i-1]?=some k1:=⟨l[i-1]'om_,aj om_⟩;have q:l.getD i 0=k:=by rw [aw,E,Rr]
  have H:l.getD (i-1) 0=k1:=by rw [aw,F,Rr]
  refine TU 1 Z fun R a=>Ul e.m_ U10 om_ (bX E) fl_ fun af S=>TV S U8<|C4 2 [1,2,7,8,19,20,21] a Z<|TU 5 Z fun R a=>Ux U6 (fun _=>PtrTo.blockT (Mem.get n mup) _ 1) U3<|Ua 2 Z<|UB U8<|C4 1 [1,2,7,8,19,20,21,26] a Z<|TW (fun r=>?_) fun r=>?_
  ·have b:ml B.obs.length l i=3:=by
    unfold ml;rw [q,aU (by simp only [RR,Qj] at r;omega)]
   exact TT 1 [4] Z<|Ub U2<|⟨by unfold NX;rw [fX c (by rw [b];decide) d,b],Z⟩
  have I:¬ (k<0∨(B.obs.length:Int)<=k):=by
   simp only [RH,Qz] at r;omega
  refine TU 6 Z fun R a=>Ue _ U7<|D.index U10 (fun T=>⟨e.mono mup,(by have h:decide ((i:Int) > 0)=true:=T.1;have:=aJ h;omega),(by rw [show ((i:Int)-1).toNat=i-1 by omega];exact bX F)⟩) fl_ Z fun ag U=>Ux U6 U U3<|TX U6<|Uu U8<|C4 1 [1,2,19,20,21,36] a Z<|TW (fun s=>?_) fun s=>?_
  ·have b:ml B.obs.length l i=6:=by
    unfold ml;rw [q,H,az I,aU (by simp only [Qn,Qj] at s;omega)]
   exact TT 1 [4] Z<|Ub U2<|⟨by unfold NX;rw [fX c (by rw [b];decide) d,b],Z⟩
  have b:ml B.obs.length l i=0:=by
   unfold ml;rw [q,H,az I,az (fun h=>by simp only [Tu,Qz] at s;omega)]
  refine TY fun R a=>Ue _ U7<|C4 1 [1,2,19,20,21] a Z<|Ug (m':=l.length-(i+1)) om_ mup (hn_ [1,2,19,20,21] Z) ⟨i+1,⟨by omega,ig c b⟩,Z,Z,Z⟩
 have d:i=l.length:=by
  have:=Qe p;omega
 subst d;refine TY fun R a=>TV (bkT n 5) U8<|TX U6<|UF (w f c _ mup) U7 (fun ah _ _ V=>?_);obtain ⟨rv,rfl⟩:=V;exact C4 5 [10] a Z<|TT 2 [4] Z<|Ub U2<|⟨by rw [show NX B.obs.length l=0 from c],Z⟩
theorem DH (h:FeasO p t u):∃ (row:Int)(a:Bool),u=.tuple #[.int .i64 row,.bool a]/\(a=true->t.Feas p.n) /\
  (a=false->∃ r:Nat,row=r/\r<t.basic.length/\p.n<=t.bas r/\(t.line r).c<0/\∀ s,s<t.others.length->p.n<=t.oth s->(t.line r).g s<=0):=by
 cases h with
 | yes h=>exact ⟨0,true,rfl,fun _=>h,fun h=>by cases h⟩
 | no r h1 h2 h3 h4=>exact ⟨r,false,rfl,fun h=>(by cases h),fun _=>⟨r,rfl,h1,h2,h3,h4⟩⟩
theorem Gd (h:MinO p t u):∃ (b:Int)(a:Bool),u=.tuple #[.int .i64 b,.bool a]/\(a=true->Lp.RelW p.n t/\∀ s,s<t.others.length->p.n<=t.oth s->0<=t.worth.g s) /\
  (a=false->∃ s:Nat,b=s/\s<t.others.length/\kV t s*t.worth.g s<0/\(∀ i,i<t.basic.length->p.n<=t.bas i->0<=kV t s*(t.line i).g s)/\(p.n<=t.oth s->0<=kV t s)):=by
 cases h with
 | yes h1 h2=>exact ⟨0,true,rfl,fun _=>⟨h1,h2⟩,fun h=>by cases h⟩
 | no s h1 h2 h3 h4=>exact ⟨s,false,rfl,fun h=>(by cases h),fun _=>⟨s,rfl,h1,h2,h3,h4⟩⟩
inductive SolO (p:Lp.Sys) (cc:Nat->Rat) (D:Mem):Value->Prop where
 | opt (val:Rat) (pt du:Nat->Rat) (vp vd:Value):Lp.OptR p cc 16 val pt du->Sl D 1 vp (((List.range p.n).map pt).map aW)->Sl D 1 vd (((List.range p.m).map du).map aW)->SolO p cc D (.agg ⟨[.int .i64 1,ah (qtx val),vp,vd,.slice none 0 0]⟩)
 | inf (du:Nat->Rat) (vd:Value):Lp.InfR p 16 du->Sl D 1 vd (((List.range p.m).map du).map aW)->SolO p cc D (.agg ⟨[.int .i64 2,ah [],.slice none 0 0,vd,.slice none 0 0]⟩)
 | unb (pt ra:Nat->Rat) (vp vr:Value):Lp.UnbR p cc 16 pt ra->Sl D 1 vp (((List.range p.n).map pt).map aW)->Sl D 1 vr (((List.range p.n).map ra).map aW)->SolO p cc D (.agg ⟨[.int .i64 3,ah [],vp,.slice none 0 0,vr]⟩)
theorem I7 :kV t s=1∨kV t s=-1:=by unfold kV;split <;> simp
theorem IF (C:Mem)(x:Tabs C)(n:Nat)(V F:Value)(k:List (List Rat × Rat))(l:List Rat)(H:RowsT C V (k.map gN))(ho:Sl C 1 F (l.map aW))(X:RowsQ n k)(Y:n<=1000)(ai:l.length=n)(f:Lp.Lim (eH n k) (fun j=>l.getD j 0) 16) :
  Pur cx.P 77 [.agg ⟨[.int .i64 n,V,F]⟩] C fun u D=>SolO (eH n k) (fun j=>l.getD j 0) D u:=by
 have aS:maxLen<=9223372036854775807:=by simp [maxLen]
 have hm:=X.m;have aj:=H;obtain ⟨vs,ak,_,an⟩:=aj;obtain ⟨Ar,cr,rfl,_⟩:=id an;rw [tm ak,al] at H ⊢;obtain ⟨p,I⟩:∃ p,eH n k=p:=⟨_,rfl⟩;obtain ⟨cc,ao⟩:∃ cc:Nat->Rat,(fun j=>l.getD j 0)=cc:=⟨_,rfl⟩;have ap:p.n=n:=by rw [<- I];rfl
 have aq:p.m=k.length:=by rw [<- I];rfl
 have z:=fun (D:Mem)(J:C.le D)=>Jl D (x.mono J) n (.slice Ar k.length cr) F k l (H.mono J) (ho.mono J) X Y ai;rw [I,ao] at f z ⊢;rw [<- ap] at z Y ⊢;rw [<- aq] at z ⊢;refine Ud func77 57 U3 fun w0=>?_;refine TY fun R a=>?_;refine Up U6 (fun b1=>?_);refine Uo U5 (fun b2=>?_);refine TZ [1,2] a Z ?_;clear a R;refine G.freeze 1 Z (fun _ _ K=>?_);refine Uv [(1,3)] Z (fun R a=>?_);refine TV (bkT K 3) U8 ?_;refine D.call (z _ mup) Z (.inr dc_) U6 (Qh _) fl_ (fun v9 C9 L9 _ ar=>?_);obtain ⟨b,wB,wL,wO,wW,wF,rfl,rfl⟩:=ar;refine C4 1 [1,2,3] a Z ?_;clear a R;refine Uv [(1,3)] Z (fun R a=>?_);refine TX U6 ?_;refine D.call (CV _ x.m_ p cc b _ wB wL wO wW wF Lp.openT_inv Z f om_ om_) Z (.inr dc_) U6 (Qh _) fl_ (fun aT _ aU _ au=>?_);refine TZ [1,2,3] a Z ?_;clear a R;obtain ⟨-,t1,av,aw,ax,rfl⟩:=au;refine Uv [(1,3)] Z (fun R a=>?_);refine TX U6 ?_;refine D.call (yO _ x.m_ p cc b t1 wB wL wO wW av aw ax f om_ om_) Z (.inr dc_) U6 (Qh _) fl_ (fun aV _ aX _ ay=>?_);obtain ⟨t,aa,w,ab,hF,rfl⟩:=ay;obtain ⟨row,is,rfl,az,aA⟩:=DH hF;refine C4 5 [1,2,3,4,5] a Z ?_;clear a R;refine TT 2 [1,2,3,4,18] Z ?_;refine TW (fun L=>?_) fun L=>?_
 ·have M:is=false:=by simpa using L
  obtain ⟨r,rfl,N,ac,aB,aC⟩:=aA M;refine Vs (eY b p.n t wB wL wO wW aa) (fZ w.tab.ok) (fun C5 _ y=>?_);have h:=eS w.tab.ok y;refine TU 3 Z fun R a=>?_;refine TV (bkT K 1) U8 ?_;refine TX U6 ?_;refine Uz (I6 _ p b r t wB wL wO wW _ h.m_ w.tab om_ N ac (fun q=>(w.dualQ f dc_ N q).le dc_)) U7 fl_ (fun aY _ _ aD=>?_);obtain ⟨g,rfl,hg⟩:=aD;refine Un [.int .i64 2,ah [],.slice none 0 0,.slice (some ⟨g,0,none⟩) p.m p.m,.slice none 0 0] U8 ?_;refine Uf (j:=0) U12 ?_;refine TZ [2] a Z ?_;clear a R;refine Ui (UN af U4 ?_);exact ⟨Z,.inf _ _ (w.inf f dc_ ab N ac aB aC) hg.m_⟩
 have M:is=true:=by simpa using L
 have aE:=az M;refine Uv [(1,3)] Z (fun R a=>?_);refine TX U6 ?_;refine D.call (yu _ x.m_ p cc b t wB wL wO wW aa w ab aE f om_ om_) Z (.inr dc_) U6 (Qh _) fl_ (fun aZ _ a0 _ aF=>?_);obtain ⟨d,ad,e,ae,hM,rfl⟩:=aF;obtain ⟨a1,ag,rfl,aG,aH⟩:=Gd hM;refine C4 5 [1,2,3,6,7] a Z ?_;clear a R;refine TT 2 [1,2,3,6,32] Z ?_;refine TW (fun O=>?_) fun O=>?_
 ·have Q:ag=false:=by simpa using O
  obtain ⟨s,rfl,A,aJ,aK,aL⟩:=aH Q;refine Vs (eY b p.n d wB wL wO wW ad) (fZ e.tab.ok) (fun C5 _ y=>?_);have h:=eS e.tab.ok y;refine Uv [(1,3),(4,3)] Z (fun R a=>?_);refine TX U6 ?_;refine D.call (AZ _ b p.n (p.n+p.m) d wB wL wO wW _ h.m_ e.tab.ok om_) Z (.inr dc_) U6 (Qh _) fl_ (fun a2 _ a3 _ aM=>?_);obtain ⟨S,rfl,rfl⟩:=aM;refine Ua 2 Z ?_;refine D.call (Oz _ x.m_ p b s d wB wL wO wW _ h.m_ e.tab A om_ (fun i hi=>e.fac f hi A) (e.wfac f A)) Z (.inr dc_) U6 (Qh _) fl_ (fun a4 _ a5 _ aN=>?_);obtain ⟨B,rfl,rfl⟩:=aN;refine Un [.int .i64 3,ah [],.slice (some ⟨S,0,none⟩) p.n p.n,.slice none 0 0,.slice (some ⟨B,0,none⟩) p.n p.n] U8 ?_;refine Uf (j:=2) U12 ?_;refine TZ [2] a Z ?_;clear a R;refine G.freezeArr 1 (((List.range p.n).map fun v=>kV d s*d.dir s v).map aW) Z Z dJ am (fun C8 _ T=>?_);refine G.freezeArr 1 (((List.range p.n).map d.sol).map aW) Z Z dJ am (fun C9 _ U=>?_);refine Ui (UN af U4 ?_);exact ⟨Z,.unb _ _ _ _ (e.unb f dc_ ae A I7 aJ aK aL) U T.m_⟩
 have Q:ag=true:=by simpa using O
 obtain ⟨aO,aP⟩:=aG Q;refine Vs (eY b p.n d wB wL wO wW ad) (fZ e.tab.ok) (fun C5 _ y=>?_);have h:=eS e.tab.ok y;refine Ur [0,1,2,3,4,5,7,8,9,10,11,12,13,14,6,15,16,17,18] [(6,3),(15,3),(4,0),(11,0),(13,0)] Z kr_ (fun R E a=>?_);refine Ua 4 Z ?_;refine U0 (fun _=>((PtrTo.blockT h.o _ 1).mono E)) U9 ?_;refine Ua 5 Z ?_;refine U0 (fun _=>((PtrTo.blockT h.o _ 2).mono E)) U9 ?_;refine TX U6 ?_;refine U0 (fun _=>((bkT K 1).mono E)) U9 ?_;refine TX U6 ?_;refine D.call (AZ _ b p.n (p.n+p.m) d wB wL wO wW _ h.m_ e.tab.ok om_) Z (.inr dc_) U6 (Qh _) fl_ (fun a6 _ a7 _ aQ=>?_);refine D.call (G6 _ p b d d.worth wB wL wO wW wW _ h.m_ e.tab om_ h.W.m_ e.tab.ok.wl) Z (.inr dc_) U6 (Qh _) fl_ (fun a8 _ a9 _ aR=>?_);obtain ⟨B,rfl,rfl⟩:=aR;obtain ⟨S,rfl,rfl⟩:=aQ;refine Un [.slice (some ⟨B,0,none⟩) p.m p.m] U8 ?_;refine Un [.int .i64 1,ah (qtx d.worth.c),.slice (some ⟨S,0,none⟩) p.n p.n,.slice (some ⟨B,0,none⟩) p.m p.m,.slice none 0 0] U8 ?_;refine Uf (j:=2) U12 ?_;refine TZ [2] a Z ?_;clear a E R;refine G.freezeArr 1 (((List.range p.m).map (Lp.dualV p d d.worth)).map aW) Z Z dJ am (fun C8 _ T=>?_);refine G.freezeArr 1 (((List.range p.n).map d.sol).map aW) Z Z dJ am (fun C9 _ U=>?_);refine Ui (UN af U4 ?_);exact ⟨Z,.opt _ _ _ _ _ (e.opt f dc_ ae aO aP) U T.m_⟩
theorem Nh (C:Mem)(n:Nat)(j:n<=1000000):Jog.Fn cx.P 186 [.slice none 0 0,.int .i64 n] C [] fun u _ h=>∃ A n2 c,u=.slice A n2 c/\h=[.arr u 56 1 0 []]:=by
 have k:maxLen<=9223372036854775807:=by simp [maxLen]
 refine Ud func186 27 U3 fun w0=>TT 1 [0,1] Z<|TT 2 [0,1,6] Z<|TW (fun d=>?_) fun d=>?_
 ·simp at d;omega
 refine TU 2 Z fun R a=>VS Z Z Z Z Z Z Z Z Z<|Ua 2 Z<|Ue _ U7<|Ue _ U7<|C4 1 [0,1] a Z<|TT 2 [0,1,16] Z<|TW (fun f=>?_) fun f=>?_
 ·have i:0<n:=by
   simp at f;omega
  refine TU 2 Z fun R a=>VS Z Z Z Z Z Z Z Z Z<|UR 0 0 0 U12 (fun _=>⟨.inl ⟨Z,Z⟩,.inr ⟨_,Z⟩,.inl ⟨Z,Z⟩,Qb _,Qb _,Qb _⟩) U2<|TX U6<|Ws (m:=n) Z Z Z Z Z Z Z Z Z Z Z Z i (by show n*16<=_;omega) (by simp only [maxLen];omega) fl_ fun b g l=>Ua 2 Z<|UR 0 0 g U12 (fun _=>⟨.inl ⟨Z,Z⟩,.inr ⟨_,Z⟩,.inl ⟨Z,Z⟩,Qb _,Qf _,Qb _⟩) U2<|C4 1 [0] a Z<|TT 2 [4] Z<|WJ 0 0 Z (Qf _)<|Ui (UK Z Z ?_);refine ⟨_,_,_,Z, ?_⟩;have e:(if g=0 then some (⟨b,0,none⟩:Addr) else (some (⟨b,0,none⟩:Addr)).map (·.add (0*1)))=some ⟨b,0,none⟩:=by
   split
   ·rfl
   simp [Addr.add_lit]
  rw [e];simp
 refine TT 2 [4] Z<|G.nilArr 56 1<|Ui (UK Z Z ?_);exact ⟨none,0,0,Z,Z⟩
def nD (xs:List (Value × List Rat)):List Rat:=(xs.map (·.2)).flatten
theorem xw {a:List (Value × List Rat)}{x:Value × List Rat}(h:a[i]?=some x):nD (a.take (i+1))=nD (a.take i)++x.2:=by
 unfold nD;rw [QF,h];simp
theorem HA (a:List (Value × List Rat))(i:Nat):(nD (a.take i)).length<=(nD a).length:=by
 have h:nD a=nD (a.take i)++nD (a.drop i):=by
  unfold nD;rw [<- QW,<- QS,Rh]
 rw [h,Qi];omega
def No (x:Value × List Rat):List Value:=[x.1]
theorem Ht (C:Mem)(v:Value)(a:List (Value × List Rat))(h:Sl C 1 v (a.map No))(B:∀ x∈a,Sl C 1 x.1 (x.2.map aW))(K:(nD a).length<=1000000) :
  Jog.Fn cx.P 122 [v] C [] fun u _ e=>∃ A n2 c,u=.slice A n2 c/\e=[.arr u 56 1 (nD a).length ((nD a).map aW).flatten]:=by
 obtain ⟨p,c0,rfl,L,X,_⟩:=id h;have Y:maxLen<=9223372036854775807:=by simp [maxLen]
 simp only [al] at h L ⊢;refine Ud func122 36 U3 fun w0=>TT 1 [0] Z<|TT 1 [0,3] Z<|TT 3 [0,3,9,10,11] Z<|G.loop (fun fr C' e q=>∃ (i:Nat)(z:Int),(i<=a.length/\z=(nD (a.take i)).length)/\fr=[(0,[],.slice p a.length c0),(3,[],.int .i64 z),(9,[],.slice p a.length c0),(10,[],.int .i64 a.length),(11,[],.int .i64 i)]/\e=[]/\q=a.length-i) (hn_ [0,3,9,10,11] Z) ⟨0,0,⟨Qf _,Z⟩,Z,Z,Z⟩ (fun fr aa ab m _ r=>?_);obtain ⟨i,z,⟨hi,s⟩,rfl,rfl,rfl⟩:=r;refine TT 1 [0,3,9,10,11,12] Z<|TW (fun t=>?_) fun t=>?_
 ·have f:i<a.length:=by
   have:=aJ t;omega
  obtain ⟨x,d⟩:∃ x,a[i]?=some x:=⟨a[i],aj f⟩;have g:=B x (Qc d);obtain ⟨w,l⟩:=x;simp only at g;obtain ⟨Ax,ac,rfl,M,ad,_⟩:=id g;simp only [al] at g M d;have k:=xw d;have E:=HA a (i+1);have N:(nD (a.take (i+1))).length=(nD (a.take i)).length+l.length:=by rw [k,Qi]
  refine TY fun R b=>Ul h.m_ U10 om_ (show (a.map No)[i]?=some [_] from gb d) fl_ fun ae O=>TV O U8<|C4 1 [0,3,5,9,10,11] b Z<|TU 3 Z fun R b=>Ue _ U7<|C4 1 [0,3,9,10,11] b Z<|TT 2 [0,3,9,10,11,20] Z<|TW (fun F=>?_) fun F=>?_
  ·exfalso;have af:=aJ F;omega
  refine TY fun R b=>Ue _ U7<|C4 1 [0,3,9,10,11] b Z<|Ug (m':=a.length-(i+1)) om_ mup (hn_ [0,3,9,10,11] Z) ⟨i+1,_,⟨by omega,by rw [s];omega⟩,Z,Z,Z⟩
 have f:i=a.length:=by
  have:=Qe t;omega
 rw [f,Qo] at s;subst s;refine Uv [(1,3)] Z fun R b=>TX U6<|D.call (Nh _ (nD a).length K) Z (.inr dc_) U6 (Qh _) fl_ (fun ag _ ai _ Q=>?_);obtain ⟨S,T,U,rfl,rfl⟩:=Q;refine C4 1 [0,6] b Z<|TT 3 [6,25,26,27] Z<|G.loop (fun fr C' e q=>∃ (i:Nat)(n:Option Addr)(n1 o:Nat),(i<=a.length)/\fr=[(6,[],.slice n n1 o),(25,[],.slice p a.length c0),(26,[],.int .i64 a.length),(27,[],.int .i64 i)]/\e=[.arr (.slice n n1 o) 56 1 (nD (a.take i)).length ((nD (a.take i)).map aW).flatten]/\q=a.length-i) (hn_ [6,25,26,27] Z) ⟨0,S,T,U,Qf _,Z,Z,Z⟩ (fun fr ak am m E r=>?_);obtain ⟨i,n,n1,o,an,rfl,rfl,rfl⟩:=r;refine TT 1 [6,25,26,27,28] Z<|TW (fun y=>?_) fun y=>?_
 ·have f:i<a.length:=by
   have:=aJ y;omega
  obtain ⟨x,d⟩:∃ x,a[i]?=some x:=⟨a[i],aj f⟩;have g:=B x (Qc d);have k:=xw d;have E:=HA a (i+1);have N:(nD (a.take (i+1))).length=(nD (a.take i)).length+x.2.length:=by rw [k,Qi]
  refine TY fun R b=>Ul h.m_ U10 om_ (show (a.map No)[i]?=some [x.1] from gb d) fl_ fun ao V=>TV V U8<|C4 1 [6,8,25,26,27] b Z<|TU 2 Z fun R b=>Uy (j:=0) U11 g.m_ (by simp [aW,mD,ah]) (by simp only [al,maxLen];omega) (by show ((nD (a.take i)).length+(x.2.map aW).length)*16<=_;rw [al];omega) fl_ fun H I J=>C4 1 [6,25,26,27] b Z<|TY fun R b=>Ue _ U7<|C4 1 [6,25,26,27] b Z<|Um (L':=[.arr (.slice H I J) 56 1 (nD (a.take (i+1))).length ((nD (a.take (i+1))).map aW).flatten]) (by rw [k,QS,QW,Qi,al];rfl)<|Ug (m':=a.length-(i+1)) om_ mup (hn_ [6,25,26,27] Z) ⟨i+1,H,I,J,om_,Z,Z,Z⟩
 have W:i=a.length:=by
  have:=Qe y;omega
 refine TT 2 [2] Z<|Ui (UK Z Z ?_);exact ⟨n,n1,o,Z,by rw [W,Qo]⟩
theorem IR (C:Mem)(N:Tabs C)(o:Int)(y:Str)(f g i:Value)(a b c:List Rat)(z:Sl C 1 f (a.map aW))(A:Sl C 1 g (b.map aW))(B:Sl C 1 i (c.map aW))(O:∀ x∈a,QB 16 x)(Q:∀ x∈b,QB 16 x)(S:∀ x∈c,QB 16 x)(ae:a.length<=1000)(af:b.length<=1000)(ag:c.length<=1000)
  (T:o=1->∃ q,y=qtx q/\QB 16 q):Gives cx.P 78 [.agg ⟨[.int .i64 o,ah y,f,g,i]⟩] C (.bool true):=by
 have E:nD [(f,a),(g,b),(i,c)]=a++(b++(c++[])):=rfl;have F:(nD [(f,a),(g,b),(i,c)]).length<=1000000:=by rw [E];simp;omega
 obtain ⟨all,H⟩:∃ all,nD [(f,a),(g,b),(i,c)]=all:=⟨_,rfl⟩;have I:∀ x∈all,QB 16 x:=fun x d=>by
  rw [<- H,E] at d;simp only [Qt,Rb,SA] at d;rcases d with h | h | h
  ·exact O x h
  ·exact Q x h
  exact S x h
 have U:∀ l:List Rat,(∀ x∈l,QB 16 x)->((l.map qtx).any fun s=>!aZ s)=false:=fun l V=>List.any_eq_false.2 fun s hs=>by
  obtain ⟨x,d,rfl⟩:=Qk.1 hs;rw [bO ((V x d).le dc_)];decide
 obtain ⟨p,r,rfl,_⟩:=id z;obtain ⟨t,u,rfl,_⟩:=id A;obtain ⟨v,w,rfl,_⟩:=id B;have W:∀ D:Mem,C.le D->∀ x∈[(Value.slice p (a.map aW).length r,a),(Value.slice t (b.map aW).length u,b),(Value.slice v (c.map aW).length w,c)],Sl D 1 x.1 (x.2.map aW):=fun D k x d=>by
  simp only [Qp,Rb,SA] at d;rcases d with h | h | h
  ·rw [h];exact z.mono k
  ·rw [h];exact A.mono k
  rw [h];exact B.mono k
 refine Ud func78 24 U3 fun w0=>TY fun R e=>Up U6 fun b1=>C4 1 [1] e Z<|G.freeze 0 Z fun _ _ m=>Uv [(8,3)] Z fun R e=>TX U6<|TV (bkT m 1) U8<|Ua 2 Z<|TV (bkT m 1) U8<|TX U6<|TV (bkT m 1) U8<|Uq [[.slice p (a.map aW).length r],[.slice t (b.map aW).length u],[.slice v (c.map aW).length w]] U12 fun ai _ _ X=>D.call (Ht _ _ [(.slice p (a.map aW).length r,a),(.slice t (b.map aW).length u,b),(.slice v (c.map aW).length w,c)] X.m_ (W _ mup) F) Z (.inr dc_) U6 (Qh _) fl_ (fun aj _ ak _ Y=>?_);obtain ⟨A3,n3,c3,rfl,rfl⟩:=Y;rw [H] at F ⊢;refine C4 1 [1,3] e Z<|TU 1 Z fun R e=>TV (bkT m 1) U8<|C4 1 [1,3,15] e Z<|G.cut (fun fr C' J μ=>∃ (n:Value)(l:List Rat),(∀ x∈l,QB 16 x)/\fr=[(3,[],n)]/\J=[.arr n 56 1 l.length (l.map aW).flatten]) ?_ (fun fr _ al μ _ hI=>?_)
 ·refine TW (fun K=>?_) fun K=>?_
  ·have aa:o=1:=by simpa using K
   obtain ⟨q,rfl,ab⟩:=T aa;refine TU 2 Z fun R e=>TV (bkT m 1) U8<|Uq [[ah (qtx q)]] U12 fun an _ _ ac=>D.append (j:=0) U11 ac Z ax (by show (all.length+1)*16<=_;omega) fl_ fun L=>C4 1 [3] e Z<|Um (L':=[.arr L 56 1 (all++[q]).length ((all++[q]).map aW).flatten]) (by rw [QS,QW,Qi];rfl)<|Uj 0 mup (hn_ [3] Z) ⟨L,all++[q],fun x d=>by
    rcases Qt.1 d with h | h
    ·exact I x h
    rw [Qx.1 h];exact ab,rfl,rfl⟩
  refine Uj 0 (Mem.le.refl _) (hn_ [3] Z) ⟨_,all,I,Z,Z⟩
 obtain ⟨n ,l,M,rfl,rfl⟩:=hI;refine G.freezeArr 0 (l.map aW) Z Z dJ am fun _ _ ad=>TU 1 Z fun R e=>Uk (FR _ n (l.map qtx) 89 [] (fun s=>!aZ s) (by rw [<- BF];exact ad.mono mup) kr_ (fun s hs D k=>by
  obtain ⟨x,d,rfl⟩:=Qk.1 hs;exact pi D (N.mono (Mem.le.trans mup k)) (qtx x) (Qy (bJ (M x d) dc_) dc_))) U7 fl_ ?_
 exact C4 2 [2] e Z<|Ub U2<|⟨by rw [U l M];rfl,Z⟩
theorem sd {n:Int}{l:List Str}:jd n l=0 ↔ (l.length:Int)=n/\l.all aZ=true:=by
 unfold jd;by_cases h:(l.length:Int)=n
 ·rw [aU h];rcases sL (l.all aZ) with ⟨h1,h2⟩ | ⟨h1,h2⟩
  ·rw [h1];exact ⟨fun _=>⟨h,h2⟩,fun _=>rfl⟩
  rw [h1,h2];exact ⟨fun h=>(by cases h),fun h=>(by cases h.2)⟩
 rw [az h];exact ⟨fun h=>(by cases h),fun h2=>absurd h2.1 h⟩
theorem Ff {n:Int}{r:List Str × Str}:Fg n r=0 ↔ jd n r.1=0/\aZ r.2=true:=by
 unfold Fg;by_cases h:jd n r.1=0
 ·rw [az (fun a=>a h)];rcases sL (aZ r.2) with ⟨h1,h2⟩ | ⟨h1,h2⟩
  ·rw [h1];exact ⟨fun _=>⟨h,h2⟩,fun _=>rfl⟩
  rw [h1,h2];exact ⟨fun h=>(by cases h),fun h=>(by cases h.2)⟩
 rw [aU h];exact ⟨fun h2=>absurd h2 h,fun h2=>absurd h2.1 h⟩
theorem EY {D:Mem}(h:SolO p cc D u):∃ (kd:Int)(val:Str)(e g i:Value)(a b c:List Rat),u=.agg ⟨[.int .i64 kd,ah val,e,g,i]⟩/\Sl D 1 e (a.map aW)/\Sl D 1 g (b.map aW)/\Sl D 1 i (c.map aW) /\
  (∀ x∈a,QB 16 x)/\(∀ x∈b,QB 16 x)/\(∀ x∈c,QB 16 x)/\a.length<=p.n/\b.length<=p.m/\c.length<=p.n/\(kd=1->∃ q,val=qtx q/\QB 16 q):=by
 have hr:∀ (n:Nat)(f:Nat->Rat),(∀ j,QB 16 (f j))->∀ x∈(List.range n).map f,QB 16 x:=fun n f o x d=>by
  obtain ⟨j,_,rfl⟩:=Qk.1 d;exact o j
 cases h with
 | opt val pt du e g k h1 h2=>exact ⟨1,qtx val,e,g,.slice none 0 0,_,_,[],rfl,h1,h2,Sl.nil _ _,hr _ _ k.qp,hr _ _ k.qd,fun x d=>(by cases d),by simp,by simp,Qf _,fun _=>⟨val,rfl,k.qv⟩⟩
 | inf du g r h1=>exact ⟨2,[],.slice none 0 0,g,.slice none 0 0,[],_,[],rfl,Sl.nil _ _,h1,Sl.nil _ _,fun x d=>(by cases d),hr _ _ r.qd,fun x d=>(by cases d),Qf _,by simp,Qf _,fun h=>absurd h dc_⟩
 | unb pt ra e i l h1 h2=>exact ⟨3,[],e,.slice none 0 0,i,_,[],_,rfl,h1,Sl.nil _ _,h2,hr _ _ l.qp,fun x d=>(by cases d),hr _ _ l.qr,by simp,Qf _,by simp,fun h=>absurd h dc_⟩
theorem sS {l:List Rat}(h:∀ x∈l,QB 22 x):(l.map qtx).all aZ=true:=Qv.2 fun s hs=>by
 obtain ⟨x,a,rfl⟩:=Qk.1 hs;exact bO (h x a)
theorem oW {n:Nat}:∀ {rs:List (List Rat × Rat)},(∀ r∈rs,r.1.length=n)->(∀ r∈rs,(∀ x∈r.1,QB 22 x)/\QB 22 r.2)->tH n (rs.map gN)=0
 | [],_,_=>rfl
 | r::rs,b,a=>by
  have e:tH n ((r::rs).map gN)=if Fg n (gN r)≠0 then Fg n (gN r) else tH n (rs.map gN):=rfl;have h0:Fg n (gN r)=0:=Ff.2 ⟨sd.2 ⟨by show ((r.1.map qtx).length:Int)=n;rw [al,b r Pz],sS (a r Pz).1⟩,bO (a r Pz).2⟩;rw [e,az fun h=>h h0];exact oW (fun r hr=>b r (Qm _ hr)) fun r hr=>a r (Qm _ hr)
theorem DS {a:List (List Rat × Rat)}{b:List Rat}(g:n<=60)(i:a.length<=300)(c:∀ r∈a,r.1.length=n)(d:∀ r∈a,(∀ x∈r.1,QB 22 x)/\QB 22 r.2)(e:b.length=n)(f:∀ x∈b,QB 22 x):Ky n (a.map gN) (b.map qtx)=0:=by
 unfold Ky;rw [az om_,az (by rw [al];omega),az fun h=>h (sd.2 ⟨by rw [al,e],sS f⟩)];exact oW c d
inductive FeaO (p:Lp.Sys) (D:Mem):Value->Prop where
 | yes (pt:Nat->Rat) (vp:Value):p.Hold->(∀ j,QB 16 (pt j))->Sl D 1 vp (((List.range p.n).map pt).map aW)->FeaO p D (.tuple #[vp,.agg ⟨[.slice none 0 0]⟩,.bool true,.int .i64 0])
 | no (du:Nat->Rat) (vd:Value):Lp.InfR p 16 du->Sl D 1 vd (((List.range p.m).map du).map aW)->FeaO p D (.tuple #[.slice none 0 0,.agg ⟨[vd]⟩,.bool false,.int .i64 0])
theorem IH {D:Mem}{c:Int}{g a b d:Value}(h:SolO p cc D (.agg ⟨[.int .i64 c,g,a,b,d]⟩)) :
  (c=2/\∃ du,Lp.InfR p 16 du/\Sl D 1 b (((List.range p.m).map du).map aW))∨(c≠2/\∃ pt,(p.Hold∨∃ ra,Lp.UnbR p cc 16 pt ra)/\(∀ j,QB 16 (pt j))/\Sl D 1 a (((List.range p.n).map pt).map aW)):=by
 cases h with
 | opt w pt du a b e h1 h2=>exact .inr ⟨by decide,pt,.inl e.hold,e.qp,h1⟩
 | inf du b i h1=>exact .inl ⟨rfl,du,i,h1⟩
 | unb pt ra a d f h1 h2=>exact .inr ⟨by decide,pt,.inr ⟨ra,f⟩,f.qp,h1⟩
theorem nS (n:Nat):List.replicate n (ah [48])=((List.replicate n (0:Rat)).map aW).flatten:=by
 rw [Tf,P1];induction n with
 | zero=>rfl
 | succ n a=>rw [Rx,Rx,RM,a];rfl
theorem Fk (n j:Nat):(List.replicate n (0:Rat)).getD j 0=0:=by
 rw [aw,RZ];split <;> rfl
theorem Be (C:Mem)(t:Tabs C)(n:Nat)(g k:Value)(f:List (List Rat × Rat))(i:List Rat)(o:RowsT C g (f.map gN))(v:Sl C 1 k (i.map aW))(w:RowsQ n f)(B:∀ x∈i,QB 22 x)(E:∀ r∈f,(∀ x∈r.1,QB 22 x)/\QB 22 r.2)(N:n<=60)(O:i.length=n)(Q:Lp.Lim (eH n f) (fun _=>0) 16) :
  Pur cx.P 43 [.agg ⟨[.int .i64 n,g,k]⟩] C fun u D=>FeaO (eH n f) D u:=by
 have ag:maxLen<=9223372036854775807:=by simp [maxLen]
 have hm:=w.m;have S:Ky n (f.map gN) (i.map qtx)=0:=DS N om_ w.l E O B;have T:∀ D:Mem,C.le D->Gives cx.P 56 [.agg ⟨[.int .i64 n,g,k]⟩] D (.int .i64 0):=fun D y=>by
  have h:=FO D (t.mono y) n g k (f.map gN) (i.map qtx) (o.mono y) (by rw [<- BF];exact v.mono y) (fun r o=>by
   obtain ⟨r,U,rfl⟩:=Qk.1 o;obtain ⟨h1,h2⟩:=E r U;refine ⟨fun s hs=>?_,Qy (bJ h2 dc_) dc_⟩;obtain ⟨x,z,rfl⟩:=Qk.1 hs;exact Qy (bJ (h1 x z) dc_) dc_) (fun s hs=>by
   obtain ⟨x,z,rfl⟩:=Qk.1 hs;exact Qy (bJ (B x z) dc_) dc_)
  rw [S] at h;exact h
 have V:Lp.Lim (eH n f) (fun j=>(List.replicate n (0:Rat)).getD j 0) 16:=by
  have e:(fun j=>(List.replicate n (0:Rat)).getD j 0)=fun _=>(0:Rat):=funext (Fk n);rw [e];exact Q
 refine Ud func43 32 U3 fun w0=>TY fun R d=>Up U6 fun b1=>TX U6<|Uo U5 fun b3=>C4 2 [1,3] d Z<|TY fun R d=>Uc ae U9<|Uh (T _ mup) U7<|C4 1 [1,3,6] d Z<|TT 2 [1,3,6,11] Z<|TW (fun F=>?_) fun F=>?_
 ·exact absurd F dc_
 refine Uv [(2,3)] Z fun R d=>TX U6<|Uc ae U9<|D.call (iS _ n om_) Z (.inr dc_) U6 (Qh _) fl_ (fun ah _ ai _ W=>?_);obtain ⟨bz,rfl,rfl⟩:=W;rw [nS];refine TX U6<|Uf (j:=2) U12<|TZ [1,3] d Z<|G.freezeArr 1 ((List.replicate n (0:Rat)).map aW) Z Z dJ am fun _ _ X=>G.freeze 0 Z fun _ _ Y=>TY fun R d=>TV (bkT Y 3) U8<|Uz (IF _ t.m_ n g _ f (List.replicate n 0) o.m_ X.m_ w om_ am V) U7 fl_ (fun aj _ _ H=>?_);obtain ⟨kd,val,vp,vd,vr,a,b,c,rfl,I,J,K,qa,qb,qc,aa,ab,ac,hv⟩:=EY H;have A:=IH H;rw [show (fun j=>(List.replicate n (0:Rat)).getD j 0)=fun _=>(0:Rat) from funext (Fk n)] at A;obtain ⟨Ap,cp,rfl,_⟩:=id I;obtain ⟨Ad,cd,rfl,_⟩:=id J;obtain ⟨Ar,cr,rfl,_⟩:=id K;refine Uo U5 fun b7=>Uf (j:=0) U12<|TZ [3,7] d Z<|G.freeze 0 Z fun _ _ p=>TY fun R d=>TV (bkT p 5) U8<|Uk (IR _ t.m_ kd val _ _ _ a b c I.m_ J.m_ K.m_ qa qb qc (Qy aa (by show n<=_;omega)) (Qy ab (by show f.length<=_;omega)) (Qy ac (by show n<=_;omega)) hv) U7 fl_<|C4 1 [3,7,22] d Z<|TW (fun L=>?_) fun L=>?_
 ·exact absurd L dc_
 refine TU 1 Z fun R d=>TV (bkT p 1) U8<|C4 1 [3,7,26] d Z<|TW (fun q=>?_) fun q=>?_
 ·refine Ur [0,1,2,3,4,5] [(1,0)] Z kr_ fun R M d=>TX U6<|U0 (fun _=>((bkT p 1).mono M)) U9<|TX U6<|Uf (j:=0) U12<|Ua 2 Z<|TZ [2,3,4,5] d Z ?_;clear d M R;refine Ui (Wa af Z Z Z Z Z Z Z ?_);refine ⟨Z, ?_⟩;rcases A with ⟨_,du,hi,h1⟩ | ⟨h,_⟩
  ·exact .no du _ hi h1.m_
  exact absurd (by simpa using q) h
 refine TU 1 Z fun R d=>TV (bkT p 1) U8<|Un ([.slice none 0 0]) U8<|TX U6<|Uf (j:=0) U12<|C4 2 [2,3,4,5] d Z<|Ui (Wa af Z Z Z Z Z Z Z ?_);refine ⟨Z, ?_⟩;rcases A with ⟨h,_⟩ | ⟨_,pt,v,ad,h1⟩
 ·rw [h] at q;cases q
 refine .yes pt _ ?_ ad h1.m_;rcases v with h | ⟨ra,hu⟩
 ·exact h
 exact hu.zero.elim
def prC (vs:List Value)(l:List SrcQ):List (List Value):=aS vs (l.map SrcQ.r)
def frC (l:List SrcQ):List (List Value):=l.map fun s=>[Value.int .i64 s.n]
theorem AY {l:List SrcQ}{s:SrcQ}(a:vs.length=l.length)(c:vs[i]?=some w)(d:l[i]?=some s):prC (vs.take (i+1)) (l.take (i+1))=prC (vs.take i) (l.take i)++[[w,ah (qtx s.r.b)]]:=by
 unfold prC;rw [QF,QF,c,d,QS];exact fj (by simp [a]) w s.r
theorem J2 {l:List SrcQ}{s:SrcQ}(a:l[i]?=some s):frC (l.take (i+1))=frC (l.take i)++[[.int .i64 s.n]]:=by
 unfold frC;rw [QF,a,QS];rfl
theorem K0 {l:List SrcQ}{s:SrcQ}(a:vs[i]?=some w)(c:l[i]?=some s):(bR vs l)[i]?=some [.int .i64 s.n,w,ah (qtx s.r.b)]:=by
 unfold bR;rw [List.getElem?_zipWith,a,c]
abbrev sA7 (A:Option Addr)(n c:Nat):Value:=.slice A n c
abbrev sB7 (A:Option Addr)(n c:Nat):Value:=.slice A n c
structure ProbIn (D:Mem)(n:Nat)(l:List SrcQ)(u:Value):Prop where
 ex:∃ rv ov fv,u=.tuple #[.agg ⟨[.int .i64 n,rv,ov]⟩,fv]/\RowsT D rv ((jY (l.map SrcQ.r)).map gN)/\Sl D 1 ov ((List.replicate n (0:Rat)).map aW)/\Sl D 1 fv (frC l)
theorem FG (a:List Value)(l:List SrcQ):∀ r∈prC a l,r.length=2:=iR _ _
theorem Nl (l:List SrcQ):∀ r∈frC l,r.length=1:=fun r hr=>by
 obtain ⟨s,_,rfl⟩:=Qk.1 hr;rfl
theorem AI {v:Value}(h:RowsOk C vs rows)(b:Sl C 2 v (aS vs rows)):RowsT C v ((jY rows).map gN):=by
 refine ⟨vs,by rw [h.1];simp [jY],fun i w r c hr=>?_, ?_⟩
 ·rw [jY,Q1,Qg] at hr;cases a:rows[i]? with
  | none=>rw [a] at hr;cases hr
  | some x =>
   rw [a] at hr;cases hr
   have:=h.2 i w x c a;show Sl C 1 w ((x.f.map qtx).map yQ);rw [<- BF];exact this
 have e:List.zipWith (fun w (r:List Str × Str)=>[w,ah r.2]) vs ((jY rows).map gN)=aS vs rows:=by
  unfold jY aS;rw [Q1,List.zipWith_map_right];rfl
 rw [e];exact b
theorem CZ (C:Mem)(x lv:Value)(B:Bk)(l:List SrcQ)(O:BookZ C x B 0)(ag:bs B*bp B<=60)(aK:l.length<=300)
  (aq:∀ D:Mem,C.le D->Pur cx.P 52 [x,lv] D fun u E=>∃ v,u=.tuple #[v,.int .i64 0]/\xG E v l) :
  Pur cx.P 51 [x,lv] C fun u D=>ProbIn D (bs B*bp B) l u:=by
 have aL:=O;obtain ⟨n,hn⟩:∃ n,bs B*bp B=n:=⟨_,rfl⟩;have ar:∀ D:Mem,C.le D->Gives cx.P 35 [x] D (.tuple #[.int .i64 n,.int .i64 0]):=fun D hD=>by
  have h:=yW D x B 0 (O.mono hD) ag;rw [aU rfl,hn] at h;exact h
 rw [hn] at ag ⊢;obtain ⟨v1,v2,tv,cv,ov,rfl,h1,h2,h3,h4,h5⟩:=id O.i.ex;have aM:maxLen<=9223372036854775807:=by simp [maxLen]
 refine Ud func51 51 U3 fun w0=>TY fun R a=>Up U6 fun b2=>Uo U5 fun g=>C4 1 [1,2,4] a Z<|G.freeze 1 Z fun _ _ ai=>TY fun R a=>TV (bkT ai 5) U8<|Uh (ar _ mup) U7<|C4 5 [1,2,4,6] a Z<|TY fun R a=>TV (bkT ai 5) U8<|TX U6<|UF (aq _ mup) U7 (fun aN _ _ au=>?_);obtain ⟨wv,rfl,av⟩:=au;obtain ⟨vs,Q,S⟩:=av;have T:=jy Q;obtain ⟨Aw,cw,rfl,aw,aO,_⟩:=id S;have ay:(bR vs l).length=l.length:=by unfold bR;simp [T]
 rw [ay] at S aw ⊢;refine C4 5 [4,6,8] a Z<|Uv [(3,3)] Z fun R a=>TX U6<|Uq [[ah [48]]] U12 fun aP _ _ az=>TX U6<|D.call (rM _ _ n [48] az.m_ om_) Z (.inr dc_) U6 (Qh _) fl_ (fun aQ _ aR _ aA=>?_);obtain ⟨bz,rfl,rfl⟩:=aA;rw [nS];refine Un [.int .i64 n,.slice none 0 0,.slice (some ⟨bz,0,none⟩) n n] U8<|Uo U5 fun k=>Uf (j:=0) U12<|TZ [4,8,10] a Z<|G.freezeArr 1 ((List.replicate n (0:Rat)).map aW) Z Z dJ am fun _ _ aB=>TT 1 [4,8,10,11] Z<|TT 3 [4,10,11,30,31,32] Z<|G.nilArr 123 2<|G.nilArr 3 1<|G.perm (L':=[.arr (sA7 none 0 0) 123 2 0 (prC (vs.take 0) (l.take 0)).flatten,.arr (sB7 none 0 0) 3 1 0 (frC (l.take 0)).flatten,.obj k (.cells ⟨[.int .i64 n,.slice none 0 0,.slice (some ⟨bz,0,none⟩) n n]⟩ 80 (0,0)),.obj g (.cells ⟨[.int .i64 0,.slice none 0 0,.slice none 0 0]⟩ 80 (0,0))]) (pkL [1,0,0,0] Z)<|G.loop (fun fr C' t U=>∃ (i:Nat)(V:Option Addr)(n1 W:Nat)(A2:Option Addr)(n2 c2:Nat),(i<=l.length)/\fr=[(4,[],.pointer (some ⟨g,0,none⟩)),(10,[],.pointer (some ⟨k,0,none⟩)),(11,[],.slice A2 n2 c2),(30,[],.slice Aw l.length cw),(31,[],.int .i64 l.length),(32,[],.int .i64 i)]/\t=[.arr (sA7 V n1 W) 123 2 i (prC (vs.take i) (l.take i)).flatten,.arr (sB7 A2 n2 c2) 3 1 i (frC (l.take i)).flatten,.obj k (.cells ⟨[.int .i64 n,.slice V n1 W,.slice (some ⟨bz,0,none⟩) n n]⟩ 80 (0,0)),.obj g (.cells ⟨[.int .i64 0,.slice none 0 0,.slice none 0 0]⟩ 80 (0,0))]/\U=l.length-i) (hn_ [4,10,11,30,31,32] Z) ⟨0,none,0,0,none,0,0,Qf _,Z,Z,Z⟩ (fun fr aS aT m _ X=>?_);obtain ⟨i,V,n1,W,A2,n2,c2,hi,rfl,rfl,rfl⟩:=X;refine TT 1 [4,10,11,30,31,32,33] Z<|TW (fun Y=>?_) fun Y=>?_
 ·have aa:i<l.length:=by
   have:=aJ Y;omega
  obtain ⟨s,F⟩:∃ s,l[i]?=some s:=⟨l[i],aj aa⟩;obtain ⟨w,ab⟩:∃ w,vs[i]?=some w:=⟨vs[i]'om_,aj om_⟩;have aC:=Q.2 i w s.r ab (by rw [Qg,F];rfl);obtain ⟨Ax,ak,rfl,_⟩:=id aC;have ad:=AY T ab F;have ae:=J2 F;refine TY fun R a=>Ul S.m_ U10 om_ (K0 ab F) fl_ fun aV aD=>TV aD U8<|Uo U5 fun aX=>Uf (j:=0) U12<|TZ [4,10,11,13,30,31,32] a Z<|G.freeze 0 Z fun _ _ an=>G.cut (fun fr C' t U=>∃ (H:Option Addr)(I J:Nat)(K:Option Addr)(L M:Nat),(True)/\fr=[(4,[],.pointer (some ⟨g,0,none⟩)),(10,[],.pointer (some ⟨k,0,none⟩)),(11,[],.slice K L M),(30,[],.slice Aw l.length cw),(31,[],.int .i64 l.length),(32,[],.int .i64 i)]/\t=[.arr (sA7 H I J) 123 2 (i+1) (prC (vs.take (i+1)) (l.take (i+1))).flatten,.arr (sB7 K L M) 3 1 (i+1) (frC (l.take (i+1))).flatten,.obj k (.cells ⟨[.int .i64 n,.slice H I J,.slice (some ⟨bz,0,none⟩) n n]⟩ 80 (0,0)),.obj g (.cells ⟨[.int .i64 0,.slice none 0 0,.slice none 0 0]⟩ 80 (0,0))]) ?_ (fun fr aY aZ U a0 X=>?_)
  ·refine UP (.cut [0,1,2,3,6,7,8] (.alt 4 (.cut [] (.alt 5 (.fin [11,9,10,12,13]) (.alt 9 (.fin [5,11,10,12,13]) .stop))) (.alt 9 (.fin [4,5,11,10,12,13]) .stop))) [(3,0),(8,0)] Z Z kr_ fun R y a z=>TX U6<|Uc ac U9<|TX U6<|U0 (fun _=>((bkT an 2).mono y)) U9<|Ua 2 Z<|U0 (fun _=>((bkT an 1).mono y)) U9<|UE z Z ⟨?_, ?_,trivial⟩
   ·refine Uq [[.slice Ax (s.r.f.map fe).length ak,ah (qtx s.r.b)]] U12 fun aE aF _ N=>UE z Z ⟨?_, ?_,trivial⟩
    ·refine Uy (j:=0) U11 N.m_ Z ax (by show (i+1)*40<=_;omega) fl_ fun c d e=>TX U6<|Uq [[.int .i64 s.n]] U12 fun ao ap _ A=>Uy (j:=1) U11 A.m_ Z ax (by show (i+1)*8<=_;omega) fl_ fun o p q=>Uf (j:=2) U12<|TX U6<|TZ [4,10,11,30,31,32] a Z ?_;clear a y z R;exact G.perm (L':=[.arr (sA7 c d e) 123 2 (i+1) (prC (vs.take (i+1)) (l.take (i+1))).flatten,.arr (sB7 o p q) 3 1 (i+1) (frC (l.take (i+1))).flatten,.obj k (.cells ⟨[.int .i64 n,.slice c d e,.slice (some ⟨bz,0,none⟩) n n]⟩ 80 (0,0)),.obj g (.cells ⟨[.int .i64 0,.slice none 0 0,.slice none 0 0]⟩ 80 (0,0))]) (by rw [ad,ae,QW,QW];(exact pkL [2,1,0,0] Z))<|Uj 0 mup (hn_ [4,10,11,30,31,32] Z) ⟨c,d,e,o,p,q,trivial,Z,Z⟩
    refine Uq [[.int .i64 s.n]] U12 fun ao ap _ A=>Uy (j:=0) U11 N.m_ Z ax (by show (i+1)*40<=_;omega) fl_ fun c d e=>TX U6<|Uy (j:=1) U11 A.m_ Z ax (by show (i+1)*8<=_;omega) fl_ fun o p q=>Uf (j:=2) U12<|TX U6<|TZ [4,10,11,30,31,32] a Z ?_;clear a y z R;exact G.perm (L':=[.arr (sA7 c d e) 123 2 (i+1) (prC (vs.take (i+1)) (l.take (i+1))).flatten,.arr (sB7 o p q) 3 1 (i+1) (frC (l.take (i+1))).flatten,.obj k (.cells ⟨[.int .i64 n,.slice c d e,.slice (some ⟨bz,0,none⟩) n n]⟩ 80 (0,0)),.obj g (.cells ⟨[.int .i64 0,.slice none 0 0,.slice none 0 0]⟩ 80 (0,0))]) (by rw [ad,ae,QW,QW];(exact pkL [2,1,0,0] Z))<|Uj 0 mup (hn_ [4,10,11,30,31,32] Z) ⟨c,d,e,o,p,q,trivial,Z,Z⟩
   refine Uq [[.int .i64 s.n]] U12 fun ao ap _ A=>Uq [[.slice Ax (s.r.f.map fe).length ak,ah (qtx s.r.b)]] U12 fun aE aF _ N=>Uy (j:=0) U11 N.m_ Z ax (by show (i+1)*40<=_;omega) fl_ fun c d e=>TX U6<|Uy (j:=1) U11 A.m_ Z ax (by show (i+1)*8<=_;omega) fl_ fun o p q=>Uf (j:=2) U12<|TX U6<|TZ [4,10,11,30,31,32] a Z ?_;clear a y z R;exact G.perm (L':=[.arr (sA7 c d e) 123 2 (i+1) (prC (vs.take (i+1)) (l.take (i+1))).flatten,.arr (sB7 o p q) 3 1 (i+1) (frC (l.take (i+1))).flatten,.obj k (.cells ⟨[.int .i64 n,.slice c d e,.slice (some ⟨bz,0,none⟩) n n]⟩ 80 (0,0)),.obj g (.cells ⟨[.int .i64 0,.slice none 0 0,.slice none 0 0]⟩ 80 (0,0))]) (by rw [ad,ae,QW,QW];(exact pkL [2,1,0,0] Z))<|Uj 0 mup (hn_ [4,10,11,30,31,32] Z) ⟨c,d,e,o,p,q,trivial,Z,Z⟩
  obtain ⟨H,I,J,K,L,M,_,rfl,rfl⟩:=X;refine TY fun R a=>Ue _ U7<|C4 1 [4,10,11,30,31,32] a Z<|Ug (m':=l.length-(i+1)) om_ mup (hn_ [4,10,11,30,31,32] Z) ⟨i+1,H,I,J,K,L,M,om_,Z,Z,Z⟩
 have aa:i=l.length:=by
  have:=Qe Y;omega
 subst aa;refine TY fun R a=>Uc ac U9<|TX U6<|Uf (j:=3) U12<|C4 1 [4,5] a Z ?_;rw [QE (show vs.length<=l.length by omega),Qo];refine G.freezeArr 1 (prC vs l) Z Z (FG _ _) (by rw [prC,dv (by simp [T]),al]) fun _ _ aG=>G.freezeArr 1 (frC l) Z Z (Nl _) (al _) fun _ _ aH=>Ui (Ve af U5 ?_);exact ⟨Z,⟨_,_,_,Z,(AI (rows:=l.map SrcQ.r) (RowsOk.m_ Q) aG.m_),aB.mono mup,aH⟩⟩
structure Calm (B:Bk)(fs:List Rat)(RO:Nat->List RowQ):Prop where
 rich:Rich B fs RO
 n12:bs B*bp B<=12
 thI:∀ r∈bH B,RowI r
 roI:∀ i,i<B.obs.length->∀ r∈RO i,RowI r
 th:(bH B).length<=24
 ro:∀ i,i<B.obs.length->(RO i).length<=8
 ob:B.obs.length<=12
structure SetIn (n:Nat)(l:List Nat):Prop where
 lt:∀ i∈l,i<n
 nd:l.Nodup
def eU (B:Bk)(RO:Nat->List RowQ)(l:List Nat):List RowQ:=(bP (bH B) RO l).map SrcQ.r
def D6 (B:Bk)(RO:Nat->List RowQ)(l:List Nat):Prop:=(eH (bs B*bp B) (jY (eU B RO l))).Hold
open Classical in
noncomputable def jf (B:Bk)(RO:Nat->List RowQ)(l:List Nat):Bool:=decide (D6 B RO l)
theorem nR :eU B RO l=bH B++l.flatMap RO:=by
 unfold eU bP kC;rw [QS,Q1,List.map_flatMap];congr 1
 ·exact List.map_id _
 congr 1;funext i;rw [Q1];exact List.map_id _
theorem SetIn.len (h:SetIn n l):l.length<=n:=by
 have:=List.Nodup.length_le_of_subset (l₂:=List.range n) h.nd fun v a=>Qw.2 (h.lt v a)
 rwa [Q5] at this
section
variable {B:Bk} {fs:List Rat} {RO:Nat->List RowQ} {l:List Nat}
theorem J7 {c:Nat}{f:Nat->List RowQ}:∀ {l:List Nat},(∀ i∈l,(f i).length<=c)->(l.flatMap f).length<=c*l.length
 | [],_=>Qf _
 | i::l,h=>by
  rw [List.flatMap_cons,Qi,Qs,Nat.mul_succ];have h1:=h i Pz;have h2:=J7 (l:=l) fun j a=>h j (Qm _ a);omega
theorem Calm.cnt (h:Calm B fs RO)(a:SetIn B.obs.length l):(eU B RO l).length<=120:=by
 rw [nR,Qi];have h1:=J7 (c:=8) (f:=RO) fun i b=>h.ro i (a.lt i b);have h2:=a.len;have h3:=h.ob;have h4:=h.th;omega
theorem Calm.rowI (h:Calm B fs RO)(a:SetIn B.obs.length l):∀ r∈eU B RO l,RowI r:=by
 intro r hr;rw [nR] at hr;rcases Qt.1 hr with hr | hr
 ·exact h.thI r hr
 obtain ⟨i,b,hr⟩:=List.mem_flatMap.1 hr;exact h.roI i (a.lt i b) r hr
theorem vI {s p:Nat}{a:List Lay}:∀ n,∀ r∈bj s p a n,r.f.length=s*p
 | 0,r,hr=>by cases hr
 | n+1,r,hr=>by
  rcases Qt.1 hr with hr | hr
  ·exact vI n r hr
  have:∀ k,∀ r∈bx s p (a.getD (n+1) ⟨[],0,none⟩) (n+1) k,r.f.length=s*p:=by
   intro k;induction k with
   | zero=>intro r hr;cases hr
   | succ k b =>
    intro r hr;rcases Qt.1 hr with hr | hr
    ·exact b r hr
    unfold kl at hr;rcases Qp.1 hr with rfl | hr
    ·exact jB _ _
    split at hr
    ·cases hr
    rw [Qx.1 hr];exact jB _ _
  exact this p r hr
theorem N5 {D:Int}{q:Rat}(h:Wl D q)(a:D≠0)(b:D.natAbs<=999999999):QB 1 q:=by
 obtain ⟨z,h1,h2⟩:=h;exact ph a h1 om_ om_
theorem RowI.q {r:RowQ}(h:RowI r):(∀ x∈r.f,QB 1 x)/\QB 1 r.b:=by
 obtain ⟨D,h0,a,h1,h2⟩:=h;exact ⟨fun x c=>N5 (h1 x c) h0 a,N5 h2 h0 a⟩
theorem AH {a:List RowQ}{P:List Rat × Rat->Prop}(h:∀ r∈a,P (r.f,r.b)):∀ x∈jY a,P x:=fun x c=>by
 obtain ⟨r,hr,rfl⟩:=Qk.1 c;exact h r hr
theorem Calm.q22 (h:Calm B fs RO)(a:SetIn B.obs.length l):∀ r∈jY (eU B RO l),(∀ x∈r.1,QB 22 x)/\QB 22 r.2 :=
 AH (P:=fun r=>(∀ x∈r.1,QB 22 x)/\QB 22 r.2) fun r hr=>⟨fun x b=>((h.rowI a r hr).q.1 x b).le dc_,(h.rowI a r hr).q.2.le dc_⟩
theorem Calm.rowsQ (h:Calm B fs RO)(a:SetIn B.obs.length l):RowsQ (bs B*bp B) (jY (eU B RO l)):=by
 refine ⟨AH (P:=fun r=>r.1.length=bs B*bp B) fun r hr=>?_,fun r hr=>⟨fun x b=>((h.q22 a r hr).1 x b).le dc_,(h.q22 a r hr).2.le dc_⟩, ?_⟩
 ·rw [nR] at hr;rcases Qt.1 hr with hr | hr
  ·exact vI _ r hr
  obtain ⟨i,c,hr⟩:=List.mem_flatMap.1 hr;exact (oX h.rich (a.lt i c)).2 r hr
 have:=h.cnt a;rw [jY,al];omega
theorem Calm.lim (h:Calm B fs RO)(a:SetIn B.obs.length l):Lp.Lim (eH (bs B*bp B) (jY (eU B RO l))) (fun _=>0) 16:=JK h.n12 (h.rowI a)
theorem NH {n:Nat}(c:SetIn n l):chZ n (l.map fun i:Nat=>(i:Int))=0:=by
 refine kP fun i b=>?_;rw [al] at b;have f:l[i]?=some l[i]:=aj b;have g:(l.map fun i:Nat=>(i:Int)).getD i 0=(l[i]:Int):=by rw [aw,Qg,f];rfl
 have h1:=c.lt l[i] (Q8 b);unfold rt;rw [g,az om_,az];intro hm;rw [<- R6] at hm;obtain ⟨k,h,e⟩:=Qk.1 hm;have m:k=l[i]:=by omega
 subst m;obtain ⟨j,a⟩:=RB h;rw [QT] at a;split at a
 ·rename_i o;have d:j<l.length:=by omega
  have p:=List.pairwise_iff_getElem.1 c.nd j i d b o;rw [aj d] at a;exact p (RK a)
 cases a
theorem Bp (l:List Nat):(l.map fun i:Nat=>(i:Int)).map Int.toNat=l:=by
 rw [Q1];have e:∀ i∈l,(Int.toNat ∘ fun i:Nat=>(i:Int)) i=id i:=fun i _=>RW i;rw [List.map_congr_left e,List.map_id]
theorem nh (C:Mem)(g:Tabs C)(a b:Value)(j:BookIn C a B)(h:Calm B fs RO)(c:SetIn B.obs.length l)(k:Sl C 1 b (l.map aN)) :
  ∀ D:Mem,C.le D->Pur cx.P 52 [a,b] D fun u E=>∃ v,u=.tuple #[v,.int .i64 0]/\xG E v (bP (bH B) RO l):=fun D d=>by
 have m:=NH c;have e:=h.cnt c;have n:l.length<=12:=Qy c.len h.ob;have f:=DR D (g.mono d) a b B fs RO (l.map fun i:Nat=>(i:Int)) (j.mono d) h.rich (by rw [Q1];exact k.mono d) (by rw [al];omega) (fun _=>by
  rw [Bp];unfold eU at e;rw [al] at e;omega)
 rw [m,aU rfl,Bp] at f;exact f
end
theorem BA (C:Mem)(k:Tabs C)(e f:Value)(B:Bk)(H:List Rat)(a:Nat->List RowQ)(l:List Nat)(g:BookIn C e B)(h:Calm B H a)(b:SetIn B.obs.length l)(I:Sl C 1 f (l.map aN)) :
  Gives cx.P 47 [e,f] C (.tuple #[.bool (jf B a l),.int .i64 0]):=by
 have ab:=g;have J:=h.rich.bookz k g;have u:=h.cnt b;have v:=fun (D:Mem)(i:C.le D)=>CZ D e f B (bP (bH B) a l) (J.mono i) (by have:=h.n12;omega) (by unfold eU at u;rw [al] at u;omega) (nh D (k.mono i) e f (g.mono i) h b (I.mono i));obtain ⟨n,w⟩:∃ n,bs B*bp B=n:=⟨_,rfl⟩;have K:=h.n12;have m:=h.rowsQ b;have y:=h.q22 b;have o:=h.lim b;obtain ⟨rows,p⟩:∃ rows,eU B a l=rows:=⟨_,rfl⟩;have L:jf B a l=@decide (eH n (jY rows)).Hold (Classical.propDecidable _):=by
  unfold jf D6;rw [w,p]
 have M:(bP (bH B) a l).map SrcQ.r=rows:=p;rw [w] at v m o K;rw [p] at m y o;obtain ⟨v1,v2,tv,cv,ov,rfl,_⟩:=id g.ex;have ac:maxLen<=9223372036854775807:=by simp [maxLen]
 refine Ud func47 27 U3 fun w0=>TY fun R d=>Up U6 fun b2=>C4 2 [1,2] d Z<|G.freeze 0 Z fun _ _ N=>TY fun R d=>TV (bkT N 5) U8<|TX U6<|UF (v _ mup) U7 (fun ad _ _ O=>?_);obtain ⟨rv,ae,fv,rfl,q,z,af⟩:=O.ex;rw [M] at q;obtain ⟨_,_,_,Q⟩:=id q;obtain ⟨Ar,cr,rfl,_⟩:=id Q;obtain ⟨Ao,co,rfl,_⟩:=id z;refine Ua 3 Z<|Uo U5 fun b6=>Uf (j:=0) U12<|C4 1 [6] d Z<|G.freeze 0 Z fun _ _ S=>TY fun R d=>TV (bkT S 3) U8<|Uz (Be _ k.m_ n _ _ (jY rows) (List.replicate n 0) q.m_ z.m_ m (fun x T=>by rw [(List.mem_replicate.1 T).2];exact QB_zero.le dc_) y om_ am o) U7 fl_ (fun U _ _ V=>?_);have W:∃ (s:Value)(E:Option Addr)(nd F:Nat)(t:Bool),U=.tuple #[s,.agg ⟨[.slice E nd F]⟩,.bool t,.int .i64 0]/\jf B a l=t:=by
  rw [L];cases V with
  | yes pt s X _ _=>exact ⟨_,_,_,_,true,rfl,@Qr _ (Classical.propDecidable _) X⟩
  | no du vd Y h1 =>
   obtain ⟨A,c,rfl,_⟩:=id h1;exact ⟨_,_,_,_,false,Z,@QC _ (Classical.propDecidable _) Y.not⟩
 obtain ⟨s,E,nd,F,t,rfl,aa⟩:=W;refine Ua 5 Z<|Uo U5 fun b9=>TX U6<|Uf (j:=0) U12<|C4 2 [10,11] d Z<|TT 4 [4,5] Z<|Ui (G.dropAll (Uw U3 ?_));exact ⟨by rw [aa],Z⟩
structure AscIn (n:Nat)(l:List Nat):Prop where
 lt:∀ i∈l,i<n
 up:l.Pairwise (·<·)
theorem AscIn.set (h:AscIn n l):SetIn n l:=⟨h.lt,h.up.imp fun h=>Nat.ne_of_lt h⟩
theorem KL (h:AscIn n l):NX n (l.map fun i:Nat=>(i:Int))=0:=by
 refine kP fun i a=>?_;rw [al] at a;have b:∀ j (c:j<l.length),(l.map fun i:Nat=>(i:Int)).getD j 0=(l[j]:Int):=fun j c=>by
  rw [aw,Qg,aj c];rfl
 have h1:=h.lt l[i] (Q8 a);unfold ml;rw [b i a,az om_,az];rintro ⟨h0,h2⟩;rw [b (i-1) om_] at h2;have:=List.pairwise_iff_getElem.1 h.up (i-1) i om_ a om_;omega
section
variable {B:Bk} {fs:List Rat} {RO:Nat->List RowQ} {l:List Nat}
theorem xu (C:Mem)(d:Tabs C)(a b:Value)(e:BookIn C a B)(h:Calm B fs RO)(c:AscIn B.obs.length l)(f:Sl C 1 b (l.map aN)):Gives cx.P 49 [a,b] C (.int .i64 0):=by
 have j:=h.rich.bookz d e;have k:=KL c;have g:=Kz C a b B 0 (l.map fun i:Nat=>(i:Int)) j (by have:=h.n12;omega) (by rw [Q1];exact f) (by rw [al];have:=c.set.len;have:=h.ob;omega) (fun _ _ D m=>Fn.mono (nh C d a b e h c.set f D m) fun u C' n _ ⟨h1,v,h2,_⟩=>⟨h1,v,h2⟩);rw [k,az (fun h=>h rfl)] at g;exact g
end
theorem Ch (C:Mem)(c:Tabs C)(d e:Value)(B:Bk)(f:List Rat)(b:Nat->List RowQ)(l:List Nat)(g:BookIn C d B)(h:Calm B f b)(i:AscIn B.obs.length l)(j:Sl C 1 e (l.map aN)) :
  Gives cx.P 25 [d,e] C (.tuple #[.bool (jf B b l),.int .i64 0]):=by
 have k:=g;obtain ⟨o,p,q,r,s,rfl,_⟩:=id g.ex;refine Ud func25 18 U3 fun w0=>TY fun R a=>Up U6 fun t=>C4 2 [1,2] a Z<|G.freeze 0 Z fun _ _ m=>TY fun R a=>TV (bkT m 5) U8<|TX U6<|Uh (xu _ c.m_ _ _ k.m_ h i j.m_) U7<|C4 1 [1,2,6] a Z<|TT 2 [1,2,6,11] Z<|TW (fun n=>?_) fun n=>?_
 ·exact absurd n dc_
 refine TY fun R a=>TV (bkT m 5) U8<|TX U6<|Uh (BA _ c.m_ _ _ B f b l k.m_ h i.set j.m_) U7<|C4 4 [4,5] a Z<|Ui (G.dropAll (Uw U3 ?_));exact ⟨Z,Z⟩
def xJ (h:Nat->Bool)(km:List (Nat × Value)):Prop:=∀ s v,dm km s=some v->v=.bool (h s)
theorem wP (h:Nat->Bool):xJ h []:=fun s v e=>by cases e
theorem GF (b:xJ h km):xJ h (fN km s (.bool (h s))):=fun t v e=>by
 by_cases a:s=t
 ·subst a;rw [kv] at e;exact (RK e).symm
 rw [iZ a] at e;exact b t v e
theorem Dp (a:xJ h km)(s:Nat):∃ x f:Bool,kL (.bool false) true (dm km s)=.tuple #[.bool x,.bool f]/\(f=true->x=h s):=by
 cases e:dm km s with
 | none=>exact ⟨false,false,rfl,fun h=>by cases h⟩
 | some v=>exact ⟨h s,true,by rw [a s v e];rfl,fun _=>rfl⟩
theorem Ca:∀ n<6,∀ s<2 ^ n,(∀ i∈ba s,i<n)/\(ba s).Pairwise (·<·):=by decide +kernel
theorem HL (a:n<6)(b:s<2 ^ n):AscIn n (ba s):=⟨(Ca n a s b).1,(Ca n a s b).2⟩
structure SrchIn (C:Mem)(B:Bk)(b0 bm:Nat):Prop where
 ex:∃ v1 v2 tv cv ov,C b0=some (.cells ⟨[v1,v2,tv,cv,ov,.map (some bm)]⟩ 153 (0,0))/\BookIn C (.agg ⟨[v1,v2,tv,cv,ov]⟩) B
theorem SrchIn.mono {C D:Mem}{B:Bk}{a b:Nat}(h:SrchIn C B a b)(c:C.le D):SrchIn D B a b:=by
 obtain ⟨d,e,f,g,i,h1,h2⟩:=h.ex;exact ⟨d,e,f,g,i,c _ _ h1,h2.mono c⟩
theorem SrchIn.m_ {D:Mem}{a b:Nat}(h:SrchIn C B a b)(c:C.le D:=by exact mup):SrchIn D B a b:=SrchIn.mono h c
noncomputable def hS (B:Bk)(RO:Nat->List RowQ)(s:Nat):Bool:=jf B RO (ba s)
theorem vT (C:Mem)(k:Tabs C)(B:Bk)(l:List Rat)(b:Nat->List RowQ)(m c s:Nat)(d:List (Nat × Value))(t:SrchIn C B m c)(h:Calm B l b)(n:B.obs.length<6)(v:s<2 ^ B.obs.length)(e:xJ (hS B b) d) :
  Jog.Fn cx.P 40 [.pointer (some ⟨m,0,none⟩),.int .u64 s] C [.obj c (aP keyU.enc d)] fun u _ o=>u=.tuple #[.bool (hS B b s),.int .i64 0]/\∃ p,xJ (hS B b) p/\o=[.obj c (aP keyU.enc p)]:=by
 obtain ⟨F,G,H,I,J,g,w⟩:=t.ex;obtain ⟨x,f,y,z⟩:=Dp e s;have i:=yp n;refine Ud func40 41 U3 fun w0=>Um (L':=[.obj c (aP keyU.enc d)]) Z<|TT 2 [0,1] Z<|TU 3 Z fun R a=>TV (bkT g 1) U8<|TX U6<|Vo keyU af Z Z Z Z Z Z Z Z kr_ Z y Z Z<|C4 5 [0,1,6,7] a Z<|TT 1 [0,1,6,19] Z<|TW (fun q=>?_) fun q=>?_
 ·have A:f=true:=q;refine TT 3 [4,5] Z<|Ui (Uw U3 ?_);exact ⟨by rw [z A],d,e,Z⟩
 refine Ur [0,1,2,3,4,5,6,7,8,9,10,11] [(6,1),(3,0)] Z kr_ fun R r a=>Ua 3 Z<|U0 (fun _=>((bkT g 5).mono r)) U9<|TX U6<|Uz (nW _ k.m_ s om_) U7 fl_ fun K _ _ E=>UC (fun _=>(BA _ k.m_ _ _ B l b (ba s) w.m_ h (HL n v).set E.m_)) U9<|Ua 5 Z<|TZ [0,1,8,9] a Z ?_;clear a r R;refine TT 2 [0,1,8,9,32] Z<|TW (fun i=>?_) fun i=>?_
 ·refine TU 3 Z fun R a=>TV (bkT g 1) U8<|Ua 2 Z<|D.mapUpdate keyU (j:=0) Z Z Z Z Z Z Z Z Z Z kr_<|TZ [8,9] a Z<|TT 4 [4,5] Z<|Ui (Uw U3 ?_);exact ⟨Z,_,GF e,Z⟩
 exact absurd i dc_
def Ei (i n:Nat):List Nat:=(List.range n).map fun q=>if q<i then q else 0
theorem zT :(Ei i n).length=n:=by simp [Ei]
theorem EC :kg [.int .i64 0] n=((Ei 0 n).map aN).flatten:=by
 rw [ef];congr 1;unfold Ei;rw [Q1];refine (List.eq_replicate_iff.2 ⟨by simp,fun x a=>?_⟩).symm;obtain ⟨q,_,rfl⟩:=Qk.1 a;rfl
theorem Im :(Ei i n).set i i=Ei (i+1) n:=by
 refine List.ext_getElem? fun j=>?_;unfold Ei;rw [List.getElem?_set,Qg,Qg,al,Q5];by_cases a:j<n
 ·rw [QR a];by_cases e:i=j
  ·subst e;simp [a]
  have:(j<i+1) ↔ j<i:=by omega
  simp [e,this]
 rw [Ql (show (List.range n).length<=j by simp;omega)];simp;omega
theorem ED :Ei n n=List.range n:=by
 unfold Ei;have e:∀ q∈List.range n,(if q<n then q else 0)=id q:=fun q a=>aU (Qw.1 a);rw [List.map_congr_left e,List.map_id]
theorem Fq (n:Nat):AscIn n (List.range n):=⟨fun _b a=>Qw.1 a,List.pairwise_lt_range⟩
theorem xd:∀ i,(aN i).length=1:=fun _=>rfl
theorem lY (l:List Nat):∀ r∈l.map aN,r.length=1:=fun r hr=>by
 obtain ⟨x,_,rfl⟩:=Qk.1 hr;rfl
theorem EW (C:Mem)(w:Tabs C)(p:Value)(B:Bk)(x:List Rat)(y:Nat->List RowQ)(q:BookIn C p B)(h:Calm B x y) :
  Jog.Fn cx.P 37 [p] C [] fun u D b=>(10<B.obs.length/\u=.tuple #[.pointer none,.int .i64 4]/\b=[])∨(B.obs.length<=10/\∃ r s,u=.tuple #[.pointer (some ⟨r,0,none⟩),.int .i64 0]/\SrchIn D B r s/\b=[.obj s (aP keyU.enc [])]):=by
 have z:=h.ob;have d:=q;obtain ⟨W,X,Y,cv,ov,rfl,h1,h2,h3,h4,h5⟩:=id q.ex;obtain ⟨A,E,rfl,_⟩:=id h1;obtain ⟨A2,c2,rfl,_⟩:=id h2;obtain ⟨F,H,rfl,_⟩:=id h3;obtain ⟨I,J,rfl,_⟩:=id h4;obtain ⟨K,L,rfl,M,aa,_⟩:=id h5;obtain ⟨n,e⟩:∃ n,B.obs.length=n:=⟨_,rfl⟩;have ab:maxLen<=9223372036854775807:=by simp [maxLen]
 rw [e] at z;simp only [al,e] at h5 M d ⊢;refine Ud func37 34 U3 fun w0=>TY fun R a=>Up U6 fun N=>C4 2 [1] a Z<|G.freeze 0 Z fun _ _ f=>TU 1 Z fun R a=>TV (bkT f 1) U8<|TX U6<|UY U9 (Qb _) (by show 8*n<=_;omega) (by simp only [maxLen];omega) fl_ fun c=>C4 1 [1,4] a Z<|TT 3 [1,4,12,13] Z<|Um (L':=[.arr (.slice (some ⟨c,0,none⟩) n n) 3 1 n ((Ei 0 n).map aN).flatten]) (by rw [<- EC];rfl)<|G.loop (fun fr C' b O=>∃ (i:Nat),(i<=n)/\fr=[(1,[],.pointer (some ⟨N,0,none⟩)),(4,[],.slice (some ⟨c,0,none⟩) n n),(12,[],.int .i64 n),(13,[],.int .i64 i)]/\b=[.arr (.slice (some ⟨c,0,none⟩) n n) 3 1 n ((Ei i n).map aN).flatten]/\O=n-i) (hn_ [1,4,12,13] Z) ⟨0,Qf _,Z,Z,Z⟩ (fun fr ac ad m Q S=>?_);obtain ⟨i,hi,rfl,rfl,rfl⟩:=S;refine TT 1 [1,4,12,13,14] Z<|TW (fun g=>?_) fun g=>?_
 ·have k:i<n:=by
   have:=aJ g;omega
  refine TT 2 [1,4,5,12,13] Z<|TU 3 Z fun R a=>UA (i*1) U10 ai U2<|UD (j:=0) U11 (by show i*1+1<=_;rw [bQ xd,zT];omega)<|TZ [1,4,12,13] a Z<|TY fun R a=>Ue _ U7<|C4 1 [1,4,12,13] a Z<|Um (L':=[.arr (.slice (some ⟨c,0,none⟩) n n) 3 1 n ((Ei (i+1) n).map aN).flatten]) (by rw [<- Im,<- bN xd _ (by rw [zT];exact k)];rfl)<|Ug (m':=n-(i+1)) om_ Q (hn_ [1,4,12,13] Z) ⟨i+1,om_,Z,Z,Z⟩
 have k:i=n:=by
  have:=Qe g;omega
 subst k;rw [ED];refine G.freezeArr 0 ((List.range i).map aN) Z Z (lY _) am fun _ _ T=>TY fun R a=>TV (bkT f 5) U8<|TX U6<|Uh (xu _ w.m_ _ _ d.m_ h (e ▸ Fq i) T.m_) U7<|C4 1 [1,4,6] a Z<|TT 2 [1,4,6,25] Z<|TW (fun t=>?_) fun t=>?_
 ·exact absurd t dc_
 refine TT 3 [1,29] Z<|TW (fun l=>?_) fun l=>?_
 ·have o:10<i:=by
   have:=aJ l;omega
  refine TT 2 [2,3] Z<|Ui (G.dropAll (Uw U3 ?_));exact .inl ⟨o,Z,Z⟩
 have o:i<=10:=by
  have:=Qe l;omega
 refine TY fun R a=>TV (bkT f 5) U8<|D.makeMap keyU Z Z Z Z fl_ fun v=>Un [.slice A B.pts.length E,.slice A2 B.tris.length c2,.slice F B.terr.length H,.slice I B.col.length J,.slice K i L,.map (some v)] U8<|Up U6 fun U=>C4 2 [2,3] a Z<|G.freeze 0 Z fun _ _ V=>Ui (Uw U3 ?_);exact .inr ⟨o,U,v,Z,⟨_,_,_,_,_,V,d.mono mup⟩,Z⟩
theorem Ay (C:Mem)(f:Tabs C)(a:Value)(B:Bk)(b:List Rat)(c:Nat->List RowQ)(g:BookIn C a B)(h:Calm B b c)(j:B.obs.length<=10) :
  Jog.Fn cx.P 37 [a] C [] fun u D i=>∃ d e,u=.tuple #[.pointer (some ⟨d,0,none⟩),.int .i64 0]/\SrchIn D B d e/\i=[.obj e (aP keyU.enc [])] :=
 Fn.mono (EW C f a B b c g h) fun _ _ _ _ h=>h.elim (fun h=>absurd h.1 om_) (·.2)
def OutL (C:Mem)(vs:List Value)(outs:List (List Nat)):Prop:=vs.length=outs.length/\∀ (j:Nat)(v:Value)(o:List Nat),vs[j]?=some v->outs[j]?=some o->Sl C 1 v (o.map aN)
def OutsIn (C:Mem)(v:Value)(outs:List (List Nat)):Prop:=∃ vs,OutL C vs outs/\Sl C 1 v (vs.map fun x=>[x])
theorem OutL.mono {C D:Mem}{a:List Value}{b:List (List Nat)}(h:OutL C a b)(c:C.le D):OutL D a b:=⟨h.1,fun j v o h1 h2=>(h.2 j v o h1 h2).mono c⟩
theorem OutL.m_ {D:Mem}(h:OutL C vs outs)(a:C.le D:=by exact mup):OutL D vs outs:=OutL.mono h a
theorem OutsIn.mono {C D:Mem}{v:Value}{a:List (List Nat)}(h:OutsIn C v a)(b:C.le D):OutsIn D v a:=by
 obtain ⟨vs,h1,h2⟩:=h;exact ⟨vs,h1.mono b,h2.mono b⟩
theorem OutsIn.m_ {D:Mem}{v:Value}(h:OutsIn C v outs)(a:C.le D:=by exact mup):OutsIn D v outs:=OutsIn.mono h a
theorem OutL.nil (C:Mem):OutL C [] []:=⟨rfl,fun j v o h _=>by simp at h⟩
theorem OutL.snoc {v:Value}{o:List Nat}(h:OutL C vs outs)(b:Sl C 1 v (o.map aN)):OutL C (vs++[v]) (outs++[o]):=by
 refine ⟨by simp [h.1],fun j w q h1 h2=>?_⟩;rcases Nat.lt_trichotomy j vs.length with a | a | a
 ·rw [Q3 a] at h1;rw [Q3 (by rw [<- h.1];exact a)] at h2;exact h.2 j w q h1 h2
 ·subst a;rw [QH (Qb _),SE] at h1;rw [h.1,QH (Qb _),SE] at h2;cases h1
  cases h2
  exact b
 rw [Ql ap] at h1;cases h1
theorem lg (a:List Value):a=(a.map fun x=>[x]).flatten:=by
 induction a with
 | nil=>rfl
 | cons v a b=>rw [QO,RM,<- b];rfl
theorem lf (a:List Value):∀ r∈a.map (fun x=>[x]),r.length=1:=fun r hr=>by
 obtain ⟨x,_,rfl⟩:=Qk.1 hr;rfl
theorem qe (l:List Nat):∀ r∈l.map cj,r.length=1:=fun r hr=>by
 obtain ⟨x,_,rfl⟩:=Qk.1 hr;rfl
theorem BR:∀ n<6,∀ s<2 ^ n,Em (2 ^ n-1) s<2 ^ n:=by decide +kernel
noncomputable def hC (B:Bk)(RO:Nat->List RowQ)(s:Nat):Bool:=hS B RO (Em (2 ^ B.obs.length-1) s)
theorem AD (C:Mem)(d:Tabs C)(B:Bk)(a f:Nat)(g:SrchIn C B a f)(h:B.obs.length<6) :
  Jog.Fn cx.P 38 [.pointer (some ⟨a,0,none⟩)] C [] fun u _ i=>∃ A n2 c,u=.slice A n2 c/\i=[.arr u 99 1 (2 ^ B.obs.length) (((bT B.obs.length).map cj).flatten)]:=by
 obtain ⟨j,k,l,m,o,b,n⟩:=g.ex;obtain ⟨_,_,_,_,_,e,_,_,_,_,h5⟩:=n.ex;cases e
 obtain ⟨A,c,rfl,_⟩:=id h5;rw [al] at b;rw [<- LY];exact Ml C d a B.obs.length j k l m _ A c b h
theorem sU (C:Mem)(w:Tabs C)(T:Value)(B:Bk)(J:List Rat)(b:Nat->List RowQ)(U:BookIn C T B)(h:Calm B J b)(f:B.obs.length<6) :
  Pur cx.P 13 [T] C fun u D=>∃ v,u=.tuple #[v,.int .i64 0]/\OutsIn D v ((wh (hC B b) (bT B.obs.length)).map ba):=by
 have V:=U;obtain ⟨v1,v2,tv,cv,ov,rfl,_,_,_,_,h5⟩:=id U.ex;obtain ⟨A5,c5,rfl,ao,aC,_⟩:=id h5;obtain ⟨n,k⟩:∃ n,B.obs.length=n:=⟨_,rfl⟩;have aD:maxLen<=9223372036854775807:=by simp [maxLen]
 have ap:=fun (D:Mem)(hD:C.le D)(g c s:Nat)(km:List (Nat × Value))(y:SrchIn D B g c)(hs:s<2 ^ n)=>vT D (w.mono hD) B J b g c s km y h f (k ▸ hs);have W:∀ s,hC B b s=hS B b (Em (2 ^ n-1) s):=fun s=>by unfold hC;rw [k]
 rw [k] at f;have aE:=yp f;simp only [al,k] at h5 ao V ⊢;have K:=oS n;obtain ⟨F,d⟩:∃ F:Nat->List Nat,∀ i,F i=((bT n).take i).foldl (mN (hC B b)) []:=⟨_,fun _=>rfl⟩;have X:F 0=[]:=by rw [d,List.take_zero];rfl
 have A:∀ {i s},(bT n)[i]?=some s->F (i+1)=mN (hC B b) (F i) s:=fun {i s} hs=>by rw [d,d,pX hs]
 have aq:∀ i,i<=2 ^ n->(F i).length<=32:=fun i hi=>by
  rw [d];have h1:=tM (h:=hC B b) ((bT n).take i) [];rw [Qq] at h1;simp only [Qu] at h1;omega
 refine Ud func13 69 U3 fun w0=>TY fun R a=>Up U6 fun b1=>C4 2 [1] a Z<|G.freeze 0 Z fun _ _ Y=>Uv [(1,3)] Z fun R a=>TV (bkT Y 5) U8<|D.call (Ay _ w.m_ _ B J b V.m_ h om_) Z (.inr dc_) U6 (Qh _) fl_ (fun aF _ aG _ ar=>?_);obtain ⟨g,c,rfl,y,rfl⟩:=ar;refine C4 5 [1,4,5] a Z<|TT 2 [1,4,5,19] Z<|TW (fun aa=>?_) fun aa=>?_
 ·exact absurd aa dc_
 refine TU 1 Z fun R a=>TV (bkT Y 1) U8<|TX U6<|VE (n) Z Z Z Z Z Z (by first | exact .inl Z | exact .inr Z) Z om_ Z Z<|D.int (((2 ^ n-1:Nat):Int)) U4 (by rw [show (((2 ^ n:Nat):Int)-1)=((2 ^ n-1:Nat):Int) by have:=Nat.one_le_two_pow (n:=n);omega];exact tt om_) U2<|C4 1 [4,6] a Z<|TT 1 [4,6,7] Z<|TT 1 [4,6,7,8] Z<|Uv [(1,3)] Z fun R a=>TX U6<|D.call (AD _ w.m_ B g c y.m_ om_) Z (.inr dc_) U6 (Qh _) fl_ (fun aH _ aK _ au=>?_);obtain ⟨As,ns,cs,rfl,rfl⟩:=au;rw [k];refine C4 2 [4,6,7,8,27,28,29] a Z<|G.freezeArr 0 ((bT n).map cj) Z Z (qe _) (by rw [al,K]) (fun _ _ ab=>?_);obtain ⟨_,_,ac,_⟩:=id ab;rw [al,K] at ac;cases ac
 refine G.nilArr 50 1<|G.loop (fun fr C' L μ=>∃ (i:Nat)(z:Int)(km:List (Nat × Value))(vs:List Value)(l:Option Addr)(n1 o:Nat),(i<=2 ^ n/\xJ (hS B b) km/\OutL C' vs ((F i).map ba)/\xH (F i) z)/\fr=[(4,[],.pointer (some ⟨g,0,none⟩)),(6,[],.int .u64 ((2 ^ n-1:Nat):Int)),(7,[],.slice l n1 o),(8,[],.int .i64 z),(27,[],.slice As (2 ^ n) cs),(28,[],.int .i64 ((2 ^ n:Nat):Int)),(29,[],.int .i64 i)]/\L=[.arr (.slice l n1 o) 50 1 vs.length vs,.obj c (aP keyU.enc km)]/\μ=2 ^ n-i) (hn_ [4,6,7,8,27,28,29] Z) ⟨0, -1,[],[],none,0,0,⟨Qf _,wP _,by rw [X];exact OutL.nil _,.inl ⟨X,Z⟩⟩,Z,Z,Z⟩ (fun fr aL aM m _ hI=>?_);obtain ⟨i,z,km,vs,l,n1,o,⟨hi,av,p,q⟩,rfl,rfl,rfl⟩:=hI;refine TT 1 [4,6,7,8,27,28,29,30] Z<|TW (fun M=>?_) fun M=>?_
 ·have ad:i<2 ^ n:=by
   have:=aJ M;omega
  obtain ⟨s,hs⟩:∃ s,(bT n)[i]?=some s:=⟨(bT n)[i]'om_,aj om_⟩;have aw:s<2 ^ n:=fQ (Qc hs);have N:s<32:=by omega
  have aO:vs.length=(F i).length:=by rw [p.1,al]
  have aQ:=aq i om_;refine TY fun R a=>Ul ab.m_ U10 om_ (gb hs) fl_ fun aR ay=>TV ay U8<|C4 1 [4,6,7,8,10,27,28,29] a Z<|TU 4 Z fun R a=>UC (fun _=>(ud _ s N)) U9<|Ua 2 Z<|Uu U8<|TZ [4,6,7,8,10,27,28,29,40] a Z<|TW (fun O=>?_) fun O=>?_
  ·have r:0<=z/\z<(fT s:Int):=by
    simp only [Qn,Qj] at O;omega
   refine TT 3 [2,3] Z<|G.freezeArr 0 (vs.map fun x=>[x]) Z (lg vs) (lf vs) (al _) fun C8 _ Q=>Ui (G.dropAll (Uw U3 ?_));refine ⟨Z,_,Z,vs, ?_,Q⟩;rw [Fj f hs (by rw [<- d];exact q) r,<- d];exact p.mono mup
  have r:¬ (0<=z/\z<(fT s:Int)):=by
   simp only [Tu,Qz] at O;omega
  refine Uv [(4,3)] Z fun R a=>Ua 3 Z<|Wj (2 ^ n-1) (s) Z Z Z Z Z Z Z Z om_ om_ Z Z<|D.call (ap _ mup g c (Em (2 ^ n-1) s) km y.m_ (BR n f s aw) av) Z (.inr dc_) U6 (List.Perm.swap _ _ _) fl_ (fun aS _ aT _ az=>?_);obtain ⟨rfl,E,af,rfl⟩:=az;refine C4 5 [4,6,7,8,10,11,12,27,28,29] a Z<|TT 3 [4,6,7,8,10,11,12,27,28,29,49] Z<|TW (fun ag=>?_) fun ag=>?_
  ·exact absurd ag dc_
  refine TT 3 [4,6,7,8,10,27,28,29,53] Z<|TW (fun S=>?_) fun S=>?_
  ·have t:hC B b s=false:=by rw [W];simpa using S
   refine TY fun R a=>Ue _ U7<|C4 1 [4,6,7,8,27,28,29] a Z<|G.perm (L':=[.arr (.slice l n1 o) 50 1 vs.length vs,.obj c (aP keyU.enc E)]) (List.Perm.swap _ _ _)<|Ug (m':=2 ^ n-(i+1)) om_ mup (hn_ [4,6,7,8,27,28,29] Z) ⟨i+1,z,E,vs,l,n1,o,⟨by omega,af,by rw [A hs,pd t];exact p.mono mup,by rw [A hs,pd t];exact q⟩,Z,Z,Z⟩
  have t:hC B b s=true:=by rw [W];simpa using S
  refine VD ae (fun _ _ aA _=>?_);cases aA
  refine TT 4 [4,6,7,10,27,28,29,56] Z<|TW (fun ah=>?_) fun ah=>?_
  ·exact absurd (by simpa using ah) (show ¬ ((vs.length:Int)=200) by omega)
  refine TU 1 Z fun R a=>Uh (ud _ s N) U7<|C4 1 [4,6,7,8,10,27,28,29] a Z<|TU 2 Z fun R a=>UF (nW _ w.m_ s N) U7 (fun aU _ _ ai=>?_);obtain ⟨H,I,rfl,_⟩:=id ai;refine Uq [[.slice H ((ba s).map aN).length I]] U12 fun aV _ _ aB=>Uy (j:=1) U11 aB Z ax (by show (vs.length+1)*24<=_;omega) fl_ fun ak am an=>C4 1 [4,6,7,8,27,28,29] a Z<|TY fun R a=>Ue _ U7<|C4 1 [4,6,7,8,27,28,29] a Z<|Um (L':=[.arr (.slice ak am an) 50 1 (vs++[Value.slice H ((ba s).map aN).length I]).length (vs++[Value.slice H ((ba s).map aN).length I]),.obj c (aP keyU.enc E)]) (by rw [Qi];rfl)<|Ug (m':=2 ^ n-(i+1)) om_ mup (hn_ [4,6,7,8,27,28,29] Z) ⟨i+1,fT s,E,vs++[Value.slice H ((ba s).map aN).length I],ak,am,an,⟨by omega,af,by rw [A hs,AN q r t,QS];exact p.m_.snoc ai.m_,by rw [A hs,AN q r t];exact CL q (by rw [d];exact OE f hs) r⟩,Z,Z,Z⟩
 have ad:i=2 ^ n:=by
  have:=Qe M;omega
 refine TT 3 [2,3] Z<|G.freezeArr 0 (vs.map fun x=>[x]) Z (lg vs) (lf vs) (al _) fun C8 _ Q=>Ui (G.dropAll (Uw U3 ?_));refine ⟨Z,_,Z,vs, ?_,Q⟩;have e:wh (hC B b) (bT n)=F i:=by rw [d,ad,<- K,Qo];rfl
 rw [e];exact p.mono mup
theorem EG (C:Mem)(v:Value)(l:List Nat)(g:Nat)(d:List Value)(a:Nat->Bool)(e:Sl C 1 v (l.map cj))(_A:Jog.Enters cx.P g=true)
  (n:∀ x∈l,∀ D:Mem,C.le D->Gives cx.P g (.int .u64 (x:Nat)::d) D (.bool (a x))) :
  Gives cx.P 124 [v,.func (.func g) #[] ⟨d⟩] C (.int .i64 (H8 a l 0)):=by
 obtain ⟨o,c0,rfl,p,B,_⟩:=id e;have E:maxLen<=9223372036854775807:=by simp [maxLen]
 simp only [al] at e p ⊢;refine Ud func124 19 U3 fun w0=>TT 1 [0,1] Z<|TT 3 [0,1,7,8] Z<|G.loop (fun fr C' q r=>∃ (i:Nat),(i<=l.length/\∀ y∈l.take i,a y=false)/\fr=[(0,[],.slice o l.length c0),(1,[],.func (.func g) #[] ⟨d⟩),(7,[],.int .i64 l.length),(8,[],.int .i64 i)]/\q=[]/\r=l.length-i) (hn_ [0,1,7,8] Z) ⟨0,⟨Qf _,by simp⟩,Z,Z,Z⟩ (fun fr F H m s t=>?_);obtain ⟨i,⟨I,b⟩,rfl,rfl,rfl⟩:=t;refine TT 1 [0,1,7,8,9] Z<|TW (fun f=>?_) fun f=>?_
 ·have h:i<l.length:=by simpa using f
  obtain ⟨x,c⟩:∃ x,l[i]?=some x:=⟨l[i],aj h⟩;refine TT 2 [0,1,5,7,8] Z<|TU 3 Z fun R j=>Ul e.m_ U10 om_ (gb c) fl_ fun J u=>TV u U8<|Uh (n x (Qc c) _ mup) U7<|TZ [0,1,5,7,8,16] j Z<|TW (fun k=>?_) fun k=>?_
  ·have w:a x=true:=k;exact TT 2 [4] Z<|Ub U2<|⟨by rw [nU c w b,Rz],Z⟩
  have z:a x=false:=k;refine TY fun R j=>Ue _ U7<|C4 1 [0,1,7,8] j Z<|Ug (m':=l.length-(i+1)) om_ s (hn_ [0,1,7,8] Z) ⟨i+1,⟨by omega,fun y hy=>by
   rw [QF,c] at hy;rcases Qt.1 hy with hy | hy
   ·exact b y hy
   simp only [Rv,Qx] at hy;subst hy;exact z⟩,Z,Z,Z⟩
 have h:i=l.length:=by
  have:¬ i<l.length:=by simpa using f
  omega
 exact TT 1 [4] Z<|Ub U2<|⟨by rw [h,Qo] at b;rw [lF b],Z⟩
theorem LX (C:Mem)(v:Value)(l:List Nat)(g:Nat)(b:List Value)(a:Nat->Bool)(c:Sl C 1 v (l.map cj))(d:Jog.Enters cx.P g=true)
  (e:∀ x∈l,∀ D:Mem,C.le D->Gives cx.P g (.int .u64 (x:Nat)::b) D (.bool (a x))) :
  Gives cx.P 80 [v,.func (.func g) #[] ⟨b⟩] C (.bool (l.any a)):=by
 refine Ud func80 9 U3 fun w0=>TT 1 [0,1] Z<|TU 2 Z fun R f=>Uh (EG _ v l g b a c.m_ d (fun x h D j=>e x h D (Mem.le.trans mup j))) U7<|C4 2 [4] f Z<|Ub U2<|⟨?_,Z⟩;congr 1;rcases rQ a l with ⟨h1,h2⟩ | ⟨i,x,h1,h2,h3,_⟩
 ·rw [h1,List.any_eq_false.2 (fun y hy=>by rw [h2 y hy];decide)];rfl
 rw [h1,SN.2 ⟨x,Qc h2,h3⟩];exact Qr om_
theorem Ir (C:Mem)(v:Value)(l:List Nat)(g:Nat)(c:List Value)(b:Nat->Bool)(d:Jog.Enters cx.P g=true)(e:∀ x∈l,∀ D:Mem,C.le D->Gives cx.P g (.int .u64 (x:Nat)::c) D (.bool (b x))) :
  Jog.Fn cx.P 80 [v,.func (.func g) #[] ⟨c⟩] C [.arr v 99 1 l.length (l.map cj).flatten] fun u _ a=>u=.bool (l.any b)/\a=[.arr v 99 1 l.length (l.map cj).flatten] :=
 Fn.mono (Vz (L:=[]) (post:=fun u a=>u=.bool (l.any b)/\a=[]) kr_ (qe l) (al _) fun C' hC hs=>Fn.mono (LX C' v l g c b hs d fun x f D i=>e x f D (hC.trans i)) fun u _ a _ h=>⟨h.1,h.2⟩) fun u _ j _ ⟨a,h1,h2,h3⟩=>⟨h2,by rw [h1,h3]⟩
theorem ML (C:Mem)(a s x:Nat)(f:s<18446744073709551616)(g:x<18446744073709551616)(b:C a=some (.cells ⟨[.int .u64 (s:Nat)]⟩ 99 (0,0))) :
  Gives cx.P 81 [.int .u64 (x:Nat),.pointer (some ⟨a,0,none⟩)] C (.bool (x &&& s == x)):=by
 refine Ud func81 9 U3 fun w0=>TT 1 [0,1] Z<|TU 1 Z fun R c=>TV (bkT b 1) U8<|Vi (x) (s) U8 om_ om_ U2<|C4 3 [3] c Z<|Ub U2<|⟨?_,Z⟩;congr 1;by_cases e:x &&& s=x
 ·rw [e];simp
 have d:¬ (((x &&& s:Nat):Int)=x):=fun h=>e (Int.ofNat_inj.1 h);rw [Rk.2 d,Rk.2 e]
def Ik (l:List Nat):List (List Value):=l.map fun s=>[.int .u64 (s:Nat),.int .i64 0]
theorem Dr (C:Mem)(V:Tabs C)(B:Bk)(W:List Rat)(c:Nat->List RowQ)(o d:Nat)(Y:SrchIn C B o d)(h:Calm B W c)(u:B.obs.length<6) :
  IterM cx.P 46 #[.pointer (some ⟨o,0,none⟩)] #[] C [.obj d (aP keyU.enc [])] (Ik (jm (hS B c) (bT B.obs.length))):=by
 have aD:maxLen<=9223372036854775807:=by simp [maxLen]
 obtain ⟨n,hn⟩:∃ n,B.obs.length=n:=⟨_,rfl⟩;have ak:=fun (D:Mem)(f:C.le D)(s:Nat)(km:List (Nat × Value))(hs:s<2 ^ n)=>vT D (V.mono f) B W c o d s km (Y.mono f) h u (hn ▸ hs);have aa:=fun (D:Mem)(f:C.le D)=>AD D (V.mono f) B o d (Y.mono f) u;rw [hn] at u aa ⊢;have aE:=yp u;have A:=oS n;obtain ⟨F,g⟩:∃ F:Nat->List Nat,∀ i,F i=((bT n).take i).foldl (iG (hS B c)) []:=⟨_,fun _=>rfl⟩;have ab:F 0=[]:=by rw [g,List.take_zero];rfl
 have am:∀ {i s},(bT n)[i]?=some s->F (i+1)=iG (hS B c) (F i) s:=fun {i s} hs=>by rw [g,g,pX hs]
 have an:F (2 ^ n)=jm (hS B c) (bT n):=by rw [g,<- A,Qo];rfl
 have ao:∀ i,∃ t,jm (hS B c) (bT n)=F i++t:=fun i=>by
  unfold jm;rw [g]
  conv=>enter [1,t,1];rw [<- Rh i (bT n),List.foldl_append]
  exact xl _ _ _
 have ap:∀ i,∀ x∈F i,x<2 ^ n:=fun i x v=>by
  rw [g] at v;rcases qu _ _ v with h | h
  ·cases h
  exact fQ (Ro h)
 have aq:∀ i,i<=2 ^ n->(F i).length<=32:=fun i hi=>by
  rw [g];have h1:=xm (h:=hS B c) ((bT n).take i) [];rw [Qq] at h1;simp only [Qu] at h1;omega
 refine IterM.intro (fb:=[.pointer (some ⟨o,0,none⟩)]) (lb:=[]) kr_ func46 Z 44 Z Z fun l I X L hY h0 w0=>?_;refine TT 1 [0,1,4] Z ?_;refine Uv [(1,3)] Z (fun R a=>?_);refine TX U6 ?_;refine D.call (aa _ mup) Z (.inr dc_) U6 (Qh _) fl_ (fun aG _ aH _ ar=>?_);obtain ⟨As,ns,cs,rfl,rfl⟩:=ar;refine C4 2 [0,1,4,10,11,12] a Z ?_;clear a R;refine G.freezeArr 0 ((bT n).map cj) Z Z (qe _) (by rw [al,A]) (fun _ _ ac=>?_);obtain ⟨_,_,ad,_⟩:=id ac;rw [al,A] at ad;cases ad
 refine G.nilArr 99 1 ?_;refine G.loop (fun fr C' L' μ=>∃ (i:Nat)(km:List (Nat × Value))(k:List Ent)(p:Option Addr)(n1 q:Nat),(i<=2 ^ n/\xJ (hS B c) km/\I (F i).length k)/\fr=[(0,[],.pointer (some ⟨o,0,none⟩)),(1,[],.func (.yield l) #[] #[]),(4,[],.slice p n1 q),(10,[],.slice As (2 ^ n) cs),(11,[],.int .i64 ((2 ^ n:Nat):Int)),(12,[],.int .i64 i)]/\L'=.arr (.slice p n1 q) 99 1 (F i).length ((F i).map cj).flatten::.obj d (aP keyU.enc km)::k/\μ=2 ^ n-i) (hn_ [0,1,4,10,11,12] Z) ⟨0,[],L,none,0,0,⟨Qf _,wP _,by rw [ab];exact h0⟩,Z,by rw [ab];rfl,Z⟩ (fun fr aK aL m _ hI=>?_);obtain ⟨i,km,k,p,n1,q,⟨hi,ae,w⟩,rfl,rfl,rfl⟩:=hI;refine TT 1 [0,1,4,10,11,12,13] Z ?_;refine TW (fun E=>?_) fun E=>?_
 ·have ag:i<2 ^ n:=by
   have:=aJ E;omega
  obtain ⟨s,hs⟩:∃ s,(bT n)[i]?=some s:=⟨(bT n)[i]'om_,aj om_⟩;have au:s<2 ^ n:=fQ (Qc hs);have aM:=aq i hi;have H:=am hs;refine VD af (fun _ _ av _=>?_);cases av
  refine TY fun R a=>?_;refine Ul ac.m_ U10 om_ (gb hs) fl_ (fun aN aw=>?_);refine TV aw U8 ?_;refine Uo U5 (fun b6=>?_);refine Uf (j:=0) U12 ?_;refine TZ [0,1,4,6,10,11,12] a Z ?_;clear a R;refine G.freeze 0 Z (fun _ _ y=>?_);refine Uv [(2,3)] Z (fun R a=>?_);refine Ua 2 Z ?_;refine D.call (Ir _ _ (F i) 81 [.pointer (some ⟨b6,0,none⟩)] (fun x=>x &&& s == x) kr_ (fun x v D f=>ML D b6 s x om_ (by have:=ap i x v;omega) (f _ _ (Mem.get y mup)))) Z (.inr dc_) U6 (Qh (_::_)) fl_ (fun aO _ aQ _ ay=>?_);obtain ⟨rfl,rfl⟩:=ay;refine TZ [0,1,4,6,10,11,12,18] a Z ?_;clear a R;refine TW (fun J=>?_) fun J=>?_
  ·have r:F (i+1)=F i:=by
    rw [H];unfold iG;rw [show ((F i).any fun x=>x &&& s == x)=true from J];rfl
   refine TY fun R a=>?_;refine Ue _ U7 ?_;refine C4 1 [0,1,4,10,11,12] a Z ?_;clear a R;refine Ug (m':=2 ^ n-(i+1)) om_ mup (hn_ [0,1,4,10,11,12] Z) ⟨i+1,km,k,p,_,q,⟨by omega,ae,by rw [r];exact w⟩,Z,by rw [r];rfl,Z⟩
  refine Uv [(2,3)] Z (fun R a=>?_);refine TX U6 ?_;refine TV (bkT y 1) U8 ?_;refine D.call (ak _ mup s km au ae) Z (.inr dc_) U6 (List.Perm.swap _ _ _) fl_ (fun aR _ aS _ az=>?_);obtain ⟨rfl,z,ah,rfl⟩:=az;refine C4 5 [0,1,4,6,7,8,10,11,12] a Z ?_;clear a R;refine TU 4 Z fun R a=>?_;refine Uu U8 ?_;refine TZ [0,1,4,6,8,10,11,12,29] a Z ?_;clear a R;refine TW (fun K=>?_) fun K=>?_
  ·have M:hS B c s=true:=by simpa using K
   have r:F (i+1)=F i:=by
    rw [H];unfold iG;rw [M,Bool.or_true];rfl
   refine TY fun R a=>?_;refine Ue _ U7 ?_;refine C4 1 [0,1,4,10,11,12] a Z ?_;clear a R;refine G.perm _ (List.Perm.swap _ _ _) ?_;refine Ug (m':=2 ^ n-(i+1)) om_ mup (hn_ [0,1,4,10,11,12] Z) ⟨i+1,z,k,p,_,q,⟨by omega,ah,by rw [r];exact w⟩,Z,by rw [r],Z⟩
  have M:hS B c s=false:=by simpa using K
  have N:F (i+1)=F i++[s]:=by
   rw [H];unfold iG;rw [M,Bool.or_false,show ((F i).any fun x=>x &&& s == x)=false from J];rfl
  obtain ⟨tl,ai⟩:=ao (i+1);rw [N] at ai;have hv:(Ik (jm (hS B c) (bT n)))[(F i).length]?=some [.int .u64 (s:Nat),.int .i64 0]:=by
   rw [ai];unfold Ik;rw [Qg,QJ,QH (Qb _),SE];rfl
  refine TU 1 Z fun R a=>?_;refine TV (bkT y 1) U8 ?_;refine Uq [cj s] U12 (fun aT _ _ aA=>?_);refine Uy (j:=1) U11 aA Z ax (by show ((F i).length+1)*8<=_;omega) fl_ (fun O Q S=>?_);refine C4 1 [0,1,4,6,8,10,11,12] a Z ?_;clear a R;refine Um (L':=.arr (.slice O Q S) 99 1 (F i++[s]).length ((F i++[s]).map cj).flatten::.obj d (aP keyU.enc z)::k) (by rw [QS,QW,Qi];rfl) ?_;refine WR 3 [0,1,2] [4,5,6,7,8] [] (YW.plain _) Z Z Z Z Z Z (fun R T hy=>?_);refine TX U6 ?_;refine TV (bkT y 1) U8 ?_;refine TX U6 ?_;refine hy (hY _ _ _ hv w) mup Z Z Z Z (Lo:=[.arr (.slice O Q S) 99 1 (F i++[s]).length ((F i++[s]).map cj).flatten,.obj d (aP keyU.enc z)]) (QQ (l₁:=[_,_])) fl_ (fun b L2 hb R T a=>?_);rcases hb with ⟨rfl,aB⟩ | ⟨rfl,aC⟩
  ·refine Ua 4 Z ?_;refine UB U8 ?_;refine TZ [0,1,4,10,11,12,42] a Z ?_;clear a T R;refine G.cond Z (fun U=>absurd U dc_) (fun _=>?_);refine TY fun R a=>?_;refine Ue _ U7 ?_;refine C4 1 [0,1,4,10,11,12] a Z ?_;clear a R;refine G.perm _ (QQ (l₂:=[_,_])) ?_;refine Ug (m':=2 ^ n-(i+1)) om_ mup (hn_ [0,1,4,10,11,12] Z) ⟨i+1,z,L2,O,Q,S,⟨by omega,ah,by rw [N,Qi];exact aB⟩,Z,by rw [N];rfl,Z⟩
  refine Ua 4 Z ?_;refine UB U8 ?_;refine TZ [0,1,4,10,11,12,42] a Z ?_;clear a T R;refine G.cond Z (fun _=>?_) (fun U=>absurd U dc_);refine G.perm _ (QQ (l₂:=[_,_])) ?_;refine Ui (VL Z ?_);exact ⟨[_,_],L2,Z,.inr ⟨_,(aF.1 hv).1,aC⟩⟩
 have ag:i=2 ^ n:=by
  have:=Qe E;omega
 refine Vh Z ?_;refine ⟨[_,_],k,Z,.inl ?_⟩;have e:(Ik (jm (hS B c) (bT n))).length=(F i).length:=by rw [ag,an,Ik,al]
 rw [e];exact w
inductive SmallO (l:List Nat) (D:Mem):Value->Prop where
 | none:l=[]->SmallO l D (.tuple #[.slice none 0 0,.bool false,.int .i64 0])
 | some (x:Nat) (v:Value):l.head?=some x->Sl D 1 v ((ba x).map aN)->SmallO l D (.tuple #[v,.bool true,.int .i64 0])
theorem LR {j:Nat}(h:(Ik l)[j]?=some v):∃ x,l[j]?=some x/\v=[.int .u64 (x:Nat),.int .i64 0]:=by
 unfold Ik at h;rw [Qg] at h;cases a:l[j]? with
 | none=>rw [a] at h;cases h
 | some x=>rw [a] at h;exact ⟨x,rfl,(RK h).symm⟩
theorem zP (h:v∈Ik l):∃ x,x∈l/\v=[.int .u64 (x:Nat),.int .i64 0]:=by
 obtain ⟨x,a,rfl⟩:=Qk.1 h;exact ⟨x,a,Z⟩
theorem Ks {x:Nat}(a:x∈jm h (bT n)):x<2 ^ n:=by
 rcases qu _ _ a with h | h
 ·cases h
 exact fQ h
theorem zp (C:Mem)(t:Tabs C)(w:Value)(B:Bk)(y:List Rat)(l:Nat->List RowQ)(E:BookIn C w B)(h:Calm B y l)(F:B.obs.length<6) :
  Pur cx.P 21 [w] C fun u D=>SmallO (jm (hS B l) (bT B.obs.length)) D u:=by
 have ad:maxLen<=9223372036854775807:=by simp [maxLen]
 have ag:=yp F;have K:=E;obtain ⟨cs,H⟩:∃ cs,jm (hS B l) (bT B.obs.length)=cs:=⟨_,rfl⟩;have M:∀ x∈cs,x<32:=fun x d=>by have:=Ks (H ▸ d);omega
 have N:=fun (D:Mem)(m:C.le D)=>Ay D (t.mono m) w B y l (K.mono m) h om_;have I:=fun (D:Mem)(m:C.le D)(o p:Nat)(z:SrchIn D B o p)=>Dr D (t.mono m) B y l o p z h F;simp only [H] at I ⊢;obtain ⟨v1,v2,tv,cv,ov,rfl,_⟩:=id E.ex;refine Vr kr_ func21 Z 25 Z Z fun w0=>TY fun R b=>Up U6 fun b1=>Uo U5 fun f=>Uo U5 fun g=>Uo U5 fun i=>TZ [1,2,3,4] b Z<|G.freeze 3 Z fun _ _ O=>Uv [(1,3)] Z fun R b=>TV (bkT O 5) U8<|D.call (N _ mup) Z (.inr dc_) U6 (Qh _) fl_ (fun ah _ ai _ Q=>?_);obtain ⟨o,p,rfl,z,rfl⟩:=Q;refine Ua 4 Z<|Uf (j:=1) U12<|TZ [2,3,4,5] b Z<|TY fun R b=>Uc af U9<|C4 1 [2,3,4,5,14] b Z<|G.cond Z (fun S=>absurd S dc_) fun _=>TT 2 [2,3,4,17] Z ?_;have T:=I _ mup o p z;refine WT (ps:=[18,19]) (Lr:=[.obj i (.cells ⟨[.int .i64 0]⟩ 46 (0,0)),.obj g (.cells ⟨[.bool false]⟩ 4 (0,0)),.obj f (.cells ⟨[.slice none 0 0]⟩ 50 (0,0))]) Z Z kr_ T (List.Perm.swap _ _ _) (fun v k=>?_)
  (fun j a=>j=0/\a=[.obj i (.cells ⟨[.int .i64 0]⟩ 46 (0,0)),.obj g (.cells ⟨[.bool false]⟩ 4 (0,0)),.obj f (.cells ⟨[.slice none 0 0]⟩ 50 (0,0))])
  (fun q j a=>q=.ret/\∃ (x:Nat)(A:Option Addr)(n c:Nat),cs.head?=some x/\a=[.obj i (.cells ⟨[.int .i64 0]⟩ 46 (0,0)),.obj g (.cells ⟨[.bool true]⟩ 4 (0,0)),.obj f (.cells ⟨[.slice A n c]⟩ 50 (0,0)),.arr (.slice A n c) 3 1 (ba x).length ((ba x).map aN).flatten])
  ⟨rfl,rfl⟩ (fun v k=>?_)
  (fun j a J LA=>j=0/\∃ x,cs[0]?=some x/\J=[(2,[],.pointer (some ⟨f,0,none⟩)),(3,[],.pointer (some ⟨g,0,none⟩)),(4,[],.pointer (some ⟨i,0,none⟩)),(6,[],.int .u64 (x:Nat)),(7,[],.int .i64 0)]/\LA=[.obj i (.cells ⟨[.int .i64 0]⟩ 46 (0,0)),.obj g (.cells ⟨[.bool false]⟩ 4 (0,0)),.obj f (.cells ⟨[.slice none 0 0]⟩ 50 (0,0))])
  ?_ ?_ ?_ ?_
 ·obtain ⟨x,_,rfl⟩:=zP k;rfl
 ·obtain ⟨x,_,rfl⟩:=zP k;rfl
 ·intro l2 j v a W1 r k;obtain ⟨rfl,rfl⟩:=r;obtain ⟨x,d,rfl⟩:=LR k;exact TT 1 [2,3,4,6,19] Z<|TT 1 [2,3,4,6,7] Z<|WM [(2,[],_),(3,[],_),(4,[],_),(6,[],_),(7,[],_)] ⟨Z,Z,Z,Z,Z,trivial⟩ ⟨Z,x,d,Z,Z⟩
 ·intro l2 j v a J LA W1 r k U;obtain ⟨rfl,x,d,rfl,rfl⟩:=U;have V:=M x (Qc d);refine TT 2 [2,3,4,6,21] Z<|G.cond Z (fun W=>absurd W dc_) fun _=>Uv [(1,3)] Z fun R b=>TX U6<|D.call (Gu _ t.m_ x V) Z (.inr dc_) U6 (Qh _) fl_ (fun aj _ ak _ Y=>?_);obtain ⟨A,n,c,rfl,rfl⟩:=Y;refine Uf (j:=3) U12<|Uf (j:=3) U12<|Uf (j:=3) U12<|TZ [2,3,4] b Z<|Ui (WW (e:=.ret) (c:=.ret) (X:=fun q a=>q=.ret/\_) Z ⟨Z,x,A,n,c,by rw [List.head?_eq_getElem?];exact d, ?_⟩);rfl
 ·intro s a r;obtain ⟨h0,rfl⟩:=r;have aa:cs=[]:=by
   unfold Ik at h0;rw [al] at h0;exact QU h0
  exact TY fun R b=>Uf (j:=3) U12<|Uf (j:=3) U12<|Uf (j:=3) U12<|TZ [2,3,4] b Z<|Ui<|G.perm (L':=[s].map rq++[.obj i (.cells ⟨[.int .i64 0]⟩ 46 (0,0)),.obj g (.cells ⟨[.bool false]⟩ 4 (0,0)),.obj f (.cells ⟨[.slice none 0 0]⟩ 50 (0,0))]) (pkL [3,0,0,0] Z)<|V6 (Ds:=[s]) (.inl Z) (Fi ac ae af Z Z Z Z Z Z Z Z Z Z) ⟨Z,.none aa⟩
 intro s j q a hj hX;obtain ⟨rfl,x,A,n,c,d,rfl⟩:=hX;exact UI 64<|G.freezeArr 4 ((ba x).map aN) Z Z (lY _) (al _) fun Cf hf ab=>Ui<|V6 (Ds:=[s]) (L:=[.obj i (.cells ⟨[.int .i64 0]⟩ 46 (0,0)),.obj g (.cells ⟨[.bool true]⟩ 4 (0,0)),.obj f (.cells ⟨[.slice A n c]⟩ 50 (0,0))]) (.inl Z) (Fi ac ae af Z Z Z Z Z Z Z Z Z Z) ⟨Z,.some x _ d ab⟩
theorem wU :D6 B RO l ↔ ∃ y:Nat->Rat,∀ r∈eU B RO l,Lp.sumN (fun j=>r.f.getD j 0*y j) (bs B*bp B)<=r.b:=by
 have hm:(eH (bs B*bp B) (jY (eU B RO l))).m=(eU B RO l).length:=al _;refine exists_congr fun y=>⟨fun h r hr=>?_,fun h i a=>?_⟩
 ·obtain ⟨i,a⟩:=RB hr;obtain ⟨h1,h2⟩:=aF.1 a;have h3:=h i (by rw [hm];exact h1);have e:(jY (eU B RO l)).getD i ([],0)=(r.f,r.b):=by rw [tG h1,h2]
  have h4:Lp.sumN (fun j=>((jY (eU B RO l)).getD i ([],0)).1.getD j 0*y j) (bs B*bp B)<=((jY (eU B RO l)).getD i ([],0)).2:=h3;rw [e] at h4;exact h4
 rw [hm] at a;have h4:=h _ (Q8 a);have e:(jY (eU B RO l)).getD i ([],0)=((eU B RO l)[i].f,(eU B RO l)[i].b):=tG a;show Lp.sumN (fun j=>((jY (eU B RO l)).getD i ([],0)).1.getD j 0*y j) (bs B*bp B)<=((jY (eU B RO l)).getD i ([],0)).2;rw [e];exact h4
theorem JW (h:D6 B RO l):jf B RO l=true:=@Qr _ (Classical.propDecidable _) h
theorem GN (h:¬ D6 B RO l):jf B RO l=false:=@QC _ (Classical.propDecidable _) h
theorem jl {x:Nat}(h:l[k]?=some x):(l.map aN)[k]?=some (aN x):=by rw [Qg,h];rfl
theorem G8 {c:Type}{a b:List c}(h:k<a.length)(d:k<b.length):(a.drop k=b.drop k ↔ a[k]=b[k]/\a.drop (k+1)=b.drop (k+1)):=by
 rw [QG h,QG d,Sq]
theorem wJ (C:Mem)(v w:Value)(a b:List Nat)(d:Sl C 1 v (a.map aN))(f:Sl C 1 w (b.map aN)):Gives cx.P 22 [v,w] C (.bool (decide (a=b))):=by
 obtain ⟨A,c,rfl,u,K,_⟩:=id d;obtain ⟨A2,c2,rfl,_⟩:=id f;have L:maxLen<=9223372036854775807:=by simp [maxLen]
 simp only [al] at d f u ⊢;refine Ud func22 26 U3 fun w0=>TT 1 [0,1] Z<|TT 5 [0,1,10] Z<|TW (fun g=>?_) fun g=>?_
 ·have r:(a.length:Int)≠b.length:=by simpa using g
  exact TT 1 [4] Z<|Ub U2<|⟨by rw [QC (fun e=>r (by rw [e]))],Z⟩
 have r:(a.length:Int)=b.length:=by simpa using g
 refine TT 1 [0,1,5] Z<|G.loop (fun fr C' z B=>∃ (k:Nat),(k<=a.length/\(a=b ↔ a.drop k=b.drop k))/\fr=[(0,[],.slice A a.length c),(1,[],.slice A2 b.length c2),(5,[],.int .i64 k)]/\z=[]/\B=a.length-k) (hn_ [0,1,5] Z) ⟨0,⟨Qf _,Iff.rfl⟩,Z,Z,Z⟩ (fun fr M N m D E=>?_);obtain ⟨k,⟨O,i⟩,rfl,rfl,rfl⟩:=E;refine TT 4 [0,1,5,14] Z<|TW (fun j=>?_) fun j=>?_
 ·have l:k<a.length:=by
   have:=aJ j;omega
  have s:k<b.length:=by omega
  obtain ⟨x,t⟩:∃ x,a[k]=x:=⟨_,rfl⟩;obtain ⟨y,hy⟩:∃ y,b[k]=y:=⟨_,rfl⟩;have n:=G8 l s;rw [t,hy] at n;have F:a[k]?=some x:=by rw [aj l,t]
  have H:b[k]?=some y:=by rw [aj s,hy]
  refine Ur [0,1,2,3,4,5,6,7,8] [] Z kr_ fun R Q o=>Ua 2 Z<|Ul d.m_ U10 om_ (jl F) fl_ fun S I=>TV I U8<|Ua 2 Z<|Ul f.m_ U10 om_ (jl H) fl_ fun T J=>TV J U8<|C4 1 [0,1,5,25] o Z<|TW (fun p=>?_) fun p=>?_
  ·have q:x≠y:=fun e=>by subst e;simp at p
   exact TT 1 [4] Z<|Ub U2<|⟨by rw [QC (fun e=>q (n.1 (i.1 e)).1)],Z⟩
  have q:x=y:=by
   have:(x:Int)=y:=by simpa using p
   omega
  refine TU 1 Z fun R o=>Ue _ U7<|C4 1 [0,1,5] o Z<|Ug (m':=a.length-(k+1)) om_ D (hn_ [0,1,5] Z) ⟨k+1,⟨by omega,i.trans (n.trans ⟨fun h=>h.2,fun h=>⟨q,h⟩⟩)⟩,Z,Z,Z⟩
 have l:k=a.length:=by
  have:=Qe j;omega
 exact TT 1 [4] Z<|Ub U2<|⟨by rw [Qr (i.2 (by rw [Ry om_,Ry om_]))],Z⟩
theorem ul (C:Mem)(v w:Value)(a b:List (List Nat))(d:OutsIn C v a)(f:OutsIn C w b)(Y:a.length<=1000):Gives cx.P 17 [v,w] C (.bool (decide (a=b))):=by
 obtain ⟨g,z,d⟩:=d;obtain ⟨i,B,f⟩:=f;obtain ⟨A,c,rfl,J,aa,_⟩:=id d;obtain ⟨A2,c2,rfl,_⟩:=id f;have ab:maxLen<=9223372036854775807:=by simp [maxLen]
 have K:=z.1;have L:=B.1;simp only [al,K,L] at d f J ⊢;refine Ud func17 27 U3 fun w0=>TT 1 [0,1] Z<|TT 5 [0,1,10] Z<|TW (fun j=>?_) fun j=>?_
 ·have D:(a.length:Int)≠b.length:=by simpa using j
  exact TT 1 [4] Z<|Ub U2<|⟨by rw [QC (fun e=>D (by rw [e]))],Z⟩
 have D:(a.length:Int)=b.length:=by simpa using j
 refine TT 1 [0,1,5] Z<|G.loop (fun fr C' M N=>∃ (k:Nat),(k<=a.length/\(a=b ↔ a.drop k=b.drop k))/\fr=[(0,[],.slice A a.length c),(1,[],.slice A2 b.length c2),(5,[],.int .i64 k)]/\M=[]/\N=a.length-k) (hn_ [0,1,5] Z) ⟨0,⟨Qf _,Iff.rfl⟩,Z,Z,Z⟩ (fun fr ac ad m O Q=>?_);obtain ⟨k,⟨hk,l⟩,rfl,rfl,rfl⟩:=Q;refine TT 4 [0,1,5,14] Z<|TW (fun n=>?_) fun n=>?_
 ·have o:k<a.length:=by
   have:=aJ n;omega
  have E:k<b.length:=by omega
  obtain ⟨x,F⟩:∃ x,a[k]=x:=⟨_,rfl⟩;obtain ⟨y,hy⟩:∃ y,b[k]=y:=⟨_,rfl⟩;have r:=G8 o E;rw [F,hy] at r;obtain ⟨p,H⟩:∃ p,g[k]?=some p:=⟨g[k]'om_,aj om_⟩;obtain ⟨q,I⟩:∃ q,i[k]?=some q:=⟨i[k]'om_,aj om_⟩;have S:(g.map fun x=>[x])[k]?=some [p]:=by rw [Qg,H];rfl
  have T:(i.map fun x=>[x])[k]?=some [q]:=by rw [Qg,I];rfl
  have U:=z.2 k p x H (by rw [aj o,F]);have V:=B.2 k q y I (by rw [aj E,hy]);refine Ur [0,1,2,3,4,5,6,7,8,9] [(8,1)] Z kr_ fun R hB s=>Ua 2 Z<|Ul d.m_ U10 om_ S fl_ fun ae W=>TV W U8<|Ua 2 Z<|Ul f.m_ U10 om_ T fl_ fun af X=>TV X U8<|UC (fun _=>(wJ _ _ _ x y U.m_ V.m_)) U9<|C4 1 [0,1,5,26] s Z<|TW (fun t=>?_) fun t=>?_
  ·have u:x≠y:=by simpa using t
   exact TT 1 [4] Z<|Ub U2<|⟨by rw [QC (fun e=>u (r.1 (l.1 e)).1)],Z⟩
  have u:x=y:=by simpa using t
  refine TU 1 Z fun R s=>Ue _ U7<|C4 1 [0,1,5] s Z<|Ug (m':=a.length-(k+1)) om_ O (hn_ [0,1,5] Z) ⟨k+1,⟨by omega,l.trans (r.trans ⟨fun h=>h.2,fun h=>⟨u,h⟩⟩)⟩,Z,Z,Z⟩
 have o:k=a.length:=by
  have:=Qe n;omega
 exact TT 1 [4] Z<|Ub U2<|⟨by rw [Qr (l.2 (by rw [Ry om_,Ry om_]))],Z⟩
end Go.Proofs.YthnpijdjlddpmaaGreatDoor
