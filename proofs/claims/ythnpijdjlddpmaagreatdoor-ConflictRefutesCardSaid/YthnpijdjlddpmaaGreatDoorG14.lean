/- Laws that the proofs of this seat share, part 14. -/
import Derived.Test.YthnpijdjlddpmaaGreatDoorG13
import Derived.Test.YthnpijdjlddpmaaGreatDoorShelf
set_option maxHeartbeats 4000000
namespace Go.Proofs.YthnpijdjlddpmaaGreatDoor
open Go.Proofs.Tryz
open Go Go.Jog
set_option maxRecDepth 100000
variable {B:Bk}{C:Mem}{RO:Nat->List RowQ}{d:List Str}{i j k:Nat}{l:List Nat}{n:Nat}{o:List Int}{outs:List (List Nat)}{q:Rat}{rs:List (List Rat × Rat)}{v vs:List Value}{x:Nat}
def duL (rs:List (List Rat × Rat))(du:Nat->Rat):List Rat:=(List.range rs.length).map du
section
variable {n:Nat} {rs:List (List Rat × Rat)} {du:Nat->Rat}
theorem NG:(duL rs du).length=rs.length:=by simp [duL]
theorem Qu (h:Lp.InfR (dt n rs) 16 du):∀ x∈duL rs du,QB 16 x:=fun x a=>by
 obtain ⟨k,_,rfl⟩:=QO.1 a;exact h.qd k
end
def rwS (B:Bk)(RO:Nat->List RowQ)(l:List Nat):List (List Rat × Rat):=gG (dT B RO l)
def L4 (B:Bk)(RO:Nat->List RowQ)(l:List Nat)(L:List Ent)(u:Value):Prop:=∃ (A:Option Addr)(c:Nat)(ds:List Rat),
 u=.tuple #[.agg ⟨[.slice A ds.length c]⟩,.bool (!gS B RO l),.int .i64 0]/\L=[.arr (.slice A ds.length c) 56 1 ds.length (ds.map aZ).flatten]/\(gS B RO l=true->ds=[]) /\
 (gS B RO l=false->∃ du,Lp.InfR (dt (bs B*bp B) (rwS B RO l)) 16 du/\ds=duL (rwS B RO l) du)
theorem FU (C:Mem)(d:Tabs C)(e f:Value)(B:Bk)(M:List Rat)(b:Nat->List RowQ)(l:List Nat)(g:BookIn C e B)(h:Calm B M b)(c:AscIn B.obs.length l)(z:Sl C 1 f (l.map aL)) :
  Jog.Fn cx.P 28 [e,f] C [] fun u _ N=>L4 B b l N u:=by
 have O:=g;have Q:=h.rich.bookz d g;have A:=h.cnt c.set;have E:=fun (D:Mem)(i:C.le D)=>jR D e f B (bj (bi B) b l) (Q.mono i) (by have:=h.n12;omega) (by unfold dT at A;rw [aw] at A;omega) (eP D (d.mono i) e f (g.mono i) h c.set (z.mono i));obtain ⟨n,p⟩:∃ n,bs B*bp B=n:=⟨_,rfl⟩;have S:=h.n12;have q:=h.rowsQ c.set;have F:=h.q22 c.set;have s:=h.lim c.set;obtain ⟨rows,k⟩:∃ rows,dT B b l=rows:=⟨_,rfl⟩;have T:gS B b l=@decide (dt n (gG rows)).Hold (Classical.propDecidable _):=by
  unfold gS Em;rw [p,k]
 have U:(bj (bi B) b l).map SrcQ.r=rows:=k;rw [p] at E q s S;rw [k] at q F s;have V:rwS B b l=gG rows:=by unfold rwS;rw [k]
 simp only [L4,p,V];obtain ⟨v1,v2,tv,cv,ov,rfl,_⟩:=id g.ex;have ac:maxLen<=9223372036854775807:=by simp [maxLen]
 refine Uv func28 40 U3 fun w0=>Uq fun R a=>UF U6 fun b2=>UH U5 fun b4=>C4 2 [1,2,4] a Z<|G.freeze 1 Z fun _ _ H=>Uq fun R a=>Un (bkT H 5) U8<|Up U6<|Uy (mm _ d.m_ _ _ O.m_ h c z.m_) U7<|C4 1 [1,2,4,7] a Z<|Ul 2 [1,2,4,7,16] Z<|Uo (fun I=>?_) fun I=>?_
 ·exact absurd I dc_
 refine Uq fun R a=>Un (bkT H 5) U8<|Up U6<|UV (E _ mup) U7 (fun ad _ _ W=>?_);obtain ⟨rv,ae,fv,rfl,t,J,ag⟩:=W.ex;rw [U] at t;obtain ⟨_,_,_,X⟩:=id t;obtain ⟨Ar,cr,rfl,_⟩:=id X;obtain ⟨Ao,co,rfl,_⟩:=id J;refine Us 3 Z<|UH U5 fun b8=>Ux (j:=0) U12<|C4 1 [4,8] a Z<|G.freeze 0 Z fun _ _ Y=>UN [(1,3)] Z fun R a=>Un (bkT Y 3) U8<|D.call (wG _ d.m_ n _ _ (gG rows) (List.replicate n 0) t.m_ J.m_ q (fun x hx=>by rw [(List.mem_replicate.1 hx).2];exact QB_zero.le dc_) F om_ am s) Z (.inr dc_) U6 (QL _) fl_ (fun ah _ ai _ aa=>?_);obtain ⟨vp,Ad,cd,m,ds,rfl,rfl,hy,K⟩:=aa;have o:gS B b l=m:=by
  rw [T];cases m with
  | true=>exact @QZ _ (Classical.propDecidable _) (hy rfl).1
  | false =>
   obtain ⟨_,du,v,_⟩:=K rfl;exact @Q8 _ (Classical.propDecidable _) v.not
 refine Us 6 Z<|Ux (j:=1) U12<|C4 2 [4,6,11] a Z<|Um 4 Z fun R a=>US U8<|Ur [4,6,36] a Z<|Uo (fun w=>?_) fun w=>?_
 ·refine Uq fun R a=>UG [.slice none 0 0] U8<|Up U6<|Ux (j:=0) U12<|C4 2 [4,5,6] a Z<|Ve 1 Z<|G.nilArr 56 1<|Uz (Ww 1 Z Z Z Z Z Z Z ?_);have L:m=true:=by simpa using w
  refine ⟨none,0,[], ?_,Z,fun _=>rfl,fun h=>?_⟩
  ·rw [o,L];rfl
  rw [o,L] at h;cases h
 refine Uq fun R a=>Uu af U9<|Ux (j:=0) U12<|C4 2 [4,5,6] a Z<|Uz (Ww 0 Z Z Z Z Z Z Z ?_);have y:m=false:=by simpa using w
 obtain ⟨_,du,v,ab⟩:=K y;refine ⟨Ad,cd,ds, ?_,Z,fun h=>?_,fun _=>⟨du,v,ab⟩⟩
 ·rw [o,y];rfl
 rw [o,y] at h;cases h
theorem Fy (h:∀ r∈rs,(∀ x∈r.1,QB 22 x)/\QB 22 r.2):N4 (rs.map dz):=fun r hr=>by
 obtain ⟨x,a,rfl⟩:=QO.1 hr;obtain ⟨h1,h2⟩:=h x a;refine ⟨fun s hs=>?_,Q0 (bG h2 dc_) dc_⟩;obtain ⟨q,b,rfl⟩:=QO.1 hs;exact Q0 (bG (h1 q b) dc_) dc_
theorem pp (C:Mem)(e:Tabs C)(f g v:Value)(B:Bk)(K:List Rat)(a:Nat->List RowQ)(l:List Nat)(d:List Str)(i:List Rat)(m:BookIn C f B)(h:Calm B K a)(c:AscIn B.obs.length l)(w:Sl C 1 g (l.map aL))
  (y:Sl C 1 v (d.map eL)) (L:∀ s∈d,s.length<=999998) (M:d.all aX=true->d=i.map qtx/\∀ x∈i,QB 23 x) :
  Gives cx.P 32 [f,g,.agg ⟨[v]⟩] C (.int .i64 (FG (bs B*bp B) ((rwS B a l).map dz) ((List.replicate (bs B*bp B) (0:Rat)).map qtx) d (rwS B a l) i)):=by
 have N:=m;have O:=h.rich.bookz e m;have z:=h.cnt c.set;have A:=fun (D:Mem)(o:C.le D)=>jR D f g B (bj (bi B) a l) (O.mono o) (by have:=h.n12;omega) (by unfold dT at z;rw [aw] at z;omega) (eP D (e.mono o) f g (m.mono o) h c.set (w.mono o));obtain ⟨n,E⟩:∃ n,bs B*bp B=n:=⟨_,rfl⟩;have Q:=h.n12;have p:=h.rowsQ c.set;have F:=h.q22 c.set;obtain ⟨rows,t⟩:∃ rows,dT B a l=rows:=⟨_,rfl⟩;have S:rwS B a l=gG rows:=by unfold rwS;rw [t]
 have T:(bj (bi B) a l).map SrcQ.r=rows:=t;rw [E] at A p Q;rw [t] at p F;rw [E,S];obtain ⟨v1,v2,tv,cv,ov,rfl,_⟩:=id m.ex;obtain ⟨aa,ab,rfl,_⟩:=id y;have ac:maxLen<=9223372036854775807:=by simp [maxLen]
 refine Uv func32 25 U3 fun w0=>Uq fun R b=>UF U6 fun b3=>UF U6 fun b5=>C4 1 [1,3,5] b Z<|G.freeze 1 Z fun _ _ H=>G.freeze 0 Z fun _ _ U=>Uq fun R b=>Un (bkT H 5) U8<|Up U6<|Uy (mm _ e.m_ _ _ N.m_ h c w.m_) U7<|C4 1 [1,3,5,7] b Z<|Ul 2 [1,3,5,7,14] Z<|Uo (fun I=>?_) fun I=>?_
 ·exact absurd I dc_
 refine Uq fun R b=>Un (bkT H 5) U8<|Up U6<|UV (A _ mup) U7 (fun ad _ _ V=>?_);obtain ⟨rv,ae,fv,rfl,u,J,af⟩:=V.ex;rw [T] at u;obtain ⟨_,_,_,W⟩:=id u;obtain ⟨Ar,cr,rfl,_⟩:=id W;obtain ⟨Ao,co,rfl,_⟩:=id J;exact Us 3 Z<|UH U5 fun b8=>Ux (j:=0) U12<|C4 1 [5,8] b Z<|G.freeze 0 Z fun _ _ X=>Uq fun R b=>Un (bkT X 3) U8<|Un (bkT U 1) U8<|UC (pE _ e.m_ n _ _ _ ((gG rows).map dz) ((List.replicate n (0:Rat)).map qtx) d (gG rows) i u.m_ (by rw [<- jB];exact J.mono mup) (Fy F) (fun s hs=>by obtain ⟨q,Y,rfl⟩:=QO.1 hs;rw [(List.mem_replicate.1 Y).2];exact Q0 (bG (k:=22) (QB_zero.le dc_) dc_) dc_) y.m_ L (fun _=>⟨rfl,p⟩) M) U7 fl_<|C4 1 [6] b Z<|Ut U2<|⟨Z,Z⟩
theorem eE (x:Nat):(aL x).length=1:=rfl
theorem zw (C:Mem)(v:Value)(l:List Nat)(hl:l.length<=1000000) :
  Jog.Fn cx.P 55 [v] C [.arr v 3 1 l.length (l.map aL).flatten] fun u C' o=>o=[]/\Sl C' 1 u ((bR l).map aL):=by
 refine Uv func55 61 U3 fun w0=>G.form af (fun Q au=>?_);have ab:l.length<2∨∃ g c,v=.slice (some ⟨g,0,none⟩) l.length c/\l.length<=c/\c<=maxLen:=by
  rcases Q with ⟨h1,h2⟩ | h1
  ·exact .inl om_
  exact .inr h1
 obtain ⟨A,c0,E⟩:∃ A c0,v=.slice A l.length c0:=by
  rcases Q with ⟨h1,h2⟩ | ⟨g,c,h1,_⟩
  ·exact ⟨none,0,by rw [h1,h2]⟩
  exact ⟨_,c,h1⟩
 refine Ul 1 [0] Z ?_;subst E;refine Ul 3 [0,8] Z<|Uo (fun F=>?_) fun F=>?_
 ·simp only [QQ] at F;have H:bR l=l:=nj (fun i x y _ h2=>by have:=(aE.1 h2).1;omega);refine Ul 2 [2] Z<|G.freezeArr 0 (l.map aL) rfl rfl (by intro r hr;obtain ⟨x,_,rfl⟩:=QO.1 hr;exact eE x) am (fun S T p=>Uz (UZ rfl rfl ?_));exact ⟨Z,by rw [H];exact p⟩
 simp only [Q1] at F;obtain ⟨g,c,E,U,av⟩:=ab.resolve_left om_;obtain ⟨rfl,rfl⟩:some (⟨g,0,none⟩:Addr)=A/\c=c0:=by cases E;exact ⟨rfl,rfl⟩
 refine Ul 1 [0,3] Z<|G.loop (fun fr C' o I=>∃ (k:Nat),(1<=k/\k<=l.length/\∀ i x y,i+1<k->l[i]?=some x->l[i+1]?=some y->x≠y)/\fr=[(0,[],.slice (some ⟨g,0,none⟩) l.length c),(3,[],.int .i64 k)]/\o=[.arr (.slice (some ⟨g,0,none⟩) l.length c) 3 1 l.length (l.map aL).flatten]/\I=l.length-k) (hn_ [0,3] Z) ⟨1,⟨QG _,by omega,fun i x y n=>by omega⟩,Z,Z,Z⟩ (fun fr aw ax m ac J=>?_);obtain ⟨k,⟨ay,aA,K⟩,rfl,rfl,rfl⟩:=J;refine Ul 4 [0,3,13] Z<|Uo (fun L=>?_) fun L=>?_
 ·simp only [QQ] at L;obtain ⟨z,M⟩:∃ z,l[k]?=some z:=⟨l[k]'om_,aj om_⟩;obtain ⟨y,hy⟩:∃ y,l[k-1]?=some y:=⟨l[k-1]'om_,aj om_⟩;refine UJ [0,1,2,3,4,5,6,7,8,9] [] Z kr_ fun R hB a=>Us 2 Z<|UR (k*1) U10 ah U2<|Va af U6 (fun _=>(by rw [cP eE M];rfl)) U2<|Us 2 Z<|UX (((k-1:Nat):Int)) U4 om_ om_ om_ U2<|UR ((k-1)*1) U10 ah U2<|Va af U6 (fun _=>(by rw [cP eE hy];rfl)) U2<|C4 1 [0,3,25] a Z<|Uo (fun f=>?_) fun f=>?_
  ·have f:(z:Int)=(y:Int):=by simpa using f
   have f:z=y:=Int.ofNat_inj.1 f;subst f;refine Um 2 Z fun R a=>?_;have hA:(if c=k then (some ⟨g,0,none⟩:Option Addr) else (some (⟨g,0,none⟩:Addr)).map (·.add (k*1)))=some ⟨g,k*1,none⟩:=by
    rw [aB om_];simp only [R8,Addr.add_lit,RR]
   refine Vf k l.length c U12 (fun _=>⟨.inr ⟨_,Z⟩,.inl ⟨Z,Z⟩,.inl ⟨Z,Z⟩,by omega,U,QG _⟩) U2 ?_;rw [hA];refine Up U6<|VH [E_ 0 _,E_ 3 _,(4,[],(.slice (some ⟨g,k*1,none⟩) (l.length-k) (c-k)))] a<|Ul 1 [0,3,4,5] Z ?_;have ad:bR (l.take k)=l.take k:=nj (fun i x y h1 h2=>by
    have hb:=(aE.1 h2).1;simp only [QW] at hb;rw [Rk] at h1 h2;rw [aJ om_] at h1 h2;exact K i x y om_ h1 h2)
   have ae:l.take (k+1)=l.take k++[z]:=by rw [Q5,M];rfl
   have V:bR (l.take (k+1))=l.take k:=by
    rw [ae,jE (z:=z) (i:=k-1) (by rw [Rk,aJ om_];exact hy) (by simp only [QW];omega),aJ rfl,ad]
   refine G.loop (fun fr C' o I=>∃ (q:Nat)(i:Nat)(r:List Nat),(1<=q/\k+q<=l.length/\r.length=l.length/\i=(bR (l.take (k+q))).length/\i<=k+q-1/\r.take i=bR (l.take (k+q))/\(∀ j,k+q-1<=j->r[j]?=l[j]?))/\fr=[(0,[],.slice (some ⟨g,0,none⟩) l.length c),(3,[],.int .i64 i),(4,[],.slice (some ⟨g,k*1,none⟩) (l.length-k) (c-k)),(5,[],.int .i64 q)]/\o=[.arr (.slice (some ⟨g,0,none⟩) l.length c) 3 1 l.length (r.map aL).flatten]/\I=l.length-(k+q)) (hn_ [0,3,4,5] Z) ⟨1,k,l,⟨QG _,by omega,Z,by rw [V];simp only [QW];omega,by omega,by rw [V],fun _ _=>rfl⟩,Z,Z,Z⟩ (fun fr aC aD m W J=>?_);obtain ⟨q,i,r,⟨ag,aF,s,n,aG,w,B⟩,rfl,rfl,rfl⟩:=J;refine Ul 4 [0,3,4,5,32] Z<|Uo (fun N=>?_) fun N=>?_
   ·simp only [QQ] at N;obtain ⟨b,O⟩:∃ z,r[k+q]?=some z:=⟨r[k+q]'om_,aj om_⟩;obtain ⟨a2,X⟩:∃ y,r[k+q-1]?=some y:=⟨r[k+q-1]'om_,aj om_⟩;have ai:l[k+q]?=some b:=by rw [<- B _ om_];exact O
    have ak:l[k+q-1]?=some a2:=by rw [<- B _ om_];exact X
    have D:bR (l.take (k+(q+1)))=if a2=b then bR (l.take (k+q)) else bR (l.take (k+q))++[b]:=by
     have e:l.take (k+(q+1))=l.take (k+q)++[b]:=by rw [show k+(q+1)=k+q+1 by omega,Q5,ai];rfl
     rw [e,jE (z:=a2) (i:=k+q-1) (by rw [Rk,aJ om_];exact ak) (by simp only [QW];omega)]
    refine UJ [0,1,2,3,4,5,6,7,8,9] [] Z kr_ fun R hB a=>Us 2 Z<|VW ((k+q)*1) U10 (fun _=>⟨by omega,by omega,R7 k q 1⟩) U2<|Va af U6 (fun _=>(by rw [cP eE O];rfl)) U2<|Us 2 Z<|UX (((q-1:Nat):Int)) U4 om_ om_ om_ U2<|VW ((k+q-1)*1) U10 (fun _=>⟨by omega,by omega,(by rw [Nat.add_sub_assoc ag];exact R7 k (q-1) 1)⟩) U2<|Va af U6 (fun _=>(by rw [cP eE X];rfl)) U2<|C4 1 [0,3,4,5,44] a Z<|Uo (fun d=>?_) fun d=>?_
    ·have d:¬ (b:Int)=(a2:Int):=by simpa using d
     have d:¬ b=a2:=fun e=>d (congrArg _ e);refine Um 4 Z fun R a=>VW ((k+q)*1) U10 (fun _=>⟨by omega,by omega,R7 k q 1⟩) U2<|Va af U6 (fun _=>(by rw [cP eE O];rfl)) U2<|UR (i*1) U10 ah U2<|UW (j:=0) U11 (by rw [bO eE,s];have Y:(i+1)*1<=l.length*1:=Rz _ om_;rw [R7] at Y;simpa [aL] using Y)<|Ur [0,3,4,5] a Z<|Um 1 Z fun R a=>UX (((i+1:Nat):Int)) U4 om_ om_ om_ U2<|C4 1 [0,3,4,5] a Z<|Um 1 Z fun R a=>UX (((q+1:Nat):Int)) U4 om_ om_ om_ U2<|C4 1 [0,3,4,5] a Z ?_;have hw:az (r.map aL).flatten (aL b) (i*1)=((r.set i b).map aL).flatten:=bK eE b om_;have al:∀ L0,(Ent.arr (.slice (some ⟨g,0,none⟩) l.length c) 3 1 l.length (az (r.map aL).flatten (aL b) (i*1))::L0)=Ent.arr (.slice (some ⟨g,0,none⟩) l.length c) 3 1 l.length ((r.set i b).map aL).flatten::L0:=fun L0=>by rw [hw]
     refine UE (al [])<|UA (m':=l.length-(k+(q+1))) om_ W (hn_ [0,3,4,5] Z) ⟨q+1,i+1,r.set i b,⟨by omega,by omega,by simpa using s,by rw [D,aB (Ne.symm d),QM,<- n];rfl,by omega,by
      rw [D,aB (Ne.symm d),<- w,Q5,List.take_set_of_le (QG _),Tt om_];rfl,fun j hj=>by rw [TC om_];exact B j om_⟩,rfl,rfl,rfl⟩
    have d:(b:Int)=(a2:Int):=by simpa using d
    have d:b=a2:=Int.ofNat_inj.1 d;subst d;refine Um 1 Z fun R a=>UX (((q+1:Nat):Int)) U4 om_ om_ om_ U2<|C4 1 [0,3,4,5] a Z<|UA (m':=l.length-(k+(q+1))) om_ W (hn_ [0,3,4,5] Z) ⟨q+1,i,r,⟨by omega,by omega,s,by rw [D,aJ rfl];exact n,by omega,by rw [D,aJ rfl];exact w,fun j hj=>B j om_⟩,Z,Z,Z⟩
   simp only [Q1] at N;have an:k+q=l.length:=by omega
   rw [an,QV] at w n;have aH:i<=l.length:=by rw [n];exact gY l
   refine Um 2 Z fun R a=>Vf i l.length c U12 (fun _=>⟨.inr ⟨_,Z⟩,.inl ⟨Z,Z⟩,.inl ⟨Z,Z⟩,by omega,U,QG _⟩) U2<|WL 0 (off:=i*1) Z Z Z Z Z Z Z Z Z Z Z (by
    by_cases ao:c=i
    ·exact .inl om_
    refine .inr ?_;rw [aB ao];simp only [R8,Addr.add_lit,RR]) (by rw [bO eE,s,<- R7];exact Rz _ om_) ?_
   refine Ur [0,3] a Z<|Um 2 Z fun R a=>Vf 0 i c U12 (fun _=>⟨.inl ⟨Z,Z⟩,.inr ⟨_,Z⟩,.inl ⟨Z,Z⟩,by omega,by omega,QG _⟩) U2<|C4 1 [2] a Z<|G.freezeArr 0 ((r.take i).map aL++List.replicate (l.length-i) ([.int .i64 0]:List Value)) Z ?_ ?_ ap (fun S T p=>Uz (UZ Z Z ?_))
   ·unfold az;have e1:(fq ([.int .i64 0]:List Value) (l.length-i)).length=(l.length-i)*1:=cC _ _;refine Eq.trans (congrArg (·++_) (congrArg (·++_) (ce eE r i).1)) ?_;rw [Ri,Rb];congr 1;rw [<- de];refine Eq.trans (congrArg (_++·) (RX ?_)) (Q7 _);rw [bO eE,s];refine Q0 (Nat.le_of_eq ?_) (Nat.le_of_eq (congrArg (i*1+·) e1.symm));rw [<- R7];congr 1;omega
   ·intro x t;rcases QX.1 t with t | t
    ·obtain ⟨y,_,rfl⟩:=QO.1 t;exact eE y
    rw [Ss t];rfl
   refine ⟨Z, ?_⟩;have aa:=Sl.sub p (l:=0) (h:=i) (m:=c) (QK _) ap om_ (QG _);have aq:(((r.take i).map aL++List.replicate (l.length-i) ([.int .i64 0]:List Value)).take i).drop 0=(bR l).map aL:=by
    rw [RQ,List.take_append_of_le_length ap,Rr ap,w]
   rw [aq] at aa;exact aa
  have f:¬ (z:Int)=(y:Int):=by simpa using f
  have f:¬ z=y:=fun e=>f (congrArg _ e);refine Um 1 Z fun R a=>UX (((k+1:Nat):Int)) U4 om_ om_ om_ U2<|C4 1 [0,3] a Z<|UA (m':=l.length-(k+1)) om_ ac (hn_ [0,3] Z) ⟨k+1,⟨by omega,by omega,fun i x y' n h1 h2=>by
   by_cases ar:i+1<k
   ·exact K i x y' ar h1 h2
   have e:i=k-1:=by omega
   subst e;rw [show k-1+1=k by omega,M] at h2;rw [hy] at h1;cases h1;cases h2
   exact fun e=>f e.symm⟩,Z,Z,Z⟩
 simp only [Q1] at L;have aI:k=l.length:=by omega
 have H:bR l=l:=nj (fun i x y h1 h2=>K i x y (by have:=(aE.1 h2).1;omega) h1 h2);refine Ul 2 [2] Z<|G.freezeArr 0 (l.map aL) rfl rfl (by intro r hr;obtain ⟨x,_,rfl⟩:=QO.1 hr;exact eE x) am (fun S T p=>Uz (UZ rfl rfl ?_));exact ⟨Z,by rw [H];exact p⟩
def oR (d:List Str):List Nat:=(List.range d.length).filter fun i=>!(d.getD i [] == [48])
theorem supR :(List.range (j+1)).filter (fun i=>!(d.getD i [] == [48]))=(List.range j).filter (fun i=>!(d.getD i [] == [48]))++(if (!(d.getD j [] == [48]))=true then [j] else []):=by
 rw [RK,Sh];congr 1;simp only [List.filter_cons,List.filter_nil]
theorem CV (C:Mem)(o:Value)(d:List Str)(f:Sl C 1 o (d.map eL))(H:d.length<=1000):Pur cx.P 53 [.agg ⟨[o]⟩] C fun u D=>Sl D 1 u ((oR d).map aL):=by
 have I:maxLen<=9223372036854775807:=by simp [maxLen]
 obtain ⟨t,v,rfl,w,J,_⟩:=id f;simp only [aw] at f w ⊢;have K:d.length<=maxLen:=by omega
 refine Uv func53 22 U3 fun w0=>Uq fun R a=>UF U6 fun L=>C4 1 [1] a Z<|G.freeze 0 Z fun _ _ x=>Ul 1 [1,3] Z<|Um 1 Z fun R a=>Un (bkT x 1) U8<|C4 2 [3,7,8,9] a Z<|G.nilArr 3 1<|G.loop (fun fr C' g y=>∃ (j:Nat)(b:Option Addr)(n1 c:Nat),(j<=d.length)/\fr=[(3,[],.slice b n1 c),(7,[],.slice t d.length v),(8,[],.int .i64 d.length),(9,[],.int .i64 j)]/\g=[.arr (.slice b n1 c) 3 1 ((List.range j).filter fun i=>!(d.getD i [] == [48])).length ((((List.range j).filter fun i=>!(d.getD i [] == [48]))).map aL).flatten]/\y=d.length-j) (hn_ [3,7,8,9] Z) ⟨0,none,0,0,QK _,Z,Z,Z⟩ (fun fr M N m _ z=>?_);obtain ⟨j,b,n1,c,O,rfl,rfl,rfl⟩:=z;refine Ul 1 [3,7,8,9,10] Z<|Uo (fun h=>?_) fun h=>?_
 ·have k:j<d.length:=by
   have:=aW h;omega
  obtain ⟨s,hs⟩:∃ s,d[j]?=some s:=⟨_,aj k⟩;have A:d.getD j []=s:=by rw [al,hs];rfl
  have e:=supR (d:=d) (j:=j);have Q:((List.range j).filter fun i=>!(d.getD i [] == [48])).length<=j:=by
   have:=RT (fun i=>!(d.getD i [] == [48])) (List.range j)
   rwa [RB] at this
  rw [A] at e;refine Um 1 Z fun R a=>UD f.m_ U10 om_ (show (d.map eL)[j]?=some (eL s) by rw [QI,hs];rfl) fl_ fun S B=>Un B U8<|C4 2 [3,4,5,7,8,9] a Z<|Ul 2 [3,4,7,8,9,15] Z<|Uo (fun l=>?_) fun l=>?_
  ·have n:(!(s == [48]))=true:=l;rw [aJ n] at e;refine Um 2 Z fun R a=>UI [[.int .i64 j]] U12 fun T _ _ E=>UP (j:=0) U11 E Z ax (by show (((List.range j).filter fun i=>!(d.getD i [] == [48])).length+1)*8<=_;omega) fl_ fun p q r=>C4 1 [3,7,8,9] a Z<|Uq fun R a=>Uw _ U7<|C4 1 [3,7,8,9] a Z<|UE (L':=[.arr (.slice p q r) 3 1 ((List.range (j+1)).filter fun i=>!(d.getD i [] == [48])).length ((((List.range (j+1)).filter fun i=>!(d.getD i [] == [48]))).map aL).flatten]) (by rw [e,Rj,Ri,QM];rfl)<|UA (m':=d.length-(j+1)) om_ mup (hn_ [3,7,8,9] Z) ⟨j+1,p,q,r,om_,Z,Z,Z⟩
  have n:¬ (!(s == [48]))=true:=Bool.eq_false_iff.1 l;rw [aB n,Q7] at e;refine Uq fun R a=>Uw _ U7<|C4 1 [3,7,8,9] a Z<|UE (L':=[.arr (.slice b n1 c) 3 1 ((List.range (j+1)).filter fun i=>!(d.getD i [] == [48])).length ((((List.range (j+1)).filter fun i=>!(d.getD i [] == [48]))).map aL).flatten]) (by rw [e])<|UA (m':=d.length-(j+1)) om_ mup (hn_ [3,7,8,9] Z) ⟨j+1,b,n1,c,om_,Z,Z,Z⟩
 have k:j=d.length:=by
  have:=QJ h;omega
 subst k;exact G.freezeArr 0 ((oR d).map aL) Z Z (jC _) (aw _) fun _ _ F=>Ul 2 [2] Z<|Ut U2<|⟨Z,F.mono mup⟩
theorem sQ (l:List Nat):(l.map aL).flatten=(l.map fun n:Nat=>(n:Int)).map fun x=>Value.int .i64 x:=by
 induction l with
 | nil=>rfl
 | cons x l a=>simp only [Q9,Sa,a];rfl
def OutL (C:Mem)(vs:List Value)(outs:List (List Nat)):Prop:=vs.length=outs.length/\∀ (j:Nat)(v:Value)(o:List Nat),vs[j]?=some v->outs[j]?=some o->Sl C 1 v (o.map aL)
def OutsIn (C:Mem)(v:Value)(outs:List (List Nat)):Prop:=∃ vs,OutL C vs outs/\Sl C 1 v (vs.map fun x=>[x])
theorem OutL.mono {C D:Mem}{a:List Value}{b:List (List Nat)}(h:OutL C a b)(c:C.le D):OutL D a b:=⟨h.1,fun j v o h1 h2=>(h.2 j v o h1 h2).mono c⟩
theorem OutL.m_ {D:Mem}(h:OutL C vs outs)(a:C.le D:=by exact mup):OutL D vs outs:=OutL.mono h a
theorem OutsIn.mono {C D:Mem}{v:Value}{a:List (List Nat)}(h:OutsIn C v a)(b:C.le D):OutsIn D v a:=by
 obtain ⟨vs,h1,h2⟩:=h;exact ⟨vs,h1.mono b,h2.mono b⟩
theorem OutsIn.m_ {D:Mem}{v:Value}(h:OutsIn C v outs)(a:C.le D:=by exact mup):OutsIn D v outs:=OutsIn.mono h a
theorem OutL.nil (C:Mem):OutL C [] []:=⟨rfl,fun j v o h _=>by simp at h⟩
theorem OutL.snoc {v:Value}{o:List Nat}(h:OutL C vs outs)(b:Sl C 1 v (o.map aL)):OutL C (vs++[v]) (outs++[o]):=by
 refine ⟨by simp [h.1],fun j w q h1 h2=>?_⟩;rcases Nat.lt_trichotomy j vs.length with a | a | a
 ·rw [RF a] at h1;rw [RF (by rw [<- h.1];exact a)] at h2;exact h.2 j w q h1 h2
 ·subst a;rw [Rf (QG _),Td] at h1;rw [h.1,Rf (QG _),Td] at h2;cases h1
  cases h2
  exact b
 rw [QS ap] at h1;cases h1
theorem vF (a:List Value):a=(a.map fun x=>[x]).flatten:=by
 induction a with
 | nil=>rfl
 | cons v a b=>rw [Q9,Sa,<- b];rfl
theorem vE (a:List Value):∀ r∈a.map (fun x=>[x]),r.length=1:=fun r hr=>by
 obtain ⟨x,_,rfl⟩:=QO.1 hr;rfl
theorem qA (l:List Nat):∀ r∈l.map ck,r.length=1:=fun r hr=>by
 obtain ⟨x,_,rfl⟩:=QO.1 hr;rfl
theorem KE:∀ n<6,∀ s<2 ^ n,KY (2 ^ n-1) s<2 ^ n:=by decide +kernel
noncomputable def hC (B:Bk)(RO:Nat->List RowQ)(s:Nat):Bool:=hS B RO (KY (2 ^ B.obs.length-1) s)
theorem AW (C:Mem)(d:Tabs C)(B:Bk)(a f:Nat)(g:SrchIn C B a f)(h:B.obs.length<6) :
  Jog.Fn cx.P 38 [.pointer (some ⟨a,0,none⟩)] C [] fun u _ i=>∃ A n2 c,u=.slice A n2 c/\i=[.arr u 99 1 (2 ^ B.obs.length) (((cJ B.obs.length).map ck).flatten)]:=by
 obtain ⟨j,k,l,m,o,b,n⟩:=g.ex;obtain ⟨_,_,_,_,_,e,_,_,_,_,h5⟩:=n.ex;cases e
 obtain ⟨A,c,rfl,_⟩:=id h5;rw [aw] at b;rw [<- Mm];exact MC C d a B.obs.length j k l m _ A c b h
theorem El (C:Mem)(w:Tabs C)(T:Value)(B:Bk)(J:List Rat)(b:Nat->List RowQ)(U:BookIn C T B)(h:Calm B J b)(f:B.obs.length<6) :
  Pur cx.P 13 [T] C fun u D=>∃ v,u=.tuple #[v,.int .i64 0]/\OutsIn D v ((yz (hC B b) (cJ B.obs.length)).map cW):=by
 have V:=U;obtain ⟨v1,v2,tv,cv,ov,rfl,_,_,_,_,h5⟩:=id U.ex;obtain ⟨A5,c5,rfl,an,aC,_⟩:=id h5;obtain ⟨n,k⟩:∃ n,B.obs.length=n:=⟨_,rfl⟩;have aD:maxLen<=9223372036854775807:=by simp [maxLen]
 have ao:=fun (D:Mem)(hD:C.le D)(g c s:Nat)(km:List (Nat × Value))(y:SrchIn D B g c)(hs:s<2 ^ n)=>vZ D (w.mono hD) B J b g c s km y h f (k ▸ hs);have W:∀ s,hC B b s=hS B b (KY (2 ^ n-1) s):=fun s=>by unfold hC;rw [k]
 rw [k] at f;have aE:=yD f;simp only [aw,k] at h5 an V ⊢;have K:=wb n;obtain ⟨F,d⟩:∃ F:Nat->List Nat,∀ i,F i=((cJ n).take i).foldl (pn (hC B b)) []:=⟨_,fun _=>rfl⟩;have X:F 0=[]:=by rw [d,List.take_zero];rfl
 have A:∀ {i s},(cJ n)[i]?=some s->F (i+1)=pn (hC B b) (F i) s:=fun {i s} hs=>by rw [d,d,xl hs]
 have ap:∀ i,i<=2 ^ n->(F i).length<=32:=fun i hi=>by
  rw [d];have h1:=Be (h:=hC B b) ((cJ n).take i) [];rw [QW] at h1;simp only [Rq] at h1;omega
 refine Uv func13 69 U3 fun w0=>Uq fun R a=>UF U6 fun b1=>C4 2 [1] a Z<|G.freeze 0 Z fun _ _ Y=>UN [(1,3)] Z fun R a=>Un (bkT Y 5) U8<|D.call (AU _ w.m_ _ B J b V.m_ h om_) Z (.inr dc_) U6 (QL _) fl_ (fun aF _ aG _ aq=>?_);obtain ⟨g,c,rfl,y,rfl⟩:=aq;refine C4 5 [1,4,5] a Z<|Ul 2 [1,4,5,19] Z<|Uo (fun aa=>?_) fun aa=>?_
 ·exact absurd aa dc_
 refine Um 1 Z fun R a=>Un (bkT Y 1) U8<|Up U6<|Wb (n) Z Z Z Z Z Z (by first | exact .inl Z | exact .inr Z) Z om_ Z Z<|D.int (((2 ^ n-1:Nat):Int)) U4 (by rw [show (((2 ^ n:Nat):Int)-1)=((2 ^ n-1:Nat):Int) by have:=Nat.one_le_two_pow (n:=n);omega];exact tL om_) U2<|C4 1 [4,6] a Z<|Ul 1 [4,6,7] Z<|Ul 1 [4,6,7,8] Z<|UN [(1,3)] Z fun R a=>Up U6<|D.call (AW _ w.m_ B g c y.m_ om_) Z (.inr dc_) U6 (QL _) fl_ (fun aH _ aI _ ar=>?_);obtain ⟨As,ns,cs,rfl,rfl⟩:=ar;rw [k];refine C4 2 [4,6,7,8,27,28,29] a Z<|G.freezeArr 0 ((cJ n).map ck) Z Z (qA _) (by rw [aw,K]) (fun _ _ ab=>?_);obtain ⟨_,_,ac,_⟩:=id ab;rw [aw,K] at ac;cases ac
 refine G.nilArr 50 1<|G.loop (fun fr C' L μ=>∃ (i:Nat)(z:Int)(km:List (Nat × Value))(vs:List Value)(l:Option Addr)(n1 o:Nat),(i<=2 ^ n/\xT (hS B b) km/\OutL C' vs ((F i).map cW)/\xR (F i) z)/\fr=[(4,[],.pointer (some ⟨g,0,none⟩)),(6,[],.int .u64 ((2 ^ n-1:Nat):Int)),(7,[],.slice l n1 o),(8,[],.int .i64 z),(27,[],.slice As (2 ^ n) cs),(28,[],.int .i64 ((2 ^ n:Nat):Int)),(29,[],.int .i64 i)]/\L=[.arr (.slice l n1 o) 50 1 vs.length vs,.obj c (aR keyU.enc km)]/\μ=2 ^ n-i) (hn_ [4,6,7,8,27,28,29] Z) ⟨0, -1,[],[],none,0,0,⟨QK _,wZ _,by rw [X];exact OutL.nil _,.inl ⟨X,Z⟩⟩,Z,Z,Z⟩ (fun fr aJ aM m _ hI=>?_);obtain ⟨i,z,km,vs,l,n1,o,⟨hi,au,p,q⟩,rfl,rfl,rfl⟩:=hI;refine Ul 1 [4,6,7,8,27,28,29,30] Z<|Uo (fun M=>?_) fun M=>?_
 ·have ad:i<2 ^ n:=by
   have:=aW M;omega
  obtain ⟨s,hs⟩:∃ s,(cJ n)[i]?=some s:=⟨(cJ n)[i]'om_,aj om_⟩;have av:s<2 ^ n:=ii (QF hs);have N:s<32:=by omega
  have aN:vs.length=(F i).length:=by rw [p.1,aw]
  have aO:=ap i om_;refine Uq fun R a=>UD ab.m_ U10 om_ (eZ hs) fl_ fun aP ay=>Un ay U8<|C4 1 [4,6,7,8,10,27,28,29] a Z<|Um 4 Z fun R a=>UU (fun _=>(ul _ s N)) U9<|Us 2 Z<|UM U8<|Ur [4,6,7,8,10,27,28,29,40] a Z<|Uo (fun O=>?_) fun O=>?_
  ·have r:0<=z/\z<(iN s:Int):=by
    simp only [QT,QQ] at O;omega
   refine Ul 3 [2,3] Z<|G.freezeArr 0 (vs.map fun x=>[x]) Z (vF vs) (vE vs) (aw _) fun C8 _ Q=>Uz (G.dropAll (UO U3 ?_));refine ⟨Z,_,Z,vs, ?_,Q⟩;rw [FE f hs (by rw [<- d];exact q) r,<- d];exact p.mono mup
  have r:¬ (0<=z/\z<(iN s:Int)):=by
   simp only [Tx,Q1] at O;omega
  refine UN [(4,3)] Z fun R a=>Us 3 Z<|Wx (2 ^ n-1) (s) Z Z Z Z Z Z Z Z om_ om_ Z Z<|D.call (ao _ mup g c (KY (2 ^ n-1) s) km y.m_ (KE n f s av) au) Z (.inr dc_) U6 (List.Perm.swap _ _ _) fl_ (fun aQ _ aS _ az=>?_);obtain ⟨rfl,E,af,rfl⟩:=az;refine C4 5 [4,6,7,8,10,11,12,27,28,29] a Z<|Ul 3 [4,6,7,8,10,11,12,27,28,29,49] Z<|Uo (fun ag=>?_) fun ag=>?_
  ·exact absurd ag dc_
  refine Ul 3 [4,6,7,8,10,27,28,29,53] Z<|Uo (fun S=>?_) fun S=>?_
  ·have t:hC B b s=false:=by rw [W];simpa using S
   refine Uq fun R a=>Uw _ U7<|C4 1 [4,6,7,8,27,28,29] a Z<|G.perm (L':=[.arr (.slice l n1 o) 50 1 vs.length vs,.obj c (aR keyU.enc E)]) (List.Perm.swap _ _ _)<|UA (m':=2 ^ n-(i+1)) om_ mup (hn_ [4,6,7,8,27,28,29] Z) ⟨i+1,z,E,vs,l,n1,o,⟨by omega,af,by rw [A hs,wq t];exact p.mono mup,by rw [A hs,wq t];exact q⟩,Z,Z,Z⟩
  have t:hC B b s=true:=by rw [W];simpa using S
  refine VN ae (fun _ _ aA _=>?_);cases aA
  refine Ul 4 [4,6,7,10,27,28,29,56] Z<|Uo (fun ah=>?_) fun ah=>?_
  ·exact absurd (by simpa using ah) (show ¬ ((vs.length:Int)=200) by omega)
  refine Um 1 Z fun R a=>Uy (ul _ s N) U7<|C4 1 [4,6,7,8,10,27,28,29] a Z<|Um 2 Z fun R a=>UV (od _ w.m_ s N) U7 (fun aT _ _ ai=>?_);obtain ⟨H,I,rfl,_⟩:=id ai;refine UI [[.slice H ((cW s).map aL).length I]] U12 fun aU _ _ aB=>UP (j:=1) U11 aB Z ax (by show (vs.length+1)*24<=_;omega) fl_ fun ak al am=>C4 1 [4,6,7,8,27,28,29] a Z<|Uq fun R a=>Uw _ U7<|C4 1 [4,6,7,8,27,28,29] a Z<|UE (L':=[.arr (.slice ak al am) 50 1 (vs++[Value.slice H ((cW s).map aL).length I]).length (vs++[Value.slice H ((cW s).map aL).length I]),.obj c (aR keyU.enc E)]) (by rw [QM];rfl)<|UA (m':=2 ^ n-(i+1)) om_ mup (hn_ [4,6,7,8,27,28,29] Z) ⟨i+1,iN s,E,vs++[Value.slice H ((cW s).map aL).length I],ak,al,am,⟨by omega,af,by rw [A hs,Bf q r t,Rj];exact p.m_.snoc ai.m_,by rw [A hs,Bf q r t];exact Dc q (by rw [d];exact O1 f hs) r⟩,Z,Z,Z⟩
 have ad:i=2 ^ n:=by
  have:=QJ M;omega
 refine Ul 3 [2,3] Z<|G.freezeArr 0 (vs.map fun x=>[x]) Z (vF vs) (vE vs) (aw _) fun C8 _ Q=>Uz (G.dropAll (UO U3 ?_));refine ⟨Z,_,Z,vs, ?_,Q⟩;have e:yz (hC B b) (cJ n)=F i:=by rw [d,ad,<- K,QV];rfl
 rw [e];exact p.mono mup
theorem EW (C:Mem)(v:Value)(l:List Nat)(g:Nat)(d:List Value)(a:Nat->Bool)(e:Sl C 1 v (l.map ck))(_A:Jog.Enters cx.P g=true)
  (n:∀ x∈l,∀ D:Mem,C.le D->Gives cx.P g (.int .u64 (x:Nat)::d) D (.bool (a x))) :
  Gives cx.P 124 [v,.func (.func g) #[] ⟨d⟩] C (.int .i64 (Ii a l 0)):=by
 obtain ⟨o,c0,rfl,p,B,_⟩:=id e;have E:maxLen<=9223372036854775807:=by simp [maxLen]
 simp only [aw] at e p ⊢;refine Uv func124 19 U3 fun w0=>Ul 1 [0,1] Z<|Ul 3 [0,1,7,8] Z<|G.loop (fun fr C' q r=>∃ (i:Nat),(i<=l.length/\∀ y∈l.take i,a y=false)/\fr=[(0,[],.slice o l.length c0),(1,[],.func (.func g) #[] ⟨d⟩),(7,[],.int .i64 l.length),(8,[],.int .i64 i)]/\q=[]/\r=l.length-i) (hn_ [0,1,7,8] Z) ⟨0,⟨QK _,by simp⟩,Z,Z,Z⟩ (fun fr F H m s t=>?_);obtain ⟨i,⟨I,b⟩,rfl,rfl,rfl⟩:=t;refine Ul 1 [0,1,7,8,9] Z<|Uo (fun f=>?_) fun f=>?_
 ·have h:i<l.length:=by simpa using f
  obtain ⟨x,c⟩:∃ x,l[i]?=some x:=⟨l[i],aj h⟩;refine Ul 2 [0,1,5,7,8] Z<|Um 3 Z fun R j=>UD e.m_ U10 om_ (eZ c) fl_ fun J u=>Un u U8<|Uy (n x (QF c) _ mup) U7<|Ur [0,1,5,7,8,16] j Z<|Uo (fun k=>?_) fun k=>?_
  ·have w:a x=true:=k;exact Ul 2 [4] Z<|Ut U2<|⟨by rw [nZ c w b,RR],Z⟩
  have z:a x=false:=k;refine Uq fun R j=>Uw _ U7<|C4 1 [0,1,7,8] j Z<|UA (m':=l.length-(i+1)) om_ s (hn_ [0,1,7,8] Z) ⟨i+1,⟨by omega,fun y hy=>by
   rw [Q5,c] at hy;rcases QX.1 hy with hy | hy
   ·exact b y hy
   simp only [R5,Q3] at hy;subst hy;exact z⟩,Z,Z,Z⟩
 have h:i=l.length:=by
  have:¬ i<l.length:=by simpa using f
  omega
 exact Ul 1 [4] Z<|Ut U2<|⟨by rw [h,QV] at b;rw [lL b],Z⟩
theorem Ml (C:Mem)(v:Value)(l:List Nat)(g:Nat)(b:List Value)(a:Nat->Bool)(c:Sl C 1 v (l.map ck))(d:Jog.Enters cx.P g=true)
  (e:∀ x∈l,∀ D:Mem,C.le D->Gives cx.P g (.int .u64 (x:Nat)::b) D (.bool (a x))) :
  Gives cx.P 80 [v,.func (.func g) #[] ⟨b⟩] C (.bool (l.any a)):=by
 refine Uv func80 9 U3 fun w0=>Ul 1 [0,1] Z<|Um 2 Z fun R f=>Uy (EW _ v l g b a c.m_ d (fun x h D j=>e x h D (Mem.le.trans mup j))) U7<|C4 2 [4] f Z<|Ut U2<|⟨?_,Z⟩;congr 1;rcases sf a l with ⟨h1,h2⟩ | ⟨i,x,h1,h2,h3,_⟩
 ·rw [h1,List.any_eq_false.2 (fun y hy=>by rw [h2 y hy];decide)];rfl
 rw [h1,Tl.2 ⟨x,QF h2,h3⟩];exact QZ om_
theorem IE (C:Mem)(v:Value)(l:List Nat)(g:Nat)(c:List Value)(b:Nat->Bool)(d:Jog.Enters cx.P g=true)(e:∀ x∈l,∀ D:Mem,C.le D->Gives cx.P g (.int .u64 (x:Nat)::c) D (.bool (b x))) :
  Jog.Fn cx.P 80 [v,.func (.func g) #[] ⟨c⟩] C [.arr v 99 1 l.length (l.map ck).flatten] fun u _ a=>u=.bool (l.any b)/\a=[.arr v 99 1 l.length (l.map ck).flatten] :=
 Fn.mono (VM (L:=[]) (post:=fun u a=>u=.bool (l.any b)/\a=[]) kr_ (qA l) (aw _) fun C' hC hs=>Fn.mono (Ml C' v l g c b hs d fun x f D i=>e x f D (hC.trans i)) fun u _ a _ h=>⟨h.1,h.2⟩) fun u _ j _ ⟨a,h1,h2,h3⟩=>⟨h2,by rw [h1,h3]⟩
theorem M1 (C:Mem)(a s x:Nat)(f:s<18446744073709551616)(g:x<18446744073709551616)(b:C a=some (.cells ⟨[.int .u64 (s:Nat)]⟩ 99 (0,0))) :
  Gives cx.P 81 [.int .u64 (x:Nat),.pointer (some ⟨a,0,none⟩)] C (.bool (x &&& s == x)):=by
 refine Uv func81 9 U3 fun w0=>Ul 1 [0,1] Z<|Um 1 Z fun R c=>Un (bkT b 1) U8<|VA (x) (s) U8 om_ om_ U2<|C4 3 [3] c Z<|Ut U2<|⟨?_,Z⟩;congr 1;by_cases e:x &&& s=x
 ·rw [e];simp
 have d:¬ (((x &&& s:Nat):Int)=x):=fun h=>e (Int.ofNat_inj.1 h);rw [RI.2 d,RI.2 e]
def Iw (l:List Nat):List (List Value):=l.map fun s=>[.int .u64 (s:Nat),.int .i64 0]
theorem DI (C:Mem)(V:Tabs C)(B:Bk)(W:List Rat)(c:Nat->List RowQ)(o d:Nat)(Y:SrchIn C B o d)(h:Calm B W c)(u:B.obs.length<6) :
  IterM cx.P 46 #[.pointer (some ⟨o,0,none⟩)] #[] C [.obj d (aR keyU.enc [])] (Iw (jD (hS B c) (cJ B.obs.length))):=by
 have aD:maxLen<=9223372036854775807:=by simp [maxLen]
 obtain ⟨n,hn⟩:∃ n,B.obs.length=n:=⟨_,rfl⟩;have ak:=fun (D:Mem)(f:C.le D)(s:Nat)(km:List (Nat × Value))(hs:s<2 ^ n)=>vZ D (V.mono f) B W c o d s km (Y.mono f) h u (hn ▸ hs);have aa:=fun (D:Mem)(f:C.le D)=>AW D (V.mono f) B o d (Y.mono f) u;rw [hn] at u aa ⊢;have aF:=yD u;have A:=wb n;obtain ⟨F,g⟩:∃ F:Nat->List Nat,∀ i,F i=((cJ n).take i).foldl (iT (hS B c)) []:=⟨_,fun _=>rfl⟩;have ab:F 0=[]:=by rw [g,List.take_zero];rfl
 have al:∀ {i s},(cJ n)[i]?=some s->F (i+1)=iT (hS B c) (F i) s:=fun {i s} hs=>by rw [g,g,xl hs]
 have am:F (2 ^ n)=jD (hS B c) (cJ n):=by rw [g,<- A,QV];rfl
 have an:∀ i,∃ t,jD (hS B c) (cJ n)=F i++t:=fun i=>by
  unfold jD;rw [g]
  conv=>enter [1,t,1];rw [<- RN i (cJ n),List.foldl_append]
  exact xx _ _ _
 have ao:∀ i,∀ x∈F i,x<2 ^ n:=fun i x v=>by
  rw [g] at v;rcases qI _ _ v with h | h
  ·cases h
  exact ii (RZ h)
 have ap:∀ i,i<=2 ^ n->(F i).length<=32:=fun i hi=>by
  rw [g];have h1:=xy (h:=hS B c) ((cJ n).take i) [];rw [QW] at h1;simp only [Rq] at h1;omega
 refine IterM.intro (fb:=[.pointer (some ⟨o,0,none⟩)]) (lb:=[]) kr_ func46 Z 44 Z Z fun l I X L hY h0 w0=>?_;refine Ul 1 [0,1,4] Z ?_;refine UN [(1,3)] Z (fun R a=>?_);refine Up U6 ?_;refine D.call (aa _ mup) Z (.inr dc_) U6 (QL _) fl_ (fun aG _ aH _ aq=>?_);obtain ⟨As,ns,cs,rfl,rfl⟩:=aq;refine C4 2 [0,1,4,10,11,12] a Z ?_;clear a R;refine G.freezeArr 0 ((cJ n).map ck) Z Z (qA _) (by rw [aw,A]) (fun _ _ ac=>?_);obtain ⟨_,_,ad,_⟩:=id ac;rw [aw,A] at ad;cases ad
 refine G.nilArr 99 1 ?_;refine G.loop (fun fr C' L' μ=>∃ (i:Nat)(km:List (Nat × Value))(k:List Ent)(p:Option Addr)(n1 q:Nat),(i<=2 ^ n/\xT (hS B c) km/\I (F i).length k)/\fr=[(0,[],.pointer (some ⟨o,0,none⟩)),(1,[],.func (.yield l) #[] #[]),(4,[],.slice p n1 q),(10,[],.slice As (2 ^ n) cs),(11,[],.int .i64 ((2 ^ n:Nat):Int)),(12,[],.int .i64 i)]/\L'=.arr (.slice p n1 q) 99 1 (F i).length ((F i).map ck).flatten::.obj d (aR keyU.enc km)::k/\μ=2 ^ n-i) (hn_ [0,1,4,10,11,12] Z) ⟨0,[],L,none,0,0,⟨QK _,wZ _,by rw [ab];exact h0⟩,Z,by rw [ab];rfl,Z⟩ (fun fr aI aJ m _ hI=>?_);obtain ⟨i,km,k,p,n1,q,⟨hi,ae,w⟩,rfl,rfl,rfl⟩:=hI;refine Ul 1 [0,1,4,10,11,12,13] Z ?_;refine Uo (fun E=>?_) fun E=>?_
 ·have ag:i<2 ^ n:=by
   have:=aW E;omega
  obtain ⟨s,hs⟩:∃ s,(cJ n)[i]?=some s:=⟨(cJ n)[i]'om_,aj om_⟩;have ar:s<2 ^ n:=ii (QF hs);have aL:=ap i hi;have H:=al hs;refine VN af (fun _ _ au _=>?_);cases au
  refine Uq fun R a=>?_;refine UD ac.m_ U10 om_ (eZ hs) fl_ (fun aM av=>?_);refine Un av U8 ?_;refine UH U5 (fun b6=>?_);refine Ux (j:=0) U12 ?_;refine Ur [0,1,4,6,10,11,12] a Z ?_;clear a R;refine G.freeze 0 Z (fun _ _ y=>?_);refine UN [(2,3)] Z (fun R a=>?_);refine Us 2 Z ?_;refine D.call (IE _ _ (F i) 81 [.pointer (some ⟨b6,0,none⟩)] (fun x=>x &&& s == x) kr_ (fun x v D f=>M1 D b6 s x om_ (by have:=ao i x v;omega) (f _ _ (Mem.get y mup)))) Z (.inr dc_) U6 (QL (_::_)) fl_ (fun aN _ aO _ ay=>?_);obtain ⟨rfl,rfl⟩:=ay;refine Ur [0,1,4,6,10,11,12,18] a Z ?_;clear a R;refine Uo (fun J=>?_) fun J=>?_
  ·have r:F (i+1)=F i:=by
    rw [H];unfold iT;rw [show ((F i).any fun x=>x &&& s == x)=true from J];rfl
   refine Uq fun R a=>?_;refine Uw _ U7 ?_;refine C4 1 [0,1,4,10,11,12] a Z ?_;clear a R;refine UA (m':=2 ^ n-(i+1)) om_ mup (hn_ [0,1,4,10,11,12] Z) ⟨i+1,km,k,p,_,q,⟨by omega,ae,by rw [r];exact w⟩,Z,by rw [r];rfl,Z⟩
  refine UN [(2,3)] Z (fun R a=>?_);refine Up U6 ?_;refine Un (bkT y 1) U8 ?_;refine D.call (ak _ mup s km ar ae) Z (.inr dc_) U6 (List.Perm.swap _ _ _) fl_ (fun aP _ aQ _ az=>?_);obtain ⟨rfl,z,ah,rfl⟩:=az;refine C4 5 [0,1,4,6,7,8,10,11,12] a Z ?_;clear a R;refine Um 4 Z fun R a=>?_;refine UM U8 ?_;refine Ur [0,1,4,6,8,10,11,12,29] a Z ?_;clear a R;refine Uo (fun K=>?_) fun K=>?_
  ·have M:hS B c s=true:=by simpa using K
   have r:F (i+1)=F i:=by
    rw [H];unfold iT;rw [M,Bool.or_true];rfl
   refine Uq fun R a=>?_;refine Uw _ U7 ?_;refine C4 1 [0,1,4,10,11,12] a Z ?_;clear a R;refine G.perm _ (List.Perm.swap _ _ _) ?_;refine UA (m':=2 ^ n-(i+1)) om_ mup (hn_ [0,1,4,10,11,12] Z) ⟨i+1,z,k,p,_,q,⟨by omega,ah,by rw [r];exact w⟩,Z,by rw [r],Z⟩
  have M:hS B c s=false:=by simpa using K
  have N:F (i+1)=F i++[s]:=by
   rw [H];unfold iT;rw [M,Bool.or_false,show ((F i).any fun x=>x &&& s == x)=false from J];rfl
  obtain ⟨tl,ai⟩:=an (i+1);rw [N] at ai;have hv:(Iw (jD (hS B c) (cJ n)))[(F i).length]?=some [.int .u64 (s:Nat),.int .i64 0]:=by
   rw [ai];unfold Iw;rw [QI,Rb,Rf (QG _),Td];rfl
  refine Um 1 Z fun R a=>?_;refine Un (bkT y 1) U8 ?_;refine UI [ck s] U12 (fun aS _ _ aA=>?_);refine UP (j:=1) U11 aA Z ax (by show ((F i).length+1)*8<=_;omega) fl_ (fun O Q S=>?_);refine C4 1 [0,1,4,6,8,10,11,12] a Z ?_;clear a R;refine UE (L':=.arr (.slice O Q S) 99 1 (F i++[s]).length ((F i++[s]).map ck).flatten::.obj d (aR keyU.enc z)::k) (by rw [Rj,Ri,QM];rfl) ?_;refine Xn 3 [0,1,2] [4,5,6,7,8] [] (YW.plain _) Z Z Z Z Z Z (fun R T hy=>?_);refine Up U6 ?_;refine Un (bkT y 1) U8 ?_;refine Up U6 ?_;refine hy (hY _ _ _ hv w) mup Z Z Z Z (Lo:=[.arr (.slice O Q S) 99 1 (F i++[s]).length ((F i++[s]).map ck).flatten,.obj d (aR keyU.enc z)]) (Rm (l₁:=[_,_])) fl_ (fun b L2 hb R T a=>?_);rcases hb with ⟨rfl,aB⟩ | ⟨rfl,aC⟩
  ·refine Us 4 Z ?_;refine US U8 ?_;refine Ur [0,1,4,10,11,12,42] a Z ?_;clear a T R;refine G.cond Z (fun U=>absurd U dc_) (fun _=>?_);refine Uq fun R a=>?_;refine Uw _ U7 ?_;refine C4 1 [0,1,4,10,11,12] a Z ?_;clear a R;refine G.perm _ (Rm (l₂:=[_,_])) ?_;refine UA (m':=2 ^ n-(i+1)) om_ mup (hn_ [0,1,4,10,11,12] Z) ⟨i+1,z,L2,O,Q,S,⟨by omega,ah,by rw [N,QM];exact aB⟩,Z,by rw [N];rfl,Z⟩
  refine Us 4 Z ?_;refine US U8 ?_;refine Ur [0,1,4,10,11,12,42] a Z ?_;clear a T R;refine G.cond Z (fun _=>?_) (fun U=>absurd U dc_);refine G.perm _ (Rm (l₂:=[_,_])) ?_;refine Uz (V3 Z ?_);exact ⟨[_,_],L2,Z,.inr ⟨_,(aE.1 hv).1,aC⟩⟩
 have ag:i=2 ^ n:=by
  have:=QJ E;omega
 refine Vx Z ?_;refine ⟨[_,_],k,Z,.inl ?_⟩;have e:(Iw (jD (hS B c) (cJ n))).length=(F i).length:=by rw [ag,am,Iw,aw]
 rw [e];exact w
inductive SmallO (l:List Nat) (D:Mem):Value->Prop where
 | none:l=[]->SmallO l D (.tuple #[.slice none 0 0,.bool false,.int .i64 0])
 | some (x:Nat) (v:Value):l.head?=some x->Sl D 1 v ((cW x).map aL)->SmallO l D (.tuple #[v,.bool true,.int .i64 0])
theorem Mf (h:(Iw l)[j]?=some v):∃ x,l[j]?=some x/\v=[.int .u64 (x:Nat),.int .i64 0]:=by
 unfold Iw at h;rw [QI] at h;cases a:l[j]? with
 | none=>rw [a] at h;cases h
 | some x=>rw [a] at h;exact ⟨x,rfl,(Si h).symm⟩
theorem Aq (h:v∈Iw l):∃ x,x∈l/\v=[.int .u64 (x:Nat),.int .i64 0]:=by
 obtain ⟨x,a,rfl⟩:=QO.1 h;exact ⟨x,a,Z⟩
theorem KC {h:Nat->Bool}(a:x∈jD h (cJ n)):x<2 ^ n:=by
 rcases qI _ _ a with h | h
 ·cases h
 exact ii h
theorem zL (C:Mem)(t:Tabs C)(w:Value)(B:Bk)(y:List Rat)(l:Nat->List RowQ)(E:BookIn C w B)(h:Calm B y l)(F:B.obs.length<6) :
  Pur cx.P 21 [w] C fun u D=>SmallO (jD (hS B l) (cJ B.obs.length)) D u:=by
 have ad:maxLen<=9223372036854775807:=by simp [maxLen]
 have ag:=yD F;have K:=E;obtain ⟨cs,H⟩:∃ cs,jD (hS B l) (cJ B.obs.length)=cs:=⟨_,rfl⟩;have M:∀ x∈cs,x<32:=fun x d=>by have:=KC (H ▸ d);omega
 have N:=fun (D:Mem)(m:C.le D)=>AU D (t.mono m) w B y l (K.mono m) h om_;have I:=fun (D:Mem)(m:C.le D)(o p:Nat)(z:SrchIn D B o p)=>DI D (t.mono m) B y l o p z h F;simp only [H] at I ⊢;obtain ⟨v1,v2,tv,cv,ov,rfl,_⟩:=id E.ex;refine VL kr_ func21 Z 25 Z Z fun w0=>Uq fun R b=>UF U6 fun b1=>UH U5 fun f=>UH U5 fun g=>UH U5 fun i=>Ur [1,2,3,4] b Z<|G.freeze 3 Z fun _ _ O=>UN [(1,3)] Z fun R b=>Un (bkT O 5) U8<|D.call (N _ mup) Z (.inr dc_) U6 (QL _) fl_ (fun ah _ ai _ Q=>?_);obtain ⟨o,p,rfl,z,rfl⟩:=Q;refine Us 4 Z<|Ux (j:=1) U12<|Ur [2,3,4,5] b Z<|Uq fun R b=>Uu af U9<|C4 1 [2,3,4,5,14] b Z<|G.cond Z (fun S=>absurd S dc_) fun _=>Ul 2 [2,3,4,17] Z ?_;have T:=I _ mup o p z;refine Xp (ps:=[18,19]) (Lr:=[.obj i (.cells ⟨[.int .i64 0]⟩ 46 (0,0)),.obj g (.cells ⟨[.bool false]⟩ 4 (0,0)),.obj f (.cells ⟨[.slice none 0 0]⟩ 50 (0,0))]) Z Z kr_ T (List.Perm.swap _ _ _) (fun v k=>?_)
  (fun j a=>j=0/\a=[.obj i (.cells ⟨[.int .i64 0]⟩ 46 (0,0)),.obj g (.cells ⟨[.bool false]⟩ 4 (0,0)),.obj f (.cells ⟨[.slice none 0 0]⟩ 50 (0,0))])
  (fun q j a=>q=.ret/\∃ (x:Nat)(A:Option Addr)(n c:Nat),cs.head?=some x/\a=[.obj i (.cells ⟨[.int .i64 0]⟩ 46 (0,0)),.obj g (.cells ⟨[.bool true]⟩ 4 (0,0)),.obj f (.cells ⟨[.slice A n c]⟩ 50 (0,0)),.arr (.slice A n c) 3 1 (cW x).length ((cW x).map aL).flatten])
  ⟨rfl,rfl⟩ (fun v k=>?_)
  (fun j a J LA=>j=0/\∃ x,cs[0]?=some x/\J=[(2,[],.pointer (some ⟨f,0,none⟩)),(3,[],.pointer (some ⟨g,0,none⟩)),(4,[],.pointer (some ⟨i,0,none⟩)),(6,[],.int .u64 (x:Nat)),(7,[],.int .i64 0)]/\LA=[.obj i (.cells ⟨[.int .i64 0]⟩ 46 (0,0)),.obj g (.cells ⟨[.bool false]⟩ 4 (0,0)),.obj f (.cells ⟨[.slice none 0 0]⟩ 50 (0,0))])
  ?_ ?_ ?_ ?_
 ·obtain ⟨x,_,rfl⟩:=Aq k;rfl
 ·obtain ⟨x,_,rfl⟩:=Aq k;rfl
 ·intro l2 j v a W1 r k;obtain ⟨rfl,rfl⟩:=r;obtain ⟨x,d,rfl⟩:=Mf k;exact Ul 1 [2,3,4,6,19] Z<|Ul 1 [2,3,4,6,7] Z<|Xh [(2,[],_),(3,[],_),(4,[],_),(6,[],_),(7,[],_)] ⟨Z,Z,Z,Z,Z,trivial⟩ ⟨Z,x,d,Z,Z⟩
 ·intro l2 j v a J LA W1 r k U;obtain ⟨rfl,x,d,rfl,rfl⟩:=U;have V:=M x (QF d);refine Ul 2 [2,3,4,6,21] Z<|G.cond Z (fun W=>absurd W dc_) fun _=>UN [(1,3)] Z fun R b=>Up U6<|D.call (GD _ t.m_ x V) Z (.inr dc_) U6 (QL _) fl_ (fun aj _ ak _ Y=>?_);obtain ⟨A,n,c,rfl,rfl⟩:=Y;refine Ux (j:=3) U12<|Ux (j:=3) U12<|Ux (j:=3) U12<|Ur [2,3,4] b Z<|Uz (Xs (e:=.ret) (c:=.ret) (X:=fun q a=>q=.ret/\_) Z ⟨Z,x,A,n,c,by rw [List.head?_eq_getElem?];exact d, ?_⟩);rfl
 ·intro s a r;obtain ⟨h0,rfl⟩:=r;have aa:cs=[]:=by
   unfold Iw at h0;rw [aw] at h0;exact Rn h0
  exact Uq fun R b=>Ux (j:=3) U12<|Ux (j:=3) U12<|Ux (j:=3) U12<|Ur [2,3,4] b Z<|Uz<|G.perm (L':=[s].map rH++[.obj i (.cells ⟨[.int .i64 0]⟩ 46 (0,0)),.obj g (.cells ⟨[.bool false]⟩ 4 (0,0)),.obj f (.cells ⟨[.slice none 0 0]⟩ 50 (0,0))]) (pkL [3,0,0,0] Z)<|Wr (Ds:=[s]) (.inl Z) (FD ac ae af Z Z Z Z Z Z Z Z Z Z) ⟨Z,.none aa⟩
 intro s j q a hj hX;obtain ⟨rfl,x,A,n,c,d,rfl⟩:=hX;exact U1 64<|G.freezeArr 4 ((cW x).map aL) Z Z (jC _) (aw _) fun Cf hf ab=>Uz<|Wr (Ds:=[s]) (L:=[.obj i (.cells ⟨[.int .i64 0]⟩ 46 (0,0)),.obj g (.cells ⟨[.bool true]⟩ 4 (0,0)),.obj f (.cells ⟨[.slice A n c]⟩ 50 (0,0))]) (.inl Z) (FD ac ae af Z Z Z Z Z Z Z Z Z Z) ⟨Z,.some x _ d ab⟩
theorem xg :Em B RO l ↔ ∃ y:Nat->Rat,∀ r∈dT B RO l,Lp.sumN (fun j=>r.f.getD j 0*y j) (bs B*bp B)<=r.b:=by
 have hm:(dt (bs B*bp B) (gG (dT B RO l))).m=(dT B RO l).length:=aw _;refine exists_congr fun y=>⟨fun h r hr=>?_,fun h i a=>?_⟩
 ·obtain ⟨i,a⟩:=Sg hr;obtain ⟨h1,h2⟩:=aE.1 a;have h3:=h i (by rw [hm];exact h1);have e:(gG (dT B RO l)).getD i ([],0)=(r.f,r.b):=by rw [tV h1,h2]
  have h4:Lp.sumN (fun j=>((gG (dT B RO l)).getD i ([],0)).1.getD j 0*y j) (bs B*bp B)<=((gG (dT B RO l)).getD i ([],0)).2:=h3;rw [e] at h4;exact h4
 rw [hm] at a;have h4:=h _ (RH a);have e:(gG (dT B RO l)).getD i ([],0)=((dT B RO l)[i].f,(dT B RO l)[i].b):=tV a;show Lp.sumN (fun j=>((gG (dT B RO l)).getD i ([],0)).1.getD j 0*y j) (bs B*bp B)<=((gG (dT B RO l)).getD i ([],0)).2;rw [e];exact h4
theorem J7 (h:Em B RO l):gS B RO l=true:=@QZ _ (Classical.propDecidable _) h
theorem GW (h:¬ Em B RO l):gS B RO l=false:=@Q8 _ (Classical.propDecidable _) h
theorem zi (h:l[k]?=some x):(l.map aL)[k]?=some (aL x):=by rw [QI,h];rfl
theorem Hi {c:Type}{a b:List c}(h:k<a.length)(d:k<b.length):(a.drop k=b.drop k ↔ a[k]=b[k]/\a.drop (k+1)=b.drop (k+1)):=by
 rw [Re h,Re d,SQ]
theorem pX (C:Mem)(v w:Value)(a b:List Nat)(d:Sl C 1 v (a.map aL))(f:Sl C 1 w (b.map aL)):Gives cx.P 22 [v,w] C (.bool (decide (a=b))):=by
 obtain ⟨A,c,rfl,u,K,_⟩:=id d;obtain ⟨A2,c2,rfl,_⟩:=id f;have L:maxLen<=9223372036854775807:=by simp [maxLen]
 simp only [aw] at d f u ⊢;refine Uv func22 26 U3 fun w0=>Ul 1 [0,1] Z<|Ul 5 [0,1,10] Z<|Uo (fun g=>?_) fun g=>?_
 ·have r:(a.length:Int)≠b.length:=by simpa using g
  exact Ul 1 [4] Z<|Ut U2<|⟨by rw [Q8 (fun e=>r (by rw [e]))],Z⟩
 have r:(a.length:Int)=b.length:=by simpa using g
 refine Ul 1 [0,1,5] Z<|G.loop (fun fr C' z B=>∃ (k:Nat),(k<=a.length/\(a=b ↔ a.drop k=b.drop k))/\fr=[(0,[],.slice A a.length c),(1,[],.slice A2 b.length c2),(5,[],.int .i64 k)]/\z=[]/\B=a.length-k) (hn_ [0,1,5] Z) ⟨0,⟨QK _,Iff.rfl⟩,Z,Z,Z⟩ (fun fr M N m D E=>?_);obtain ⟨k,⟨O,i⟩,rfl,rfl,rfl⟩:=E;refine Ul 4 [0,1,5,14] Z<|Uo (fun j=>?_) fun j=>?_
 ·have l:k<a.length:=by
   have:=aW j;omega
  have s:k<b.length:=by omega
  obtain ⟨x,t⟩:∃ x,a[k]=x:=⟨_,rfl⟩;obtain ⟨y,hy⟩:∃ y,b[k]=y:=⟨_,rfl⟩;have n:=Hi l s;rw [t,hy] at n;have F:a[k]?=some x:=by rw [aj l,t]
  have H:b[k]?=some y:=by rw [aj s,hy]
  refine UJ [0,1,2,3,4,5,6,7,8] [] Z kr_ fun R Q o=>Us 2 Z<|UD d.m_ U10 om_ (zi F) fl_ fun S I=>Un I U8<|Us 2 Z<|UD f.m_ U10 om_ (zi H) fl_ fun T J=>Un J U8<|C4 1 [0,1,5,25] o Z<|Uo (fun p=>?_) fun p=>?_
  ·have q:x≠y:=fun e=>by subst e;simp at p
   exact Ul 1 [4] Z<|Ut U2<|⟨by rw [Q8 (fun e=>q (n.1 (i.1 e)).1)],Z⟩
  have q:x=y:=by
   have:(x:Int)=y:=by simpa using p
   omega
  refine Um 1 Z fun R o=>Uw _ U7<|C4 1 [0,1,5] o Z<|UA (m':=a.length-(k+1)) om_ D (hn_ [0,1,5] Z) ⟨k+1,⟨by omega,i.trans (n.trans ⟨fun h=>h.2,fun h=>⟨q,h⟩⟩)⟩,Z,Z,Z⟩
 have l:k=a.length:=by
  have:=QJ j;omega
 exact Ul 1 [4] Z<|Ut U2<|⟨by rw [QZ (i.2 (by rw [RX om_,RX om_]))],Z⟩
theorem JV (C:Mem)(v w:Value)(a b:List (List Nat))(d:OutsIn C v a)(f:OutsIn C w b)(Y:a.length<=1000):Gives cx.P 17 [v,w] C (.bool (decide (a=b))):=by
 obtain ⟨g,z,d⟩:=d;obtain ⟨i,B,f⟩:=f;obtain ⟨A,c,rfl,J,aa,_⟩:=id d;obtain ⟨A2,c2,rfl,_⟩:=id f;have ab:maxLen<=9223372036854775807:=by simp [maxLen]
 have K:=z.1;have L:=B.1;simp only [aw,K,L] at d f J ⊢;refine Uv func17 27 U3 fun w0=>Ul 1 [0,1] Z<|Ul 5 [0,1,10] Z<|Uo (fun j=>?_) fun j=>?_
 ·have D:(a.length:Int)≠b.length:=by simpa using j
  exact Ul 1 [4] Z<|Ut U2<|⟨by rw [Q8 (fun e=>D (by rw [e]))],Z⟩
 have D:(a.length:Int)=b.length:=by simpa using j
 refine Ul 1 [0,1,5] Z<|G.loop (fun fr C' M N=>∃ (k:Nat),(k<=a.length/\(a=b ↔ a.drop k=b.drop k))/\fr=[(0,[],.slice A a.length c),(1,[],.slice A2 b.length c2),(5,[],.int .i64 k)]/\M=[]/\N=a.length-k) (hn_ [0,1,5] Z) ⟨0,⟨QK _,Iff.rfl⟩,Z,Z,Z⟩ (fun fr ac ad m O Q=>?_);obtain ⟨k,⟨hk,l⟩,rfl,rfl,rfl⟩:=Q;refine Ul 4 [0,1,5,14] Z<|Uo (fun n=>?_) fun n=>?_
 ·have o:k<a.length:=by
   have:=aW n;omega
  have E:k<b.length:=by omega
  obtain ⟨x,F⟩:∃ x,a[k]=x:=⟨_,rfl⟩;obtain ⟨y,hy⟩:∃ y,b[k]=y:=⟨_,rfl⟩;have r:=Hi o E;rw [F,hy] at r;obtain ⟨p,H⟩:∃ p,g[k]?=some p:=⟨g[k]'om_,aj om_⟩;obtain ⟨q,I⟩:∃ q,i[k]?=some q:=⟨i[k]'om_,aj om_⟩;have S:(g.map fun x=>[x])[k]?=some [p]:=by rw [QI,H];rfl
  have T:(i.map fun x=>[x])[k]?=some [q]:=by rw [QI,I];rfl
  have U:=z.2 k p x H (by rw [aj o,F]);have V:=B.2 k q y I (by rw [aj E,hy]);refine UJ [0,1,2,3,4,5,6,7,8,9] [(8,1)] Z kr_ fun R hB s=>Us 2 Z<|UD d.m_ U10 om_ S fl_ fun ae W=>Un W U8<|Us 2 Z<|UD f.m_ U10 om_ T fl_ fun af X=>Un X U8<|UU (fun _=>(pX _ _ _ x y U.m_ V.m_)) U9<|C4 1 [0,1,5,26] s Z<|Uo (fun t=>?_) fun t=>?_
  ·have u:x≠y:=by simpa using t
   exact Ul 1 [4] Z<|Ut U2<|⟨by rw [Q8 (fun e=>u (r.1 (l.1 e)).1)],Z⟩
  have u:x=y:=by simpa using t
  refine Um 1 Z fun R s=>Uw _ U7<|C4 1 [0,1,5] s Z<|UA (m':=a.length-(k+1)) om_ O (hn_ [0,1,5] Z) ⟨k+1,⟨by omega,l.trans (r.trans ⟨fun h=>h.2,fun h=>⟨u,h⟩⟩)⟩,Z,Z,Z⟩
 have o:k=a.length:=by
  have:=QJ n;omega
 exact Ul 1 [4] Z<|Ut U2<|⟨by rw [QZ (l.2 (by rw [RX om_,RX om_]))],Z⟩
def obF (B:Bk)(RO:Nat->List RowQ)(l:List Nat):List Int:=(bj (bi B) RO l).map SrcQ.n
def gO (o:List Int)(i:Nat):Option Nat:=if 0<=o.getD i 0 then some (o.getD i 0).toNat else none
def evO (o:List Int)(d:List Str)(i:Nat):Option Nat:=if (!(d.getD i [] == [48]))=true then gO o i else none
def usN (o:List Int)(d:List Str):List Nat:=(List.range d.length).filterMap (evO o d)
theorem yV {a b:Type}{p:a->Bool}{g:a->Option b}:∀ l:List a,(l.filter p).filterMap g=l.filterMap fun i=>if p i=true then g i else none
 | []=>rfl
 | x::l=>by
  by_cases h:p x=true
  ·rw [List.filter_cons,aJ h,List.filterMap_cons,List.filterMap_cons,aJ h,yV l]
  rw [List.filter_cons,aB h,List.filterMap_cons,aB h,yV l]
theorem Ou (o:List Int)(d:List Str):(oR d).filterMap (gO o)=usN o d:=yV _
theorem rR {n:Int}{l:List RowQ}:∀ s∈jL n l,s.n=n:=fun s hs=>by
 obtain ⟨r,_,rfl⟩:=QO.1 hs;rfl
theorem fm_n :∀ s∈l.flatMap (fun i=>jL (i:Nat) (RO i)),∃ i∈l,s.n=(i:Nat)/\s.r∈RO i:=fun s hs=>by
 obtain ⟨i,a,h⟩:=List.mem_flatMap.1 hs;obtain ⟨r,hr,rfl⟩:=QO.1 h;exact ⟨i,a,Z,hr⟩
theorem Po {f:Nat->List RowQ}:∀ {l:List Nat},l.Pairwise (·<·)->(l.flatMap fun i=>jL (i:Nat) (f i)).Pairwise (fun a b=>a.n<=b.n)
 | [],_=>List.Pairwise.nil
 | i::l,h=>by
  have h1:=RL.1 h;rw [List.flatMap_cons];refine SY.2 ⟨List.pairwise_of_forall_mem_list (r:=fun a b:SrcQ=>a.n<=b.n) (fun a c b d=>by rw [rR a c,rR b d];exact Int.le_refl _),Po h1.2,fun a c b d=>?_⟩;obtain ⟨j,g,e,_⟩:=fm_n b d;rw [rR a c,e];have:=h1.1 j g;omega
theorem Qy {T:List RowQ}(h:l.Pairwise (·<·)):(bj T RO l).Pairwise (fun a b=>a.n<=b.n):=by
 refine SY.2 ⟨List.pairwise_of_forall_mem_list (r:=fun a b:SrcQ=>a.n<=b.n) (fun a c b d=>by rw [rR a c,rR b d];exact Int.le_refl _),Po h,fun a c b d=>?_⟩;obtain ⟨j,f,e,_⟩:=fm_n b d;rw [rR a c,e];omega
section
variable {B:Bk} {fs:List Rat} {RO:Nat->List RowQ} {l:List Nat}
theorem Gk:(obF B RO l).length=(rwS B RO l).length:=by simp [obF,rwS,gG,dT]
theorem Pd (h:l.Pairwise (·<·)):(obF B RO l).Pairwise (·<=·):=by
 unfold obF;rw [List.pairwise_map];exact Qy h
end
theorem P2 (e:o.Pairwise (·<=·))(j:d.length=o.length):(usN o d).Pairwise (·<=·):=by
 unfold usN;rw [List.pairwise_filterMap];refine List.Pairwise.imp_of_mem (fun {a b} k f g x c y hy=>?_) (List.pairwise_lt_range);have l:=Q2.1 f;have h:o[a]?=some (o.getD a 0):=by rw [al,aj (show a<o.length by omega)];rfl
 have i:o[b]?=some (o.getD b 0):=by rw [al,aj (show b<o.length by omega)];rfl
 have h1:=List.pairwise_iff_getElem.1 e a b om_ om_ g;rw [(aE.1 h).2,(aE.1 i).2] at h1;unfold evO gO at c hy;split at c
 ·split at c
  ·split at hy
   ·split at hy
    ·cases c;cases hy;omega
    cases hy
   cases hy
  cases c
 cases c
theorem Mw (h:l.Pairwise (·<=·)):((l.map fun n:Nat=>(n:Int)).mergeSort fun x y=>decide (x<=y))=l.map fun n:Nat=>(n:Int):=by
 refine List.mergeSort_of_pairwise ?_;rw [List.pairwise_map];exact h.imp fun h=>QZ om_
def PD (o:List Int)(d:List Str)(r:Int)(D:Mem)(u:Value):Prop :=
 (r≠0/\u=.tuple #[.slice none 0 0,.int .i64 r])∨(r=0/\∃ v,u=.tuple #[v,.int .i64 0]/\Sl D 1 v ((bR (usN o d)).map aL))
theorem Bh {b:List (List Str × Str)}{c:List Str}{f:List Rat}(h:FG n b c d rs f=0)(g:uY n b c=0):d.length=rs.length:=by
 unfold FG at h;rw [aB (fun h2=>h2 g)] at h;by_cases e:yh rs.length d f=0
 ·unfold yh at e;by_cases a:eJ rs.length d=0
  ·have:=(mW.1 a).1;omega
  rw [aJ a] at e;exact absurd e a
 rw [aJ e] at h;exact absurd h e
theorem Iy (C:Mem)(H:Tabs C)(q r I:Value)(B:Bk)(V:List Rat)(b:Nat->List RowQ)(l:List Nat)(d:List Str)(t:List Rat)(v:BookIn C q B)(h:Calm B V b)(p:AscIn B.obs.length l)(W:Sl C 1 r (l.map aL))
  (J:Sl C 1 I (d.map eL)) (ar:∀ s∈d,s.length<=999998) (au:d.length<=1000) (av:d.all aX=true->d=t.map qtx/\∀ x∈t,QB 23 x) :
  Pur cx.P 30 [q,r,.agg ⟨[I]⟩] C fun u D=>PD (obF B b l) d (FG (bs B*bp B) ((rwS B b l).map dz) ((List.replicate (bs B*bp B) (0:Rat)).map qtx) d (rwS B b l) t) D u:=by
 have aV:=v;have hZ:=h.rich.bookz H v;have X:=h.cnt p.set;have Y:=fun (D:Mem)(c:C.le D)=>jR D q r B (bj (bi B) b l) (hZ.mono c) (by have:=h.n12;omega) (by unfold dT at X;rw [aw] at X;omega) (eP D (H.mono c) q r (v.mono c) h p.set (W.mono c));have aa:=fun (D:Mem)(c:C.le D)=>pp D (H.mono c) q r I B V b l d t (v.mono c) h p (W.mono c) (J.mono c) ar av;have ay:uY (bs B*bp B) ((rwS B b l).map dz) ((List.replicate (bs B*bp B) (0:Rat)).map qtx)=0:=nk (by have:=h.n12;omega) (by have:=(h.rowsQ p.set).m;unfold rwS;omega) (h.rowsQ p.set).l (h.q22 p.set) am (fun x hx=>by rw [(List.mem_replicate.1 hx).2];exact QB_zero.le dc_);obtain ⟨w,ab⟩:∃ w,FG (bs B*bp B) ((rwS B b l).map dz) ((List.replicate (bs B*bp B) (0:Rat)).map qtx) d (rwS B b l) t=w:=⟨_,rfl⟩;have ac:w=0->d.length=(obF B b l).length:=fun h0=>by rw [Gk];exact Bh (ab.trans h0) ay
 have ad:(obF B b l).Pairwise (·<=·):=Pd p.up;have K:frC (bj (bi B) b l)=(obF B b l).map fun z=>[Value.int .i64 z]:=by unfold frC obF;rw [Ry];rfl
 obtain ⟨n,hn⟩:∃ n,bs B*bp B=n:=⟨_,rfl⟩;obtain ⟨o,ho⟩:∃ o,obF B b l=o:=⟨_,rfl⟩;obtain ⟨cl,az⟩:∃ cl,bj (bi B) b l=cl:=⟨_,rfl⟩;rw [az] at Y K;rw [ho] at ac ad K ⊢;simp only [ab] at aa ⊢;obtain ⟨v1,v2,tv,cv,ov,rfl,_⟩:=id v.ex;obtain ⟨aY,aZ,rfl,_⟩:=id J;have a0:maxLen<=9223372036854775807:=by simp [maxLen]
 refine Uv func30 51 U3 fun w0=>Uq fun R a=>UF U6 fun b3=>UF U6 fun b5=>C4 2 [1,3,5] a Z<|G.freeze 1 Z fun _ _ ae=>G.freeze 0 Z fun _ _ af=>Uq fun R a=>Un (bkT ae 5) U8<|Up U6<|Un (bkT af 1) U8<|Uy (aa _ mup) U7<|C4 1 [1,3,5,8] a Z<|Ul 2 [1,3,5,8,19] Z<|Uo (fun L=>?_) fun L=>?_
 ·have aA:w≠0:=by simpa using L
  refine Ul 3 [6,7] Z<|Uz (G.dropAll (UO U3 ?_));exact ⟨Z,.inl ⟨aA,Z⟩⟩
 have ag:w=0:=by simpa using L
 have aC:=ac ag;have ah:=P2 ad aC;have a1:(oR d).length<=d.length:=by
  have:=RT (fun i=>!(d.getD i [] == [48])) (List.range d.length)
  rwa [RB] at this
 refine Uq fun R a=>Un (bkT ae 5) U8<|Up U6<|UV (Y _ mup) U7 (fun a2 _ _ aD=>?_);obtain ⟨rv,a3,fv,rfl,aE,aF,y⟩:=aD.ex;rw [K] at y;obtain ⟨_,_,_,aG⟩:=id aE;obtain ⟨Ar,cr,rfl,_⟩:=id aG;obtain ⟨Ao,co,rfl,_⟩:=id aF;obtain ⟨Af,cf,rfl,aH,a4,_⟩:=id y;have aI:(o.map fun z=>[Value.int .i64 z]).length=o.length:=aw _;rw [aI] at y aH ⊢;refine Us 3 Z<|UH U5 fun b9=>Ux (j:=0) U12<|C4 1 [5,10] a Z<|Ve 0 Z<|Ul 1 [5,10,11] Z<|Uq fun R a=>Un (bkT af 1) U8<|UV (CV _ _ d J.m_ au) U7 (fun a5 _ _ ai=>?_);obtain ⟨Au,cu,rfl,aM,a6,_⟩:=id ai;have ak:=ai;rw [aw] at ak aM ⊢;refine C4 2 [10,11,28,29,30] a Z<|G.nilArr 3 1<|G.loop (fun fr C' A μ=>∃ (k:Nat)(e:Option Addr)(n1 f:Nat),(k<=(oR d).length)/\fr=[(10,[],.slice Af o.length cf),(11,[],.slice e n1 f),(28,[],.slice Au (oR d).length cu),(29,[],.int .i64 (oR d).length),(30,[],.int .i64 k)]/\A=[.arr (.slice e n1 f) 3 1 (((oR d).take k).filterMap (gO o)).length ((((oR d).take k).filterMap (gO o)).map aL).flatten]/\μ=(oR d).length-k) (hn_ [10,11,28,29,30] Z) ⟨0,none,0,0,QK _,Z,Z,Z⟩ (fun fr a7 a8 m _ hI=>?_);obtain ⟨k,e,n1,f,hk,rfl,rfl,rfl⟩:=hI;refine Ul 1 [10,11,28,29,30,31] Z<|Uo (fun M=>?_) fun M=>?_
 ·have N:k<(oR d).length:=by
   have:=aW M;omega
  obtain ⟨i,O⟩:∃ i,(oR d)[k]?=some i:=⟨_,aj N⟩;have a9:i<d.length:=Q2.1 (SH.1 (QF O)).1;have E:((oR d).take (k+1)).filterMap (gO o)=((oR d).take k).filterMap (gO o)++(gO o i).toList:=by
   rw [Q5,O,List.filterMap_append];cases h:gO o i with
   | none=>simp [h]
   | some x=>simp [h]
  have ba:(((oR d).take k).filterMap (gO o)).length<=k:=Q0 (List.length_filterMap_le _ _) (List.length_take_le _ _);have Q:(o.map fun z=>[Value.int .i64 z])[i]?=some [.int .i64 (o.getD i 0)]:=by
   rw [QI,al,aj (show i<o.length by omega)];rfl
  obtain ⟨z,S⟩:∃ z,o.getD i 0=z:=⟨_,rfl⟩;rw [S] at Q;refine Uq fun R a=>UD ak.m_ U10 om_ (zi O) fl_ fun bb aN=>Un aN U8<|C4 1 [10,11,13,28,29,30] a Z<|Um 2 Z fun R a=>UD y.m_ U10 om_ Q fl_ fun bc aO=>Un aO U8<|C4 1 [10,11,13,28,29,30,38] a Z<|Uo (fun T=>?_) fun T=>?_
  ·have F:0<=z:=aW T;obtain ⟨x,rfl⟩:∃ x:Nat,z=x:=⟨z.toNat,(Int.toNat_of_nonneg F).symm⟩;have U:gO o i=some x:=by unfold gO;rw [S,aJ F];rfl
   rw [U] at E;refine Um 3 Z fun R a=>UD y.m_ U10 om_ Q fl_ fun bd aP=>Un aP U8<|UI [[.int .i64 (x:Nat)]] U12 fun be _ _ aQ=>UP (j:=0) U11 aQ Z ax (by show ((((oR d).take k).filterMap (gO o)).length+1)*8<=_;omega) fl_ fun an ao ap=>C4 1 [10,11,28,29,30] a Z<|Uq fun R a=>Uw _ U7<|C4 1 [10,11,28,29,30] a Z<|UE (L':=[.arr (.slice an ao ap) 3 1 (((oR d).take (k+1)).filterMap (gO o)).length ((((oR d).take (k+1)).filterMap (gO o)).map aL).flatten]) (by rw [E,Rj,Ri,QM];rfl)<|UA (m':=(oR d).length-(k+1)) om_ mup (hn_ [10,11,28,29,30] Z) ⟨k+1,an,ao,ap,om_,Z,Z,Z⟩
  have F:¬ 0<=z:=QJ T;have U:gO o i=none:=by unfold gO;rw [S,aB F]
  rw [U,Option.toList_none,Q7] at E;refine Uq fun R a=>Uw _ U7<|C4 1 [10,11,28,29,30] a Z<|UE (L':=[.arr (.slice e n1 f) 3 1 (((oR d).take (k+1)).filterMap (gO o)).length ((((oR d).take (k+1)).filterMap (gO o)).map aL).flatten]) (by rw [E])<|UA (m':=(oR d).length-(k+1)) om_ mup (hn_ [10,11,28,29,30] Z) ⟨k+1,e,n1,f,om_,Z,Z,Z⟩
 have N:k=(oR d).length:=by
  have:=QJ M;omega
 subst N;rw [QV,Ou];have aR:(usN o d).length<=1000:=by
  unfold usN;have:=List.length_filterMap_le (evO o d) (List.range d.length);rw [RB] at this;omega
 obtain ⟨g,aq⟩:∃ g,usN o d=g:=⟨_,rfl⟩;rw [aq] at ah aR ⊢;refine UE (L':=[.arr (.slice e n1 f) 3 1 (g.map fun n:Nat=>(n:Int)).length ((g.map fun n:Nat=>(n:Int)).map fun x=>.int .i64 x)]) (by rw [sQ,aw])<|UN [(1,3)] Z fun R a=>Up U6<|D.call (Da Tryz.sortInt _ (.slice e n1 f) 3 (g.map fun n:Nat=>(n:Int)) (by rw [aw];omega) kr_) Z (.inr dc_) U6 (QL _) fl_ fun bf _ bg _ aS=>Ur [11] a Z ?_;obtain ⟨rfl,rfl⟩:=aS;refine UE (L':=[.arr (.slice e n1 f) 3 1 g.length (g.map aL).flatten]) (by rw [Mw ah,sQ,aw];rfl)<|UN [(1,3)] Z fun R a=>Up U6<|D.call (zw _ (.slice e n1 f) g om_) Z (.inr dc_) U6 (QL _) fl_ fun bh _ bk _ aT=>C4 2 [6,7] a Z ?_;obtain ⟨rfl,aU⟩:=aT;refine Uz (G.dropAll (UO U3 ?_));refine ⟨Z,.inr ⟨ag,_,Z, ?_⟩⟩;rw [aq];exact aU.mono mup
def pO1:Obs:=⟨2,[120],qtx 1,qtx 0,[49],[66],[65],[],[],[]⟩
def pO2:Obs:=⟨2,[121],qtx 1,qtx 0,[50],[66],[65],[],[],[]⟩
def pB:Bk:=⟨[(0,0),(2,0),(0,2)],[(0,1,2)],[[57],[57],[57]],[⟨[65],0,none⟩,⟨[66],0,none⟩],[pO1,pO2]⟩
theorem Av (C:Mem)(b:Tabs C)(x y:Int)(c:x.natAbs<1000000000)(d:y.natAbs<1000000000):Gives cx.P 19 [.int .i64 x,.int .i64 y] C (ptV (((x:Int):Rat),((y:Int):Rat))):=by
 refine Uv func19 10 U3 fun w0=>Uq fun R a=>UH U5 fun e=>Ur [0,1,4] a Z<|Um 1 Z fun R a=>UC (lB _ b.m_ x om_) U7 fl_<|Up U6<|UC (lB _ b.m_ y om_) U7 fl_<|UG [ai (qtx x),ai (qtx y)] U8<|Ux (j:=0) U12<|Ur [4] a Z<|Uz (Vi af U4 ?_);exact ⟨Z,Z⟩
def nM (nm d:Str):List Value:=[.int .i64 2,ai nm,ai (qtx ((1:Int):Rat)),ai (qtx ((0:Int):Rat)),ai d,ai [66],ai [65],ai [],ai [],ai []]
theorem Ll (C:Mem)(c:Tabs C)(a d:Str):Gives cx.P 44 [ai a,ai d] C (.agg ⟨nM a d⟩):=by
 refine Uv func44 9 U3 fun w0=>Uq fun R b=>UH U5 fun e=>Ur [0,1,4] b Z<|Um 1 Z fun R b=>UC (Av _ c.m_ 1 0 dc_ dc_) U7 fl_<|Up U6<|UG (nM a d) U8<|Ux (j:=0) U12<|Ur [4] b Z<|Uz (Vi af U4 ?_);exact ⟨Z,Z⟩
theorem Du:pB.col.map zj=[[ai [65],ai [48],ai []],[ai [66],ai [48],ai []]]:=by
 show [[ai [65],ai (qtx 0),ai []],[ai [66],ai (qtx 0),ai []]]=_;rw [PT]
theorem M2 (C:Mem)(o:Tabs C):Pur cx.P 18 [] C fun u D=>BookIn D u pB:=by
 refine Uv func18 21 U3 fun w0=>Uq fun R a=>UH U5 fun y=>Ur [0] a Z<|Uq fun R a=>UC (Av _ o.m_ 0 0 dc_ dc_) U7 fl_<|UC (Av _ o.m_ 2 0 dc_ dc_) U7 fl_<|UC (Av _ o.m_ 0 2 dc_ dc_) U7 fl_<|U0 [gw (((0:Int):Rat),((0:Int):Rat)),gw (((2:Int):Rat),((0:Int):Rat)),gw (((0:Int):Rat),((2:Int):Rat))] U12 fl_ fun i _ _ m=>UG ([.int .i64 0,.int .i64 1,.int .i64 2]) U8<|U0 [[.int .i64 0,.int .i64 1,.int .i64 2]] U12 fl_ fun k _ _ n=>UG [.slice (some ⟨i,0,none⟩) 3 3,.slice (some ⟨k,0,none⟩) 1 1] U8<|UH U5 fun H=>Ux (j:=0) U12<|Ur [0,1] a Z<|Ul 1 [0,1,2] Z<|G.freeze 0 Z fun _ _ z=>G.cut (fun fr C' A B=>∃ (s t v w x:Value),(BookIn C' (.agg ⟨[s,t,v,w,x]⟩) pB)/\fr=[(0,[],.pointer (some ⟨y,0,none⟩))]/\A=[.obj y (.cells ⟨[s,t,v,w,x]⟩ 42 (0,0))]) ?_ (fun fr I J B K E=>?_)
 ·refine Vg (.cut [0,2,3,5,6,7,8] (.alt 1 (.cut [] (.alt 4 (.fin [9,10,11]) (.alt 9 (.fin [4,10,11]) .stop))) (.alt 4 (.cut [] (.alt 1 (.fin [9,10,11]) (.alt 9 (.fin [1,10,11]) .stop))) (.alt 9 (.cut [] (.alt 1 (.fin [4,10,11]) (.alt 4 (.fin [1,10,11]) .stop))) .stop)))) [(6,1),(8,1),(0,0)] Z Z kr_ fun R l a b=>Vr (fun _=>((bkT z 2).mono l)) U9<|UG ([ai [65],ai [48],ai []]) U8<|UG ([ai [66],ai [48],ai []]) U8<|Up U6<|UU (fun _=>(Ll _ o.m_ [120] [49])) U9<|Up U6<|UU (fun _=>(Ll _ o.m_ [121] [50])) U9<|UY b Z ⟨?_, ?_, ?_,trivial⟩
  ·refine U0 [[ai [57]],[ai [57]],[ai [57]]] U12 fl_ fun c p _ d=>UY b Z ⟨?_, ?_,trivial⟩
   ·refine U0 [[ai [65],ai [48],ai []],[ai [66],ai [48],ai []]] U12 fl_ fun e q _ f=>U0 [nM [120] [49],nM [121] [50]] U12 fl_ fun g r _ h=>UG [.slice (some ⟨i,0,none⟩) 3 3,.slice (some ⟨k,0,none⟩) 1 1,.slice (some ⟨c,0,none⟩) 3 3,.slice (some ⟨e,0,none⟩) 2 2,.slice (some ⟨g,0,none⟩) 2 2] U8<|Ux (j:=0) U12<|Ur [0] a Z ?_;clear a l b R;exact UB 0 mup (hn_ [0] Z) ⟨_,_,_,_,_,⟨_,_,_,_,_,Z,m.mono mup,n.mono mup,d.mono mup,(by rw [Du];exact f.mono mup),h.mono mup⟩,Z,Z⟩
   refine U0 [nM [120] [49],nM [121] [50]] U12 fl_ fun g r _ h=>U0 [[ai [65],ai [48],ai []],[ai [66],ai [48],ai []]] U12 fl_ fun e q _ f=>UG [.slice (some ⟨i,0,none⟩) 3 3,.slice (some ⟨k,0,none⟩) 1 1,.slice (some ⟨c,0,none⟩) 3 3,.slice (some ⟨e,0,none⟩) 2 2,.slice (some ⟨g,0,none⟩) 2 2] U8<|Ux (j:=0) U12<|Ur [0] a Z ?_;clear a l b R;exact UB 0 mup (hn_ [0] Z) ⟨_,_,_,_,_,⟨_,_,_,_,_,Z,m.mono mup,n.mono mup,d.mono mup,(by rw [Du];exact f.mono mup),h.mono mup⟩,Z,Z⟩
  ·refine U0 [[ai [65],ai [48],ai []],[ai [66],ai [48],ai []]] U12 fl_ fun e q _ f=>UY b Z ⟨?_, ?_,trivial⟩
   ·refine U0 [[ai [57]],[ai [57]],[ai [57]]] U12 fl_ fun c p _ d=>U0 [nM [120] [49],nM [121] [50]] U12 fl_ fun g r _ h=>UG [.slice (some ⟨i,0,none⟩) 3 3,.slice (some ⟨k,0,none⟩) 1 1,.slice (some ⟨c,0,none⟩) 3 3,.slice (some ⟨e,0,none⟩) 2 2,.slice (some ⟨g,0,none⟩) 2 2] U8<|Ux (j:=0) U12<|Ur [0] a Z ?_;clear a l b R;exact UB 0 mup (hn_ [0] Z) ⟨_,_,_,_,_,⟨_,_,_,_,_,Z,m.mono mup,n.mono mup,d.mono mup,(by rw [Du];exact f.mono mup),h.mono mup⟩,Z,Z⟩
   refine U0 [nM [120] [49],nM [121] [50]] U12 fl_ fun g r _ h=>U0 [[ai [57]],[ai [57]],[ai [57]]] U12 fl_ fun c p _ d=>UG [.slice (some ⟨i,0,none⟩) 3 3,.slice (some ⟨k,0,none⟩) 1 1,.slice (some ⟨c,0,none⟩) 3 3,.slice (some ⟨e,0,none⟩) 2 2,.slice (some ⟨g,0,none⟩) 2 2] U8<|Ux (j:=0) U12<|Ur [0] a Z ?_;clear a l b R;exact UB 0 mup (hn_ [0] Z) ⟨_,_,_,_,_,⟨_,_,_,_,_,Z,m.mono mup,n.mono mup,d.mono mup,(by rw [Du];exact f.mono mup),h.mono mup⟩,Z,Z⟩
  refine U0 [nM [120] [49],nM [121] [50]] U12 fl_ fun g r _ h=>UY b Z ⟨?_, ?_,trivial⟩
  ·refine U0 [[ai [57]],[ai [57]],[ai [57]]] U12 fl_ fun c p _ d=>U0 [[ai [65],ai [48],ai []],[ai [66],ai [48],ai []]] U12 fl_ fun e q _ f=>UG [.slice (some ⟨i,0,none⟩) 3 3,.slice (some ⟨k,0,none⟩) 1 1,.slice (some ⟨c,0,none⟩) 3 3,.slice (some ⟨e,0,none⟩) 2 2,.slice (some ⟨g,0,none⟩) 2 2] U8<|Ux (j:=0) U12<|Ur [0] a Z ?_;clear a l b R;exact UB 0 mup (hn_ [0] Z) ⟨_,_,_,_,_,⟨_,_,_,_,_,Z,m.mono mup,n.mono mup,d.mono mup,(by rw [Du];exact f.mono mup),h.mono mup⟩,Z,Z⟩
  refine U0 [[ai [65],ai [48],ai []],[ai [66],ai [48],ai []]] U12 fl_ fun e q _ f=>U0 [[ai [57]],[ai [57]],[ai [57]]] U12 fl_ fun c p _ d=>UG [.slice (some ⟨i,0,none⟩) 3 3,.slice (some ⟨k,0,none⟩) 1 1,.slice (some ⟨c,0,none⟩) 3 3,.slice (some ⟨e,0,none⟩) 2 2,.slice (some ⟨g,0,none⟩) 2 2] U8<|Ux (j:=0) U12<|Ur [0] a Z ?_;clear a l b R;exact UB 0 mup (hn_ [0] Z) ⟨_,_,_,_,_,⟨_,_,_,_,_,Z,m.mono mup,n.mono mup,d.mono mup,(by rw [Du];exact f.mono mup),h.mono mup⟩,Z,Z⟩
 obtain ⟨s,t,v,w,x,F,rfl,rfl⟩:=E;refine Uz (Vi af U4 ?_);exact ⟨Z,F⟩
theorem MK (h:q.den=1):q=(q.num:Rat):=Rat.ext rfl h
def wlB (D:Int)(q:Rat):Bool:=decide ((q*(D:Rat)).den=1) && decide ((q*(D:Rat)).num.natAbs<=999999999)
theorem Lc {D:Int}(h:wlB D q=true):Wl D q:=by
 unfold wlB at h;simp only [QT,QQ] at h;exact ⟨_,MK h.1,h.2⟩
theorem Jd {r:RowQ}(D:Int)(a:D≠0)(c:D.natAbs<=999999999)(h:(r.f.all (wlB D) && wlB D r.b)=true):RowI r:=by
 simp only [QT,Q4] at h;exact ⟨D,a,c,fun q d=>Lc (h.1 q d),Lc h.2⟩
theorem ub:qtx 1=[49]:=uc (z:=1) aq
theorem Ji:qtx 9=[57]:=uc (z:=9) aq
theorem ro1:dC [49]=1:=yB 1 ub aq
theorem P7:dC [50]=2:=yB 2 ML aq
theorem ry:pO1=⟨2,[120],[49],[48],[49],[66],[65],[],[],[]⟩:=by rw [pO1,ub,qtx_zero]
theorem rx:pO2=⟨2,[121],[49],[48],[50],[66],[65],[],[],[]⟩:=by rw [pO2,ub,qtx_zero]
theorem O7:Good pB.pts pB.tris:=(G1 aq dc_ dc_ dc_).1
theorem F4:lS pB.pts pB.tris (1,0)=[0]:=by decide +kernel
theorem Qf:ptO pO1=(1,0):=by rw [ry];unfold ptO;rw [ro1,ro0]
theorem Qe:ptO pO2=(1,0):=by rw [rx];unfold ptO;rw [ro1,ro0]
theorem Qd:dR pO1=0:=by rw [ry];decide +kernel
theorem Qc:dR pO2=0:=by rw [rx];decide +kernel
theorem Qh:gM pB.pts pB.tris pB.col pO1=0:=by
 unfold gM;rw [aB (by rw [Qd];decide),aB (by unfold Il;rw [Qf,F4];decide),aB (by rw [ry];decide +kernel),aB (by rw [ry];decide +kernel),aB (by rw [ry];unfold Kt;rw [ro1];decide +kernel),aB (by rw [ry];decide +kernel)]
theorem Qg:gM pB.pts pB.tris pB.col pO2=0:=by
 unfold gM;rw [aB (by rw [Qc];decide),aB (by unfold Il;rw [Qe,F4];decide),aB (by rw [rx];decide +kernel),aB (by rw [rx];decide +kernel),aB (by rw [rx];unfold Kt;rw [P7];decide +kernel),aB (by rw [rx];decide +kernel)]
def pFs:List Rat:=[9,9,9]
theorem O4:Terr pB pFs:=⟨by simp [pB,pFs,Ji],rfl,by decide +kernel⟩
theorem p_on:onQ pB.pts pFs (0,1,2) (1,0)=9:=by decide +kernel
theorem O3:EP pB.pts pB.tris pFs (1,0)=.tuple #[ai (qtx 9),.int .i64 0]:=by
 unfold EP;rw [F4];show Dz (onQ pB.pts pFs (0,1,2) (1,0))=_;rw [p_on];unfold Dz;rw [aJ (bQ aq)]
theorem p_w:∀ j,QB 22 (wgt pB.pts (0,1,2) (1,0) j):=by
 intro j;rw [Me];rcases (by omega:j % 3=0∨j % 3=1∨j % 3=2) with h | h | h <;> rw [h] <;> decide +kernel
theorem p_sl:∀ j,QP 22 (slf pB.pts (0,1,2) j):=by
 intro j;unfold slf;rw [IF];rcases (by omega:min j 2=0∨min j 2=1∨min j 2=2) with h | h | h <;> rw [h] <;> decide +kernel
def pR (z:Rat):List RowQ:=[⟨[1/2,1/2,0],z⟩,⟨[-1/2, -1/2,0], -z⟩]
theorem p_rows1:rowsO pB pO1 (1,0) (0,1,2) 9=pR 8:=by
 unfold rowsO kK;rw [ry,ro1];decide +kernel
theorem p_rows2:rowsO pB pO2 (1,0) (0,1,2) 9=pR 7:=by
 unfold rowsO kK;rw [rx,P7];decide +kernel
theorem Qi:∀ o∈pB.obs,ObsR o:=by
 intro o a;simp only [pB,QU,RV,S9] at a;rcases a with rfl | rfl
 ·rw [ry];exact ⟨by decide,by decide,by decide,by decide,by decide,by decide,by decide,by decide,by decide⟩
 rw [rx];exact ⟨by decide,by decide,by decide,by decide,by decide,by decide,by decide,by decide,by decide⟩
theorem p_br:BookR pB:=by
 refine ⟨by decide, ?_,by decide,Qi⟩;intro x a;simp only [pB,QU,RV,S9] at a;rcases a with rfl | rfl
 ·exact ⟨by decide +kernel,fun q h=>by simp at h,by decide⟩
 exact ⟨by decide +kernel,fun q h=>by simp at h,by decide⟩
theorem p_bz:iH pB=0:=by
 have h1:rm pB 1=0:=by
  have h0:rm pB 0=0:=rfl;show (if rm pB 0≠0 then rm pB 0 else obZ pB (pB.obs.take 0) (pB.obs.getD 0 JL))=0;rw [aB (by rw [h0];decide)];show obZ pB [] pO1=0;unfold obZ;rw [aB (by rw [Qh];decide),aB dc_]
 have h2:rm pB 2=0:=by
  show (if rm pB 1≠0 then rm pB 1 else obZ pB (pB.obs.take 1) (pB.obs.getD 1 JL))=0;rw [aB (by rw [h1];decide)];show obZ pB [pO1] pO2=0;unfold obZ;rw [aB (by rw [Qg];decide),aB dc_]
 unfold iH;rw [aB aq,aB aq,aB dc_];exact h2
def pRO (i:Nat):List RowQ:=if i=0 then pR 8 else pR 7
theorem M5:Fine pB pFs pO1 (1,0) 0 (0,1,2) 9 :=
 ⟨⟨rfl,rfl,by decide +kernel,⟨bQ aq,bQ aq⟩,fun _=>by decide +kernel⟩,⟨[],F4⟩,rfl,O3,by decide +kernel,by unfold kK;rw [ry,ro1];decide +kernel,p_w,by rw [ry];decide +kernel,p_sl,fun _ h=>absurd rfl h,by
  rw [p_rows1];unfold Oh;decide +kernel⟩
theorem M4:Fine pB pFs pO2 (1,0) 0 (0,1,2) 9 :=
 ⟨⟨rfl,rfl,by decide +kernel,⟨bQ aq,bQ aq⟩,fun _=>by decide +kernel⟩,⟨[],F4⟩,rfl,O3,by decide +kernel,by unfold kK;rw [rx,P7];decide +kernel,p_w,by rw [rx];decide +kernel,p_sl,fun _ h=>absurd rfl h,by
  rw [p_rows2];unfold Oh;decide +kernel⟩
theorem O5:Rich pB pFs pRO:=by
 refine ⟨O7,p_br,p_bz,O4,by decide,fun i o a=>?_⟩;rcases (by have h:=(aE.1 a).1;have h2:pB.obs.length=2:=rfl;omega:i=0∨i=1) with rfl | rfl
 ·simp only [pB,List.getElem?_cons_zero,Rc] at a;subst a;exact ⟨_,_,_,_,M5,p_rows1.symm⟩
 simp only [pB,SP,List.getElem?_cons_zero,Rc] at a;subst a;exact ⟨_,_,_,_,M4,p_rows2.symm⟩
theorem pR_I:∀ r∈pR 8++pR 7,RowI r:=by
 intro r hr;simp only [pR,Sd,SB,QU,RV,S9] at hr;rcases hr with rfl | rfl | rfl | rfl <;> exact Jd 2 dc_ dc_ aq
theorem p_th:bi pB=[]:=rfl
theorem By:Calm pB pFs pRO:=by
 refine ⟨O5,by decide,fun r hr=>(by rw [p_th] at hr;cases hr),fun i _ r hr=>?_,by decide,fun i _=>?_,by decide⟩
 ·refine pR_I r ?_;unfold pRO at hr;split at hr
  ·exact Sf _ hr
  exact SF _ hr
 unfold pRO;split <;> decide
theorem F5 (y:Rat)(h:∀ r∈dT pB pRO l,Lp.sumN (fun j=>r.f.getD j 0*y) 3<=r.b):gS pB pRO l=true:=J7 (xg.2 ⟨fun _=>y,h⟩)
theorem uk :dT pB pRO l=l.flatMap pRO:=by rw [nV,p_th];rfl
theorem p_h0:gS pB pRO []=true:=F5 0 (by rw [uk];decide)
theorem p_h1:gS pB pRO [0]=true:=F5 8 (by rw [uk];decide +kernel)
theorem p_h2:gS pB pRO [1]=true:=F5 7 (by rw [uk];decide +kernel)
theorem p_h3:gS pB pRO [0,1]=false:=by
 refine GW fun h=>?_;obtain ⟨y,hy⟩:=xg.1 h;rw [uk] at hy;have h1:=hy ⟨[-1/2, -1/2,0], -8⟩ aq;have h2:=hy ⟨[1/2,1/2,0],7⟩ aq;have e:bs pB*bp pB=3:=rfl;rw [e] at h1 h2;simp only [Lp.sumN,al,List.getElem?_cons_zero,SP,R0] at h1 h2;grind
theorem p_hS:hS pB pRO 0=true/\hS pB pRO 1=true/\hS pB pRO 2=true/\hS pB pRO 3=false:=⟨p_h0,p_h1,p_h2,p_h3⟩
theorem ON:cJ 2=[0,1,2,3]:=by decide +kernel
theorem M6:jD (hS pB pRO) (cJ 2)=[3]:=by
 obtain ⟨h0,h1,h2,h3⟩:=p_hS;rw [ON];simp only [jD,SA,List.foldl_nil,iT,h0,h1,h2,h3,List.any_nil,Bool.or_true,Bool.or_false,Su,Rx,RU,SB]
theorem O6:(yz (hC pB pRO) (cJ 2)).map cW=[[0],[1]]:=by
 obtain ⟨h0,h1,h2,h3⟩:=p_hS;have a:hC pB pRO 0=false:=h3;have b:hC pB pRO 1=true:=h2;have c:hC pB pRO 2=true:=h1;have d:hC pB pRO 3=true:=h0;rw [ON];simp only [yz,SA,List.foldl_nil,pn,a,b,c,d];decide +kernel
theorem QC:AscIn 2 [0,1]:=⟨by decide,by decide⟩
theorem asc1:AscIn 2 [1]:=⟨by decide,by decide⟩
theorem Dw {D:Mem}{v a b:Value}{p q:List Nat}(c:Sl D 1 a (p.map aL))(d:Sl D 1 b (q.map aL))(e:Sl D 1 v [[a],[b]]):OutsIn D v [p,q] :=
 ⟨[a,b],(OutL.nil D).snoc c |>.snoc d,e⟩
theorem yq {D:Mem}{u:Value}(h:SmallO [x] D u):∃ v,u=.tuple #[v,.bool true,.int .i64 0]/\Sl D 1 v ((cW x).map aL):=by
 cases h with
 | none h=>cases h
 | some y v h1 h2 =>
  cases h1
  exact ⟨v,Z,h2⟩
theorem wT (C:Mem)(b:Tabs C):Gives cx.P 11 [] C (.bool true):=by
 refine Uv func11 71 U3 fun w0=>Um 1 Z fun R a=>Vv [] trivial (a _ _ _ Z ?_);refine Uq fun R a=>UV (M2 _ b.m_) U7 (fun y _ _ c=>?_);obtain ⟨z,A,B,D,E,rfl,g,h,i,k,l⟩:=id c.ex;obtain ⟨F,H,rfl,_⟩:=id g;obtain ⟨A2,c2,rfl,_⟩:=id h;obtain ⟨I,J,rfl,_⟩:=id i;obtain ⟨K,L,rfl,_⟩:=id k;obtain ⟨M,N,rfl,_⟩:=id l;refine UH U5 fun O=>Ux (j:=0) U12<|Ur [1] a Z<|G.freeze 0 Z fun _ _ e=>Uq fun R a=>Un (bkT e 5) U8<|UI [[.int .i64 0],[.int .i64 1]] U12 fun Q _ _ m=>Uy (CG _ b.m_ _ _ pB pFs pRO [0,1] c.m_ By QC m.m_) U7<|C4 5 [1,2,3] a Z<|Uq fun R a=>Un (bkT e 5) U8<|UI [[.int .i64 1]] U12 fun S _ _ n=>Uy (CG _ b.m_ _ _ pB pFs pRO [1] c.m_ By asc1 n.m_) U7<|C4 5 [1,2,3,4,5] a Z<|Uq fun R a=>Un (bkT e 5) U8<|UT (zL _ b.m_ _ pB pFs pRO c.m_ By dc_) U7 fl_ (fun T _ _ o=>?_);have p:=M6 ▸ o;obtain ⟨U,rfl,q⟩:=yq p;refine C4 7 [1,2,3,4,5,6,7,8] a Z<|Uq fun R a=>Un (bkT e 5) U8<|UT (El _ b.m_ _ pB pFs pRO c.m_ By dc_) U7 fl_ (fun V _ _ r=>?_);obtain ⟨W,rfl,f⟩:=r;rw [show pB.obs.length=2 from rfl,O6] at f;exact C4 5 [2,3,4,5,6,7,8,9,10] a Z<|Um 5 Z fun R a=>UM U8<|Us 2 Z<|UM U8<|Us 3 Z<|UM U8<|Us 2 Z<|VO [[.int .i64 0],[.int .i64 1]] U12 fl_ U2 fun X _ _ s=>UK (fun d=>pX _ _ _ [0,1] [0,1] q.m_ ((s (by exact d)).mono mup)) U9<|UM U8<|Us 2 Z<|UM U8<|Us 3 Z<|UM U8<|Us 2 Z<|VO [[.int .i64 0]] U12 fl_ U2 fun t _ _ u=>VO [[.int .i64 1]] U12 fl_ U2 fun v _ _ w=>VO [[.slice (some ⟨t,0,none⟩) 1 1],[.slice (some ⟨v,0,none⟩) 1 1]] U12 fl_ U2 fun Y _ _ x=>UK (fun d=>JV _ _ _ [[0],[1]] [[0],[1]] f.m_ (Dw ((u (by exact d)).mono mup) ((w (by exact d)).mono mup) ((x (by exact d)).mono mup)) dc_) U9<|UM U8<|Us 3 Z<|UM U8<|C4 1 [0] a Z<|Ut U2<|⟨by rw [p_h3,p_h2];rfl,Z⟩
theorem Gl (x y:Nat):((x:Int) == (y:Int))=(x == y):=by
 by_cases h:x=y
 ·subst h;simp
 rw [RI.2 h,RI.2 (fun e=>h (Int.ofNat_inj.1 e))]
def N5 (D:Mem)(n:Nat)(rows:List RowQ)(u:Value):Prop:=∃ rv ov,u=.tuple #[.agg ⟨[.int .i64 n,rv,ov]⟩,.bool true]/\RowsT D rv ((gG rows).map dz)/\Sl D 1 ov ((List.replicate n (0:Rat)).map aZ)
theorem FF (i:Nat):((List.replicate (i+1) (0:Rat)).map aZ).flatten=((List.replicate i (0:Rat)).map aZ).flatten++[[ai [48]]].flatten:=by
 rw [<- nW,<- nW,List.replicate_succ'];rfl
theorem yK (C:Mem)(o T:Value)(B:Bk)(l:List SrcQ)(p:BookZ C o B 0)(U:bs B*bp B<=60)(aA:l.length<=300)
  (ac:∀ D:Mem,C.le D->Pur cx.P 52 [o,T] D fun u E=>∃ v,u=.tuple #[v,.int .i64 0]/\xQ E v l) :
  Pur cx.P 29 [o,T] C fun u D=>N5 D (bs B*bp B) (l.map SrcQ.r) u:=by
 have aB:=p;obtain ⟨n,V⟩:∃ n,bs B*bp B=n:=⟨_,rfl⟩;have ad:∀ D:Mem,C.le D->Gives cx.P 35 [o] D (.tuple #[.int .i64 n,.int .i64 0]):=fun D hD=>by
  have h:=zp D o B 0 (p.mono hD) U;rw [aJ rfl,V] at h;exact h
 rw [V] at U ⊢;obtain ⟨v1,v2,tv,cv,ov,rfl,h1,h2,h3,h4,h5⟩:=id p.i.ex;have aC:maxLen<=9223372036854775807:=by simp [maxLen]
 refine Uv func29 58 U3 fun w0=>Uq fun R a=>UF U6 fun b2=>UH U5 fun c=>C4 1 [1,2,4] a Z<|G.freeze 1 Z fun _ _ W=>Uq fun R a=>Un (bkT W 5) U8<|Uy (ad _ mup) U7<|C4 5 [1,2,4,6,7] a Z<|Uq fun R a=>Un (bkT W 5) U8<|Up U6<|UV (ac _ mup) U7 (fun aD _ _ ag=>?_);obtain ⟨wv,rfl,ah⟩:=ag;obtain ⟨vs,t,x⟩:=ah;have y:=ie t;obtain ⟨X,Y,rfl,ak,aE,_⟩:=id x;have al:(bS vs l).length=l.length:=by unfold bS;simp [y]
 rw [al] at x ak ⊢;refine C4 5 [4,6,7,8,9] a Z<|Um 1 Z fun R a=>UG [.int .i64 n,.slice none 0 0,.slice none 0 0] U8<|UH U5 fun d=>Ux (j:=0) U12<|Ur [4,6,7,8,9,10] a Z<|Ul 1 [4,6,7,8,9,10,11] Z<|G.nilArr 56 1<|UE (L':=[.arr (sB7 none 0 0) 56 1 0 ((List.replicate 0 (0:Rat)).map aZ).flatten,.obj d (.cells ⟨[.int .i64 n,.slice none 0 0,.slice none 0 0]⟩ 80 (0,0)),.obj c (.cells ⟨[.int .i64 0,.slice none 0 0,.slice none 0 0]⟩ 80 (0,0))]) Z<|G.loop (fun fr C' e z=>∃ (i:Nat)(g:Option Addr)(n1 k:Nat),(i<=n)/\fr=[(4,[],.pointer (some ⟨c,0,none⟩)),(6,[],.int .i64 n),(7,[],.int .i64 0),(8,[],.slice X l.length Y),(9,[],.int .i64 0),(10,[],.pointer (some ⟨d,0,none⟩)),(11,[],.int .i64 i)]/\e=[.arr (sB7 g n1 k) 56 1 i ((List.replicate i (0:Rat)).map aZ).flatten,.obj d (.cells ⟨[.int .i64 n,.slice none 0 0,.slice g n1 k]⟩ 80 (0,0)),.obj c (.cells ⟨[.int .i64 0,.slice none 0 0,.slice none 0 0]⟩ 80 (0,0))]/\z=n-i) (hn_ [4,6,7,8,9,10,11] Z) ⟨0,none,0,0,QK _,Z,Z,Z⟩ (fun fr aF aG m _ A=>?_);obtain ⟨i,g,n1,k,hi,rfl,rfl,rfl⟩:=A;refine Ul 3 [4,6,7,8,9,10,11,29] Z<|Uo (fun F=>?_) fun F=>?_
 ·have aa:i<n:=by
   have:=aW F;omega
  refine Um 1 Z fun R a=>Uu ae U9<|UI [[ai [48]]] U12 fun aH _ _ an=>UP (j:=0) U11 an.m_ Z ax (by show (i+1)*16<=_;omega) fl_ fun H I J=>Up U6<|Ux (j:=1) U12<|Ur [4,6,7,8,9,10,11] a Z<|Um 1 Z fun R a=>Uw _ U7<|C4 1 [4,6,7,8,9,10,11] a Z<|G.perm (L':=[.arr (sB7 H I J) 56 1 (i+1) ((List.replicate (i+1) (0:Rat)).map aZ).flatten,.obj d (.cells ⟨[.int .i64 n,.slice none 0 0,.slice H I J]⟩ 80 (0,0)),.obj c (.cells ⟨[.int .i64 0,.slice none 0 0,.slice none 0 0]⟩ 80 (0,0))]) (by rw [FF];exact List.Perm.swap _ _ _)<|UA (m':=n-(i+1)) om_ mup (hn_ [4,6,7,8,9,10,11] Z) ⟨i+1,H,I,J,om_,Z,Z,Z⟩
 have aa:i=n:=by
  have:=QJ F;omega
 subst aa;refine Ul 3 [4,7,9,10,37,38,39] Z<|G.freezeArr 0 ((List.replicate i (0:Rat)).map aZ) Z Z ek am (fun _ _ ab=>?_);obtain ⟨_,_,ao,_⟩:=id ab;cases ao
 refine G.nilArr 123 2<|UE (L':=[.arr (sA7 none 0 0) 123 2 0 (prC (vs.take 0) (l.take 0)).flatten,.obj d (.cells ⟨[.int .i64 i,.slice none 0 0,.slice g ((List.replicate i (0:Rat)).map aZ).length k]⟩ 80 (0,0)),.obj c (.cells ⟨[.int .i64 0,.slice none 0 0,.slice none 0 0]⟩ 80 (0,0))]) Z<|G.loop (fun fr C' e z=>∃ (q:Nat)(A2:Option Addr)(n2 c2:Nat),(q<=l.length)/\fr=[(4,[],.pointer (some ⟨c,0,none⟩)),(7,[],.int .i64 0),(9,[],.int .i64 0),(10,[],.pointer (some ⟨d,0,none⟩)),(37,[],.slice X l.length Y),(38,[],.int .i64 l.length),(39,[],.int .i64 q)]/\e=[.arr (sA7 A2 n2 c2) 123 2 q (prC (vs.take q) (l.take q)).flatten,.obj d (.cells ⟨[.int .i64 i,.slice A2 n2 c2,.slice g ((List.replicate i (0:Rat)).map aZ).length k]⟩ 80 (0,0)),.obj c (.cells ⟨[.int .i64 0,.slice none 0 0,.slice none 0 0]⟩ 80 (0,0))]/\z=l.length-q) (hn_ [4,7,9,10,37,38,39] Z) ⟨0,none,0,0,QK _,Z,Z,Z⟩ (fun fr aI aL m _ A=>?_);obtain ⟨q,A2,n2,c2,hq,rfl,rfl,rfl⟩:=A;refine Ul 1 [4,7,9,10,37,38,39,40] Z<|Uo (fun K=>?_) fun K=>?_
 ·have L:q<l.length:=by
   have:=aW K;omega
  obtain ⟨s,M⟩:∃ s,l[q]?=some s:=⟨l[q],aj L⟩;obtain ⟨w,N⟩:∃ w,vs[q]?=some w:=⟨vs[q]'om_,aj om_⟩;have ap:=t.2 q w s.r N (by rw [QI,M];rfl);obtain ⟨Ax,aq,rfl,_⟩:=id ap;have ar:=Br y N M;refine Uq fun R a=>UD x.m_ U10 om_ (Fa N M) fl_ fun aM au=>Un au U8<|UH U5 fun aN=>Ux (j:=0) U12<|Ur [4,7,9,10,13,37,38,39] a Z<|G.freeze 0 Z fun _ _ av=>Um 1 Z fun R a=>Uu ae U9<|Up U6<|Un (bkT av 2) U8<|UI [[.slice Ax (s.r.f.map fe).length aq,ai (qtx s.r.b)]] U12 fun aO _ _ ay=>UP (j:=0) U11 ay.m_ Z ax (by show (q+1)*40<=_;omega) fl_ fun O Q S=>Up U6<|Ux (j:=1) U12<|Ur [4,7,9,10,37,38,39] a Z<|Uq fun R a=>Uw _ U7<|C4 1 [4,7,9,10,37,38,39] a Z<|G.perm (L':=[.arr (sA7 O Q S) 123 2 (q+1) (prC (vs.take (q+1)) (l.take (q+1))).flatten,.obj d (.cells ⟨[.int .i64 i,.slice O Q S,.slice g ((List.replicate i (0:Rat)).map aZ).length k]⟩ 80 (0,0)),.obj c (.cells ⟨[.int .i64 0,.slice none 0 0,.slice none 0 0]⟩ 80 (0,0))]) (by rw [ar,Ri];exact List.Perm.swap _ _ _)<|UA (m':=l.length-(q+1)) om_ mup (hn_ [4,7,9,10,37,38,39] Z) ⟨q+1,O,Q,S,om_,Z,Z,Z⟩
 have L:q=l.length:=by
  have:=QJ K;omega
 subst L;refine Uq fun R a=>Uu ae U9<|Us 5 Z<|UM U8<|Ux (j:=2) U12<|C4 1 [4,5] a Z ?_;rw [Rr (show vs.length<=l.length by omega),QV];refine G.freezeArr 1 (prC vs l) Z Z (FY _ _) (by rw [prC,dA (by simp [y]),aw]) fun _ _ az=>Uz (Vw af U5 ?_);exact ⟨Z,_,_,Z,(Ba (rows:=l.map SrcQ.r) (RowsOk.m_ t) az),ab.mono mup⟩
def cuN (o:List Int)(d:List Str)(i:Nat):List Nat:=bR ((List.range i).filterMap (evO o d))
theorem Pu :(cuN o d i).length<=i:=by
 unfold cuN;have h1:=gY ((List.range i).filterMap (evO o d));have h2:=List.length_filterMap_le (evO o d) (List.range i);rw [RB] at h2;omega
theorem NR (h:evO o d i=none):cuN o d (i+1)=cuN o d i:=by
 unfold cuN;rw [RK,List.filterMap_append];simp [h]
theorem HC (h:evO o d i=some x):cuN o d (i+1)=if (cuN o d i).getLast?=some x then cuN o d i else cuN o d i++[x]:=by
 unfold cuN;rw [RK,List.filterMap_append,show [i].filterMap (evO o d)=[x] by simp [h]];exact zu
theorem J2 (h:0<l.length):l[l.length-1]?=some (l.getLast?.getD 0):=by
 rw [<- SE];cases e:l.getLast? with
 | none=>rw [List.getLast?_eq_none_iff] at e;subst e;cases h
 | some x=>rfl
theorem GO (h:0<l.length):l.getLast?=some x ↔ l.getLast?.getD 0=x:=by
 cases e:l.getLast? with
 | none=>rw [List.getLast?_eq_none_iff] at e;subst e;cases h
 | some y=>simp
theorem JT (C:Mem)(hT:Tabs C)(E F W:Value)(B:Bk)(fs:List Rat)(g:Nat->List RowQ)(l:List Nat)(d:List Str)(X:BookIn C E B)(h:Calm B fs g)(Y:AscIn B.obs.length l)(an:Sl C 1 F (l.map aL))
  (H:Sl C 1 W (d.map eL)) (ao:d.length=(obF B g l).length) :
  Pur cx.P 33 [E,F,.agg ⟨[W]⟩] C fun u D=>Sl D 1 u ((bR (usN (obF B g l) d)).map aL):=by
 have aa:=h.cnt Y.set;have ab:=fun (D:Mem)(I:C.le D)=>eP D (hT.mono I) E F (X.mono I) h Y.set (an.mono I) D (Mem.le.refl _);have ac:∀ i s,(bj (bi B) g l)[i]?=some s->s.n=(obF B g l).getD i 0:=fun i s hs=>by
  unfold obF;rw [al,QI,hs];rfl
 have ad:(obF B g l).length=(bj (bi B) g l).length:=by unfold obF;rw [aw]
 have ap:(bj (bi B) g l).length<=120:=by unfold dT at aa;rwa [aw] at aa
 have ae:usN (obF B g l) d=(List.range d.length).filterMap (evO (obF B g l) d):=rfl;obtain ⟨o,ho⟩:∃ o,obF B g l=o:=⟨_,rfl⟩;obtain ⟨k,ag⟩:∃ k,bj (bi B) g l=k:=⟨_,rfl⟩;rw [ag] at ad ap;simp only [ag,ho] at ab ac ad ao ae ⊢;rw [ae];obtain ⟨v1,v2,tv,cv,ov,rfl,_⟩:=id X.ex;obtain ⟨aN,aO,rfl,aq,aP,_⟩:=id H;rw [aw] at H aq ⊢;have aQ:maxLen<=9223372036854775807:=by simp [maxLen]
 refine Uv func33 66 U3 fun w0=>Uq fun R c=>UF U6 fun b3=>UF U6 fun b5=>C4 1 [1,3,5] c Z<|G.freeze 1 Z fun _ _ ar=>G.freeze 0 Z fun _ _ ah=>Ul 1 [1,3,5,7] Z<|Uq fun R c=>Un (bkT ar 5) U8<|Up U6<|UV (ab _ mup) U7 (fun aR _ _ au=>?_);obtain ⟨wv,rfl,av⟩:=au;obtain ⟨vs,ay,J⟩:=av;have az:=ie ay;obtain ⟨Aw,cw,rfl,aA,aS,_⟩:=id J;have aC:(bS vs k).length=k.length:=by unfold bS;simp [az]
 rw [aC] at J aA ⊢;refine C4 5 [5,7,8] c Z<|Ul 1 [5,7,8,10] Z<|G.nilArr 3 1<|G.loop (fun fr C' K μ=>∃ (i:Nat)(p:Option Addr)(n1 y:Nat),(i<=d.length)/\fr=[(5,[],.pointer (some ⟨b5,0,none⟩)),(7,[],.slice p n1 y),(8,[],.slice Aw k.length cw),(10,[],.int .i64 i)]/\K=[.arr (.slice p n1 y) 3 1 (cuN o d i).length ((cuN o d i).map aL).flatten]/\μ=d.length-i) (hn_ [5,7,8,10] Z) ⟨0,none,0,0,QK _,Z,Z,Z⟩ (fun fr aT aU m _ hI=>?_);obtain ⟨i,p,n1,y,hi,rfl,rfl,rfl⟩:=hI;refine Um 7 Z fun R c=>UQ U6 (fun _=>PtrTo.blockT (Mem.get ah mup) _ 1) U3<|Us 2 Z<|UM U8<|Ur [5,7,8,10,28] c Z<|Uo (fun L=>?_) fun L=>?_
 ·have M:i<d.length:=by
   have:=aW (SC.1 L).2;omega
  obtain ⟨s,hs⟩:∃ s,k[i]?=some s:=⟨_,aj om_⟩;obtain ⟨w,hw⟩:∃ w,vs[i]?=some w:=⟨_,aj om_⟩;obtain ⟨t,ht⟩:∃ t,d[i]?=some t:=⟨_,aj M⟩;have N:d.getD i []=t:=by rw [al,ht];rfl
  have O:=ac i s hs;have aD:=Pu (o:=o) (d:=d) (i:=i);obtain ⟨f,sr⟩:=s;refine Um 2 Z fun R c=>UD J.m_ U10 om_ (Fa hw hs) fl_ fun aV aE=>Vz aE U10 fl_ fun aX aF=>Un aF U8<|C4 1 [5,7,8,10,11] c Z<|V6 0 Z (fun A7 c7 e7 Q _ _=>?_);cases e7
  obtain ⟨b,z⟩:∃ b,cuN o d i=b:=⟨_,rfl⟩;rw [z] at aD Q ⊢;refine Um 4 Z fun R c=>UQ U6 (fun _=>PtrTo.blockT (Mem.get ah mup) _ 1) U3<|Up U6<|D.index U10 (fun A=>⟨H.mono mup,by omega,(show (d.map eL)[i]?=some (eL t) by rw [QI,ht];rfl)⟩) fl_ Z fun aY aG=>UQ U6 aG U3<|Up U6<|UM U8<|Us 8 Z<|Uw _ U7<|Wo (p.getD ⟨0,0,none⟩).block ((b.length-1)*1) Z Z Z Z Z Z Z Z Z Z (fun A=>by
   have h:((b.length:Int) == 0)=false:=A.1;have:¬ (b.length:Int)=0:=by simpa using h
   exact ⟨Q om_,by omega,by omega,by rw [show ((b.length:Int)-1).toNat=b.length-1 by omega]⟩) Z Z ?_
  refine Wj (v:=.int .i64 ((b.getLast?.getD 0:Nat):Int)) af Z Z Z Z Z Z (fun A=>by
   have h:((b.length:Int) == 0)=false:=A.1;have h0:¬ (b.length:Int)=0:=by simpa using h
   refine ⟨Q om_, ?_⟩;have e:=cP eE (J2 (l:=b) om_);show bY _ (((b.map aL).flatten.drop ((b.length-1)*1)).take 1)=_;rw [e];rfl) rfl rfl ?_
  refine Us 2 Z<|US U8<|UM U8<|Ur [5,7,8,10,11,60] c Z<|Uo (fun h60=>?_) fun h60=>?_
  ·have q:cuN o d (i+1)=b++[f.toNat]/\0<=f:=by
    obtain ⟨h1,h2⟩:=SC.1 h60;obtain ⟨h3,h4⟩:=SC.1 h1;have h5:0<=f:=aW h3;have S:(!(t == [48]))=true:=h4;have T:evO o d i=some f.toNat:=by unfold evO gO;rw [N,aJ S,<- O,aJ h5]
    refine ⟨?_,h5⟩;rw [HC T,z,aB];intro e;have U:(((b.length:Int) == 0) || !(((b.getLast?.getD 0:Nat):Int) == f))=true:=h2;rw [e] at U;cases b with
    | nil=>cases e
    | cons a r =>
     have V:¬ (((a::r).length:Int)=0):=by simp;omega
     rw [RI.2 V,Bool.false_or] at U;have:((f.toNat:Nat):Int)=f:=Int.toNat_of_nonneg h5;simp [this] at U
   obtain ⟨q,aH⟩:=q;obtain ⟨x,rfl⟩:∃ x:Nat,f=x:=⟨f.toNat,(Int.toNat_of_nonneg aH).symm⟩;rw [Sv] at q;refine Um 2 Z fun R c=>UI [[.int .i64 (x:Nat)]] U12 fun aZ _ _ aI=>UP (j:=0) U11 aI Z ax (by show (b.length+1)*8<=_;omega) fl_ fun ai ak am=>C4 1 [5,7,8,10] c Z<|Um 1 Z fun R c=>Uw _ U7<|C4 1 [5,7,8,10] c Z<|UE (L':=[.arr (.slice ai ak am) 3 1 (cuN o d (i+1)).length ((cuN o d (i+1)).map aL).flatten]) (by rw [q,Rj,Ri,QM];rfl)<|UA (m':=d.length-(i+1)) om_ mup (hn_ [5,7,8,10] Z) ⟨i+1,ai,ak,am,om_,Z,Z,Z⟩
  have q:cuN o d (i+1)=b:=by
   by_cases h3:0<=f/\(!(t == [48]))=true
   ·have T:evO o d i=some f.toNat:=by unfold evO gO;rw [N,aJ h3.2,<- O,aJ h3.1]
    rw [HC T,z];by_cases e:b.getLast?=some f.toNat
    ·rw [aJ e]
    refine absurd ?_ (Bool.eq_false_iff.1 h60);refine SC.2 ⟨SC.2 ⟨QZ h3.1,h3.2⟩, ?_⟩;show (((b.length:Int) == 0) || !(((b.getLast?.getD 0:Nat):Int) == f))=true;by_cases hz:b.length=0
    ·rw [hz];rfl
    rw [GO om_] at e;have V:¬ ((b.getLast?.getD 0:Nat):Int)=f:=by omega
    rw [RI.2 V];simp
   rw [NR ?_,z];unfold evO gO;rw [N,<- O];split
   ·split
    ·rename_i h5 S;exact absurd ⟨S,h5⟩ h3
    rfl
   rfl
  refine Um 1 Z fun R c=>Uw _ U7<|C4 1 [5,7,8,10] c Z<|UE (L':=[.arr (.slice p b.length y) 3 1 (cuN o d (i+1)).length ((cuN o d (i+1)).map aL).flatten]) (by rw [q])<|UA (m':=d.length-(i+1)) om_ mup (hn_ [5,7,8,10] Z) ⟨i+1,p,b.length,y,om_,Z,Z,Z⟩
 have M:i=d.length:=by
  rcases Tx.1 L with h | h
  ·have:=QJ h;omega
  have:=QJ h;omega
 subst M;exact G.freezeArr 0 ((bR ((List.range d.length).filterMap (evO o d))).map aL) Z Z (jC _) (aw _) fun _ _ aM=>Ul 2 [6] Z<|Ut U2<|⟨Z,aM.mono mup⟩
end Go.Proofs.YthnpijdjlddpmaaGreatDoor
