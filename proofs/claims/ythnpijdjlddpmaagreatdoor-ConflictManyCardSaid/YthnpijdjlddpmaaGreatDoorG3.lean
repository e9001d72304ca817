/- Laws that the proofs of this seat share, part 3. -/
import Derived.Test.YthnpijdjlddpmaaGreatDoorG2
import Derived.Test.YthnpijdjlddpmaaGreatDoorShelf
import Derived.TacticsIn
import Derived.OrdersIn
import Derived.RangeFuncCalls
import Derived.RangeFuncSeq
import Derived.Lib.Bytealg
import Derived.Lib.ItoaMem
import Derived.Shelf.Spec.TrailingZeros
import Derived.Shelf.Strconv.Itoa3
import Derived.Shelf.Strconv.ParseUint10At
import Derived.Shelf.Strconv.Atoi
import Derived.Shelf.Small.Strs
import Derived.Lib.UnsafeStr
import Derived.Lib.AppendStr
import Derived.Shelf.Strconv.Itoa1
import Derived.Shelf.Strconv.Itoa2
import Derived.Laws.Externs
import Derived.Lib.Builder
import Derived.WideLaws
namespace Go.Jog
abbrev BP:Nat:=10000
def K7:List Nat->Nat
 | []=>0
 | x::l=>x+BP*K7 l
/-! ### Decimal texts -/
def eM (c:UInt8):Bool:=decide (48<=c.toNat/\c.toNat<=57)
def yw (a:Nat)(c:UInt8):Nat:=10*a+(c.toNat-48)
def cR (s:List UInt8):Nat:=s.foldl yw 0
def yU (s:List UInt8):Prop:=(∀ c∈s,eM c=true)/\s≠[]/\(s.head?=some 48->s.length=1)
theorem ja:∀ (s:List UInt8)(a:Nat),s.foldl yw a=a*10 ^ s.length+cR s
 | [],a=>by simp [cR]
 | c::s,a=>by
  have h1:=ja s (yw a c);have h2:=ja s (yw 0 c);simp only [cR,M8] at h1 h2 ⊢;rw [h1,h2];simp only [yw,Ml,M7,Nx];simp only [Nat.mul_zero,Nat.zero_mul,M6];rw [ML 10 a,N3,ML 10,OC]
theorem dw (c:UInt8)(s:List UInt8):cR (c::s)=(c.toNat-48)*10 ^ s.length+cR s:=by
 show s.foldl yw (yw 0 c)=_;rw [ja];simp [yw]
theorem dV (a b:List UInt8):cR (a++b)=cR a*10 ^ b.length+cR b:=by
 show (a++b).foldl yw 0=_;rw [List.foldl_append,ja];rfl
theorem dU:∀ {s:List UInt8},(∀ c∈s,eM c=true)->cR s<10 ^ s.length
 | [],_=>by simp [cR]
 | c::s,h=>by
  have h1:=dU (s:=s) (fun d a=>h d (by simp [a]));have h2:=h c (by simp);simp only [eM,LY] at h2;rw [dw,Ml,M7];have h3:(c.toNat-48)*10 ^ s.length<=9*10 ^ s.length:=MG _ om_;omega
theorem mH {s:List UInt8}(h:yU s)(a:1<s.length):10 ^ (s.length-1)<=cR s:=by
 obtain ⟨h1,h2,h3⟩:=h
 match s,h2 with
 | c::s,_ =>
  have h4:=h1 c (by simp);simp only [eM,LY] at h4;have h5:c≠48:=fun e=>by
   have:=h3 (by simp [e]);omega
  have b:c.toNat≠48:=fun e=>h5 (UInt8.toNat_inj.1 (by rw [e];rfl));rw [dw];simp only [Ml,N7];have:1*10 ^ s.length<=(c.toNat-48)*10 ^ s.length:=MG _ om_;omega
theorem wg:∀ {a b:List UInt8},(∀ c∈a,eM c=true)->(∀ c∈b,eM c=true)->a.length=b.length->cR a=cR b->a=b
 | [],[],_,_,_,_=>rfl
 | [],_::_,_,_,h,_=>by simp at h
 | _::_,[],_,_,h,_=>by simp at h
 | c::a,d::b,f,g,k,i=>by
  have j:a.length=b.length:=by simpa using k
  have h1:=dU (s:=a) (fun x e=>f x (by simp [e]));have h2:=dU (s:=b) (fun x e=>g x (by simp [e]));have l:=f c (by simp);have m:=g d (by simp);simp only [eM,LY] at l m;rw [dw,dw,j] at i;rw [j] at h1;have n:c.toNat-48=d.toNat-48:=by
   have o:(cR a+10 ^ b.length*(c.toNat-48)) / 10 ^ b.length=c.toNat-48:=by
    rw [Oh _ _ (N9 dc_),NY h1,M6]
   have p:(cR b+10 ^ b.length*(d.toNat-48)) / 10 ^ b.length=d.toNat-48:=by
    rw [Oh _ _ (N9 dc_),NY h2,M6]
   rw [<- o,<- p,ML,Oe,i,ML (10 ^ b.length),Oe (cR b)]
  rw [n] at i;have q:c=d:=UInt8.toNat_inj.1 om_;rw [q,wg (fun x e=>f x (by simp [e])) (fun x e=>g x (by simp [e])) j om_]
theorem oM {a b:List UInt8}(c:yU a)(d:yU b)(h:cR a=cR b):a=b:=by
 refine wg c.1 d.1 ?_ h;have e:=MD.2 c.2.1;have f:=MD.2 d.2.1;rcases Nat.lt_trichotomy a.length b.length with h1 | h1 | h1
 ·have h2:=mH d om_;have h3:=dU c.1;have h4:10 ^ a.length<=10 ^ (b.length-1):=Mt dc_ om_;omega
 ·exact h1
 ·have h2:=mH c om_;have h3:=dU d.1;have h4:10 ^ b.length<=10 ^ (a.length-1):=Mt dc_ om_;omega
end Go.Jog
namespace Go.Jog
theorem yl {a b:List UInt8}(h:a≠[]):(a++b).head?=a.head?:=by
 cases a with
 | nil=>exact absurd rfl h
 | cons=>rfl
def gP (l:List Nat)(i:Nat):Nat:=l.getD i 0
def uG (s:List UInt8)(lo hi:Nat):List UInt8:=(s.take hi).drop lo
def uc:Nat->Nat->List UInt8
 | 0,_=>[]
 | k+1,n=>uc k (n / 10)++[UInt8.ofNat (48+n % 10)]
theorem su {d:Nat}(h:d<10):(UInt8.ofNat (48+d)).toNat=48+d:=by rw [OY];omega
theorem rN:∀ (k n:Nat),n<10 ^ k->(uc k n).length=k/\(∀ c∈uc k n,eM c=true)/\cR (uc k n)=n
 | 0,n,h=>by
  have:n=0:=by simpa using h
  subst this;exact ⟨Z,by simp [uc],Z⟩
 | k+1,n,h=>by
  obtain ⟨h1,h2,h3⟩:=rN k (n / 10) (by rw [M7] at h;exact (N1 dc_).2 h);have b:=su (MR n (show 0<10 by decide));refine ⟨by simp [uc,h1],fun c a=>?_, ?_⟩
  ·simp only [uc,Mh,Mn] at a;rcases a with a | rfl
   ·exact h2 c a
   ·have:=MR n (show 0<10 by decide);simp only [eM,b,LY];omega
  ·simp only [uc];rw [dV,h3,dw,b];simp [cR];omega
def bP (n:Nat):List UInt8:=if n<10 then [UInt8.ofNat (48+n)] else bP (n / 10)++[UInt8.ofNat (48+n % 10)]
 termination_by n
 decreasing_by omega
theorem bN (n:Nat):yU (bP n)/\cR (bP n)=n:=by
 induction n using Nat.strongRecOn with
 | ind n f =>
  rw [bP];split
  ·rename_i h;have b:=su h;refine ⟨⟨fun c a=>?_,by simp,fun _=>rfl⟩, ?_⟩
   ·rw [Mn.1 a];simp only [eM,b,LY];omega
   ·rw [dw,b];simp [cR]
  ·rename_i h;obtain ⟨⟨h1,h2,h3⟩,h4⟩:=f (n / 10) om_;have b:=su (MR n (show 0<10 by decide));refine ⟨⟨fun c a=>?_,by simp,fun e=>?_⟩, ?_⟩
   ·rcases Mh.1 a with a | a
    ·exact h1 c a
    ·rw [Mn.1 a];have:=MR n (show 0<10 by decide);simp only [eM,b,LY];omega
   ·exfalso;rw [yl h2] at e;have h5:=h3 e
    match hs:bP (n / 10),h2 with
    | [c],_ =>
     rw [hs] at e h4;simp at e;subst e;have:n / 10=0:=by rw [<- h4];rfl
     omega
    | c::d::s,_=>rw [hs] at h5;simp at h5
   ·rw [dV,h4,dw,b];simp [cR];omega
theorem yF {s:List UInt8}(h:yU s):s=bP (cR s):=oM h (bN _).1 (bN _).2.symm
end Go.Jog
namespace Go.Jog
def valI:List Int->Int
 | []=>0
 | x::l=>x+10000*valI l
end Go.Jog
namespace Go.Jog
open Go
section
variable {cx:Cx} {n:Nat} {ds:List (Option Nat)} {R:Rg n ds} {its:List It} {fr:Fr} {C:Mem} {L:List Ent} {i k d:Nat} {o:Oper} {g:GL}
theorem Qe (a:Nat)(m:Nat){b:IntKind}{t c:Nat}{x y:Operand}{p q:Int}(f:Z8 (Nat.ble k 1) true o.dst (some d) o.op (.binOp .shr t x y c) (gOf ds fr o.guard) (some g) (ev fr g x) (some (.int .u64 p)) (ev fr g y) (some (.int b q)) p a q m)(I:m<=63)(j:Z2 (aO n ds ((d,g,.int .u64 ((a / 2 ^ m:Nat):Int))::fr) d) true (wfG ds fr g) true)(h:D cx R its ((d,g,.int .u64 ((a / 2 ^ m:Nat):Int))::fr) C L):D cx R ((i,k,o)::its) fr C L :=
 have ⟨l,r,s,u,v,hy,z,B⟩:=f;have ⟨E,F⟩:=j;D.run _ l r u (fun _ A hs w=>by
  subst z B;rw [cj s (hs _ _ v) (hs _ _ hy) (fun _ _=>.inl (by simp)) (.inl (by simp)) w];have h0:¬ ((m:Int)<0):=by omega
  have G:Min.min m 64=m:=by omega
  have e:(a:Int).fdiv (2 ^ m)=((a / 2 ^ m:Nat):Int):=by
   have H:(2:Int) ^ m=((2 ^ m:Nat):Int):=by norm_cast
   rw [H,Int.fdiv_eq_ediv_of_nonneg _ (Int.natCast_nonneg _)];exact (O4 _ _).symm
  simp only [binOp,Op.shift,h0,MW,NO,IntKind.bits,G,Sem.run_pure,Result.andThen_ok];rw [e]) E F h
end
end Go.Jog
namespace Go.Jog
open Go
example {A B C D E:Mem} (h3:D.le E) (h1:A.le B) (h2:B.le C) (h4:C.le D):A.le E:=by (repeat (first | exact Mem.le.refl _ | assumption | (apply Mem.le.trans;rotate_left;assumption)))
theorem Mem.get {C D:Mem}{b:Nat}{o:Obj}(h:C b=some o)(a:C.le D):D b=some o:=a _ _ h
theorem Gives.ofCalls {P:Program}{f:FuncId}{args:List Value}{v:Value}(a:Enters P f=true)(h:∀ w,Calls P f args.toArray w fun e w'=>e=.returned v/\w'=w)(C:Mem):Gives P f args C v :=
 ⟨a,fun w b=>(h w).mono fun e w' ⟨h1,h2⟩=>by
  subst h2;exact ⟨_,C,[],h1,St.start b,Z,Z⟩⟩
section
variable {cx:Cx} {n:Nat} {ds:List (Option Nat)} {R:Rg n ds} {its:List It} {fr:Fr} {C:Mem} {L:List Ent} {i k d:Nat} {o:Oper} {g:GL} {v:Value}
theorem QS {t B e b f j q s K c r m p sl:Nat}{x y:Operand}{z:Value}{l vs:List Value}{E M:TI}(F:k=3)(hd:o.dst=some d)(hg:gOn ds fr o.guard=true)
  (ab:o.op=.call ⟨.builtin .copy,#[x,y],#[t,B]⟩) (ht:cx.T.get t=some E) (N:E.k=.slice e) (he:cx.T.get e=some M) (ac:M.size=c)
  (hx:ev fr [] x=some (.slice (some ⟨b,f,none⟩) s K)) (hy:ev fr [] y=some z) (hm:L[j]?=some (.arr (.slice (some ⟨b,0,none⟩) m p) e c r l))
  (ad:∀ w,(Builtin.lenOf z).run cx.P w=.ok sl w) (hq:q=min sl s) (A:vs.length=q*c)
  (af:∀ w,Sep C (.arr (.slice (some ⟨b,0,none⟩) m p) e c r l::L.eraseIdx j) w->(Builtin.firstCells c q z).run cx.P w=.ok vs.toArray w)
  (h1:vs.all nT=true) (aq:f+q*c<=l.length) (hp:∀ v,aO n ds ((d,[],v)::fr) d=true)
  (h:D cx R its ((d,[],.int .i64 q)::fr) C (.arr (.slice (some ⟨b,0,none⟩) m p) e c r (aA l vs f)::L.eraseIdx j)):D cx R ((i,k,o)::its) fr C L:=by
 have G:cx.P.underlying t=some (.slice e):=by
  obtain ⟨kk,s1,b1,z1,g1⟩:=E;simp only at N;subst N;exact ck cx.hT ht
 refine PP (S:=fun O C' Q=>O=.int .i64 q/\C'=C/\Q=.arr (.slice (some ⟨b,0,none⟩) m p) e c r (aA l vs f)::L.eraseIdx j) (by subst F;rfl) hd hg hp (fun a hs w _ hw=>?_) (fun O C' Q _ ⟨e0,H,e2⟩=>by subst e0;subst H;subst e2;exact h);have I:=St.perm hw (ae hm);have U:w.ownsRow 0 e c (.slice (some ⟨b,0,none⟩) m p) r l:=I.sep.e _ (aF ..);obtain ⟨rfl,V,ag,g,W,J,X⟩:=cG U;obtain ⟨g⟩:=g;simp only [NG] at J;simp only at X;have ah:l.length=m*c:=U.1;have ai:m*c<=g.length:=by rw [J];exact MG _ V
 have aj:∀ u∈vs,u.oneCell'=true:=fun u G=>iq (Mg.1 h1 u G);have Y:=run_storeCells_at cx.P b f e vs 0 ⟨g⟩ w W (by simp [A];omega) aj;simp only [NF] at Y;have ak:=af w I.sep;have al:=ad w;have aa:=dI cx.hT he w;rw [ac] at aa;have hc:(Builtin.copy_ #[t,B] o.type #[.slice (some ⟨b,f,none⟩) s K,z]).run cx.P w=.ok (.int .i64 q) (w.setRow b (aA g vs f).toArray):=by
  have am:Nat.min sl s=q:=hq.symm;simp only [Builtin.copy_];simp [run_underlying G,al,aa,am,ak,Y,aA,goInt]
 have an:(execOp a.eval o).run cx.P w=.ok (.value (.int .i64 q)) (w.setRow b (aA g vs f).toArray):=by
  have H:execOp a.eval o=(do let dd <- resolve a.eval ⟨.builtin .copy,#[x,y],#[t,B]⟩ o.type;invoke dd.target dd.args:Sem Next):=by unfold execOp;rw [ab]
  rw [H];simp only [resolve,invoke,builtin,Sem.run_bind,Sem.run_pure,Result.andThen_ok,NS,Mp,NQ,hs _ _ hx,hs _ _ hy,hc]
 have ao:(aA g vs f).length=g.length:=gR (by rw [A];omega);have ap:(w.setRow b (aA g vs f).toArray).ownsRow 0 e c (.slice (some ⟨b,0,none⟩) m p) m (aA l vs f) :=
  ⟨by rw [gR (by rw [A];omega)];exact ah,.inr ⟨b,p,_,rfl,LV _,setRow_heap w b _ _ e _ W,V,ag,by simp [ao,J],by
     rw [<- X];exact jq g _ f (m*c) (by rw [A];omega) ai⟩⟩
 unfold Oper.wp;rw [an];exact ⟨.int .i64 q,C,.arr (.slice (some ⟨b,0,none⟩) m p) e c m (aA l vs f)::L.eraseIdx j,Z,Mem.le.refl _,fun h2=>by omega,
  St.turn I ap ⟨rfl,rfl,rfl,by simp,fun k _ F=>setRow_other w b k _ (fun e=>F (by simp [Value.ownBlock,e]))⟩ (LP _) (.inl rfl),rfl,rfl,rfl⟩
theorem Qz {t r e g0 off j q dl dc c m f sl sc:Nat}{x y:Operand}{a:List Value}{g l:TI}(s:Z8 k 3 o.dst (some d) (gOn ds fr o.guard) true o.op (.call ⟨.builtin .copy,#[x,y],#[t,r]⟩) (cx.T.get t) (some g) g.k (.slice e) (cx.T.get e) (some l) l.size 1)(z:ev fr [] x=some (.slice (some ⟨g0,off,none⟩) dl dc))(A:ev fr [] y=some (.slice (some ⟨g0,0,none⟩) sl sc))(B:Z2 (L[j]?) (some (.arr (.slice (some ⟨g0,0,none⟩) m f) e 1 c a)) q (min sl dl))(p:a.all nT=true)(X:off+q<=a.length)(E:∀ v,aO n ds ((d,[],v)::fr) d=true)(h:D cx R its ((d,[],.int .i64 q)::fr) C (.arr (.slice (some ⟨g0,0,none⟩) m f) e 1 c (aA a (a.take q) off)::L.eraseIdx j)):D cx R ((i,k,o)::its) fr C L:=by
 have ⟨F,G,H,I,J,K,M,N⟩:=s;have ⟨hm,O⟩:=B;refine QS (vs:=a.take q) F G H I J K M N z A hm (sl:=sl) (fun w=>by simp [Builtin.lenOf]) O (by rw [Mv];omega) (fun w Q=>?_)
  (by rw [Mg] at p ⊢;exact fun u b=>p u (Nj b)) om_ E h
 have S:w.ownsRow 0 e 1 (.slice (some ⟨g0,0,none⟩) m f) c a:=Q.e _ (aF ..);obtain ⟨rfl,Y,Z,U,V,aa,W⟩:=cG S;refine run_firstCells_some (P:=cx.P) w 1 q ⟨g0,0,none⟩ sl sc (a.take q) (by rw [Mv];omega) (fun jj u b=>?_);rw [<- W,OV,Mz] at b;split at b
 ·rw [Addr.add_lit,cell_of_row w g0 _ U e (0,0) V];simpa using b
 ·cases b
theorem QA {t t2 e l s j q H dc a I m J:Nat}{x y:Operand}{p:Value}{f:List (List Value)}{z:List Value}{K B:TI}(aa:Z12 k 3 o.dst (some d) (gOn ds fr o.guard) true o.op (.call ⟨.builtin .copy,#[x,y],#[t,t2]⟩) (cx.T.get t) (some K) K.k (.slice e) (cx.T.get e) (some B) B.size a (Nat.beq B.size 0) false (ev fr [] x) (some (.slice (some ⟨l,s,none⟩) H dc)) (ev fr [] y) (some p) (L[j]?) (some (.arr (.slice (some ⟨l,0,none⟩) m J) e a I z)))(ab:Sl C a p f)(ac:Z2 q (min f.length H) (f.all (fun r=>r.all nT)) true)(ae:s+q*a<=z.length)(hp:∀ v,aO n ds ((d,[],v)::fr) d=true)(h:D cx R its ((d,[],.int .i64 q)::fr) C (.arr (.slice (some ⟨l,0,none⟩) m J) e a I (aA z (f.take q).flatten s)::L.eraseIdx j)):D cx R ((i,k,o)::its) fr C L:=by
 have ⟨hk,hd,hg,af,ht,ag,he,M,N,hx,hy,hm⟩:=aa;have ⟨O,h1⟩:=ac;obtain ⟨A,c,E,ap,aq,Q,S⟩:=ab;have ah:0<a:=by rw [<- M];exact NK (fun e=>by rw [e] at N;cases N)
 have U:∀ r∈f.take q,r.length=a:=fun r hr=>Q r (Nj hr);have F:=bB U;have G:(f.take q).length=q:=by rw [Mv];omega
 refine QS (vs:=(f.take q).flatten) hk hd hg af ht ag he M hx hy hm (sl:=f.length) (fun w=>by subst E;simp [Builtin.lenOf]) O (by rw [F,G]) (fun w hw=>?_)
  (by
   rw [Mg];intro u g;obtain ⟨r,hr,ai⟩:=List.mem_flatten.1 g;exact Mg.1 (Mg.1 h1 r (Nj hr)) u ai) ae hp h
 cases f with
 | nil =>
  subst E;have ak:q=0:=by rw [O];simp
  subst ak;cases A <;> simp [Builtin.firstCells,loadCells,loadCellsFrom]
 | cons r rs =>
  obtain ⟨ad,hA,ar,_⟩:=S 0 r (by simp);subst hA;rw [E];refine run_firstCells_some (P:=cx.P) w a q ad _ c _ (by rw [F,G]) (fun b u g=>?_);have al:b<q*a:=by rw [<- G,<- F];exact (aX.1 g).1
  have am:b / a<q:=OK (by rw [ML];exact al);have V:b / a<(r::rs).length:=by omega
  have W:(r::rs)[b / a]?=some (r::rs)[b / a]:=aj V;have an:b % a<((r::rs)[b / a]).length:=by rw [Q _ (MP V)];exact MR _ ah
  have X:=aj an;have ao:((r::rs).take q)[b / a]?=some (r::rs)[b / a]:=by rw [Mz,aI am];exact W
  have Y:=getElem?_flatten_rows U ao X;have Z:b / a*a+b % a=b:=by rw [ML];exact Nat.div_add_mod b a
  rw [Z,g] at Y;obtain ⟨au,h3,h4,h5⟩:=S _ _ W;cases h3
  have:=h5 _ _ X;rw [Z] at this;rw [Y];exact this.cell hw
end
end Go.Jog
namespace Go.Jog
open Go
def hAt (l:List Nat)(k:Nat):Nat:=l.getD k 0
end Go.Jog
namespace Go.Jog
open Go
theorem Fn.quiet1 {P:Program}{f:FuncId}{t:List Value}{C:Mem}{x:Ent}{v:Value}(h:Fn P f t C [x] fun u _ z=>u=v/\z=[x]){q:World}{r:Mem}{s:List Ent}{a:Mem × List Ent}{w:World}
  (A:C.le a.1) (D:x∈a.2) (E:cls q r s a w):Calls P f t.toArray w fun e w'=>e=.returned v/\cls q r s a w':=by
 obtain ⟨j,F⟩:=M2 D;have B:=ae F;have m:St q r s a.1 ([x]++a.2.eraseIdx j) w:=St.perm E B;have p:∀ k,nP [x] k->a.1 k=none:=fun k g=>m.sep.n k (by obtain ⟨y,hy,G⟩:=g;exact ⟨y,Na _ hy,G⟩);have h2:Sep a.1 [x] w:=⟨m.sep.c,fun y hy=>m.sep.e y (Na _ hy),List.pairwise_singleton _ _,p⟩;have H:Sep C [x] w:=⟨fun b o i=>h2.c b o (A _ _ i),h2.e,h2.d,fun k g=>by
  cases I:C k with
  | none=>rfl
  | some o=>have:=A _ _ I;rw [p k g] at this;cases this⟩
 refine (h.2 w H).mono fun e w' ⟨u,C',z,J,l,K,L⟩=>?_;subst K;subst L;have M:St w a.1 [x] a.1 [x] w':=⟨⟨fun b o i=>by
   have:=h2.c b o i;rw [l.ev.block b (bW this) (fun g=>by rw [p b g] at i;cases i)];exact this,l.sep.e,l.sep.d,p⟩,l.ev,Mem.le.refl _,fun _ _ g=>.inl g,l.ln⟩
 exact ⟨J,St.perm (St.call (Lp:=[x]) m M) B.symm⟩
section
variable {cx:Cx} {n:Nat} {ds:List (Option Nat)} {R:Rg n ds} {its:List It} {fr:Fr} {C:Mem} {L:List Ent} {i k d:Nat} {o:Oper} {g:GL} {v:Value}
theorem Ro {t e:Nat}{x y:Operand}{b:IntKind}{p q:Int}(c:Int)(f:Nat.ble k 1=true)(j:o.dst=some d)(l:o.op=.binOp .quo t x y e)(m:gOf ds fr o.guard=some g)(r:ev fr g x=some (.int b p))(s:ev fr g y=some (.int b q))
  (E:0<q) (u:p.tdiv q=c) (v:b.wrap c=c) (z:aO n ds ((d,g,.int b c)::fr) d=true) (A:wfG ds fr g=true)
  (h:D cx R its ((d,g,.int b c)::fr) C L):D cx R ((i,k,o)::its) fr C L :=
 D.run _ f j m (fun _ a hs w=>by
  rw [cj l (hs _ _ r) (hs _ _ s) (fun _ _=>.inl (by simp)) (.inl (by simp)) w];have B:q≠0:=by omega
  simp [binOp,Op.intDiv,B,u,v]) z A h
end
section
variable {F:Fx} {k:List KI} {fr:Fr} {C:Mem} {L:List Ent}
theorem RJ {e:Exit}(j m:Nat){t s f b n c:Nat}{d:List Value}(o:L[j]?=some (.arr (.slice (some ⟨b,0,none⟩) n c) t s f d))(g:m<=f)
  (h:G F k e fr C (.arr (.slice (some ⟨b,0,none⟩) m c) t s m (d.take (m*s))::L.eraseIdx j)):G F k e fr C L:=fun h0 a w p q=>by
 refine h h0 a w p ?_;have i:=St.perm q (ae o);have l:w.ownsRow 0 t s (.slice (some ⟨b,0,none⟩) n c) f d:=i.sep.e _ (aF ..);obtain ⟨rfl,r,u,v,x,y,z⟩:=cG l;have D:d.length=n*s:=l.1;have A:m*s<=n*s:=MG _ g;have B:w.ownsRow 0 t s (.slice (some ⟨b,0,none⟩) m c) m (d.take (m*s)) :=
  ⟨by rw [Mv];omega,.inr ⟨b,c,v,rfl,LV _,x,Md g r,u,y,by rw [<- z,OV,NI A]⟩⟩
 exact St.turn i B ⟨Z,Z,Z,LP _,fun _ _ _=>rfl⟩ (LP _) (.inl Z)
theorem RH {e:Exit}(j:Nat){v:Value}{t s m:Nat}{b:List Value}(f:L[j]?=some (.arr v t s (m+1) b))(h:∀ g c,v=.slice (some ⟨g,0,none⟩) (m+1) c->G F k e fr C L):G F k e fr C L:=fun h0 a w i d=>by
 have l:=St.perm d (ae f);have n:w.ownsRow 0 t s v (m+1) b:=l.sep.e _ (aF ..);rcases n.2 with ⟨_,h1⟩ | ⟨g,o,p,h1,_⟩
 ·omega
 ·exact h g o h1 h0 a w i d
end
end Go.Jog
namespace Go.Jog
open Go
variable {P:Program}{a:Act}{i l n:Nat}{o:Oper}{ops:Array Oper}{w:World}
def fF (ops:Array Oper):Bool:=ops.toList.all fun o=>match o.op with
 | .defer _=>false
 | _=>true
theorem pW (h:fF ops=true)(a:ops[i]?=some o):∀ c,o.op≠.defer c:=by
 intro c b;obtain ⟨h1,h2⟩:=NR.1 a;have:=Mg.1 h ops[i] (Array.getElem_mem_toList h1);rw [h2,b] at this;cases this
theorem IE {b:Act->World->Prop}{Q:Exit->Act->World->Prop}(e:∀ c,o.op≠.defer c)(h:o.wp P a w b Q):o.wpIn (Fence.wide.inRound l) n P a w b Q:=by
 refine ⟨fun _ _=>trivial, ?_⟩;show o.uponIn (Fence.wide.inRound l) n P a b Q ((o.semAt (some l) a.eval).run P w);rw [Oper.semAt_some l a.eval o e];unfold Oper.wp at h;revert h;generalize (execOp a.eval o).run P w=r;intro h;cases r with
 | ok x w' =>
  cases x with
  | value v=>exact h
  | skip=>exact h
  | defer d=>exact h
  | enter f args=>exact ⟨(fun h=>(by cases h)),CallsIn.inRound l (callsIn_wide.2 h)⟩
  | row row args =>
   refine ⟨(fun h=>(by cases h)),fun c cs _=>?_⟩;obtain ⟨v,g,h1,h2⟩:=h c cs;exact ⟨v,g,h1,stepsIn_wide.2 h2⟩
  | _=>exact h.elim
 | halt x w' =>
  cases x <;> exact h
theorem Bh {N:Act->World->Prop}{K e:Act->World->Prop}(f:fF ops=true)(b:∀ a w,K a w->e a w)
  (h:wpOp P ops (QN N) i K a w):wpOpIn (Fence.wide.inRound l) n P ops (QN N) i e a w:=by
 unfold wpOp at h;unfold wpOpIn;cases c:ops[i]? with
 | none=>rw [c] at h;exact b _ _ h
 | some o =>
  rw [c] at h;simp only at h ⊢;split
  ·rename_i d;rw [aI d] at h;rcases h with h | ⟨_,g,w',h⟩
   ·exact IE (pW f c) (Oper.wp_mono b h)
   ·exact h.elim
  ·rename_i d;rw [aC d] at h;exact ⟨fun _ _=>trivial,b _ _ h⟩
theorem wZ {P:Program}{c:Array Oper}{N:Act->World->Prop}{l n:Nat}(d:fF c=true):∀ (b:List Nat)(a:Act)(w:World),wpOps P c (QN N) b a w->wpOpsIn (Fence.wide.inRound l) n P c (QN N) b a w
 | [],_,_,h=>h
 | i::b,a,w,h=>by
  rw [wpOps_cons] at h;rw [wpOpsIn_cons];exact Bh d (fun a w=>wZ d b a w) h
theorem xa {P:Program}{b:Array Oper}{N:Act->World->Prop}{l n:Nat}{c:Region.Mode}(d:fF b=true):∀ (f:Nat)(ls:Array Bool)(a:Act)(w:World),wpAny P c b (QN N) f ls a w->wpAnyIn (Fence.wide.inRound l) n P c b (QN N) f ls a w
 | 0,_,_,_,h=>h
 | f+1,_g,_j,_k,h=>⟨h.1,fun i e=>Bh d (fun a w=>xa d f _ a w) (h.2 i e)⟩
end Go.Jog
namespace Go.Jog
open Go
structure RankTo (A:List Arc3)(n:Nat)(pre e:List Nat):Prop where
 len:e.length=n
 sound:∀ v,v<n->∃ u,LM A (hAt e v) u v
 up:∀ a∈A,a.lo∈pre->hAt e a.lo+1<=hAt e a.up
end Go.Jog
namespace Go.Jog
open Go
section
variable {cx:Cx} {n:Nat} {ds:List (Option Nat)} {R:Rg n ds} {its:List It} {fr:Fr} {C:Mem} {L:List Ent} {i k d:Nat} {o:Oper} {g:GL} {v:Value}
theorem D.max {x y:Operand}{e:Array TypeId}{p q:Int}{b f:IntKind}(c:Int)(j:Nat.ble k 1=true)(l:o.dst=some d)(m:o.op=.call ⟨.builtin .max,#[x,y],e⟩)(r:gOf ds fr o.guard=some g)(s:ev fr g x=some (.int b p))(t:ev fr g y=some (.int f q))
  (u:Max.max p q=c) (v:aO n ds ((d,g,.int b c)::fr) d=true) (z:wfG ds fr g=true)
  (h:D cx R its ((d,g,.int b c)::fr) C L):D cx R ((i,k,o)::its) fr C L :=
 D.run _ j l r (fun _ a hs w=>by
  have A:execOp a.eval o=(do let dd <- resolve a.eval ⟨.builtin .max,#[x,y],e⟩ o.type;invoke dd.target dd.args:Sem Next):=by unfold execOp;rw [m]
  rw [A];have hm:(if q > p then q else p)=c:=by rw [<- u];by_cases B:q > p <;> simp [B] <;> omega
  simp [resolve,invoke,builtin,hs _ _ s,hs _ _ t,Builtin.max_,Builtin.max2,hm]) v z h
theorem D.min {x y:Operand}{e:Array TypeId}{p q:Int}{b f:IntKind}(c:Int)(j:Nat.ble k 1=true)(l:o.dst=some d)(m:o.op=.call ⟨.builtin .min,#[x,y],e⟩)(r:gOf ds fr o.guard=some g)(s:ev fr g x=some (.int b p))(t:ev fr g y=some (.int f q))
  (u:Min.min p q=c) (v:aO n ds ((d,g,.int b c)::fr) d=true) (z:wfG ds fr g=true)
  (h:D cx R its ((d,g,.int b c)::fr) C L):D cx R ((i,k,o)::its) fr C L :=
 D.run _ j l r (fun _ a hs w=>by
  have A:execOp a.eval o=(do let dd <- resolve a.eval ⟨.builtin .min,#[x,y],e⟩ o.type;invoke dd.target dd.args:Sem Next):=by unfold execOp;rw [m]
  rw [A];have hm:(if q<p then q else p)=c:=by rw [<- u];by_cases B:q<p <;> simp [B] <;> omega
  simp [resolve,invoke,builtin,hs _ _ s,hs _ _ t,Builtin.min_,Builtin.min2,hm]) v z h
end
end Go.Jog
namespace Go.Jog
open Go
def Cw.round (P:Program)(l n:Nat):Cw P where
 wp:=fun c Q a w=>c.wpIn (Fence.wide.inRound l) n P Q a w
 nd:=fun ops=>fF ops=true
 mono:=fun h q=>wpIn_mono q h
 skip:=wpIn_skip
 ret:=wpIn_ret
 exit:=wpIn_exit
 seq:=wpIn_seq
 block:=wpIn_block
 cond:=wpIn_cond_split
 loop:=wpIn_loop
 region:=fun hd h=>wpIn_mono (wpIn_region (wZ hd _ _ _ h)) (fun e a w q=>by cases e <;> first | exact q | exact q.elim)
 any:=fun hm hd h=>wpIn_mono (wpIn_region_any hm (xa hd _ _ _ _ h)) (fun e a w q=>by cases e <;> first | exact q | exact q.elim)
theorem ve (F:Fx)(b:List Deferred):∀ k,Kq { F with dd:=b } k=Kq F k
 | []=>rfl
 | .code c::k=>by
  funext e a w;cases e <;> simp only [Kq,ve F b k]
 | .blk d::k=>by
  funext e a w;cases e <;> simp only [Kq,ve F b k]
 | .inv I::k=>by
  funext e a w;cases e <;> simp only [Kq,ve F b k]
def K4 (P:Program)(gf:FuncId)(lb:Array Value)(C:Mem)(vss:List (Value × Value)):Prop :=
 ∀ (l:Nat)(J:Nat->World->Prop)(W:World),
  (∀ k W,J k W->∀ b o,C b=some o->W.heap[b]?=some o)->(∀ k W,J k W->J k W.drew) ->
  (∀ k v W1,J k W1->vss[k]?=some v->YieldAt Fence.wide 1 P l #[v.1,v.2] W1 fun e W'=>e=.returned (.bool true)/\J (k+1) W') ->
  J 0 W->CallsIn Fence.wide 2 P gf (#[.func (.yield l) #[] #[]]++lb) W fun e W'=>(∃ v,e=.returned v)/\J vss.length W'
section
variable {F:Fx} {k:List KI} {fr:Fr} {C:Mem} {L:List Ent}
theorem St.putObj {a:World}{c:Mem}{d:List Ent}{C:Mem}{L:List Ent}{w:World}{b:Nat}{o o':Obj}(h:St a c d C (.obj b o::L) w):St a c d C (.obj b o'::L) (w.putObj b o'):=by
 have f:w.heap[b]?=some o:=h.sep.e _ (aF ..);exact St.put h (World.putObj_heap_same (NR.1 f).1) (fun k g=>World.putObj_heap_other g) (World.putObj_size) Z Z Z (LP _)
theorem Qi {d:Cx}{g:Func}{n l:Nat}{b:Bs}{i:Value->Mem->List Ent->Prop}{f:Exit->Act->World->Prop}{c:Code}(h:G ⟨d,g,n,b,i,Cw.round d.P l 1,[],f⟩ (gU 64 [.code c]) .normal fr C L)
  (j:b.C0.le C) {a:Act} {w:World} (k:FrOk n [] [] fr a) (m:b.cls (C,L) w):c.wpIn (Fence.wide.inRound l) 1 d.P f a w:=by
 have:=PL 64 h j a w k m;simp only [Kq] at this;exact wpIn_mono this (fun e a w q=>by cases e <;> exact q)
theorem G.rangeFunc {g:Operand}{p0 p1:Nat}{assign body:Code}{gf:FuncId}{lb:Array Value}{vss:List (Value × Value)}(hW:F.W=Cw.plain F.cx.P)(hd0:F.dd=[])
  (hg:ev fr [] g=some (.func (.func gf) #[] lb)) (hen:Enters F.cx.P gf=true) (hseq:K4 F.cx.P gf lb C vss) (I:Nat->List Ent->Prop) (h0:I 0 L) (_hp:fr.all (fun x=>x.2.1.isEmpty)=true)
  (hok:∀ u v,(aO F.n [] ((p0,[],u)::fr) p0 && aO F.n [] ((p1,[],v)::(p0,[],u)::fr) p1)=true) (frb:Value->Value->Fr)
  (hassign:∀ l u v W1 L',G ⟨F.cx,F.fn,F.n,⟨W1,C,L'⟩,F.post,Cw.round F.cx.P l 1,[],fun e a w'=>e=.normal/\FrOk F.n [] [] (frb u v) a/\St W1 C L' C L' w'⟩ (gU 64 [.code assign]) .normal ((p1,[],v)::(p0,[],u)::fr) C L')
  (hbody:∀ l j u v L' W1,I j L'->vss[j]?=some (u,v) ->
   G ⟨F.cx,F.fn,F.n,⟨W1,C,L'⟩,F.post,Cw.round F.cx.P l 1,[],fun e _ w'=>e=.normal/\∃ L1,I (j+1) L1/\St W1 C L' C L1 w'⟩ (gU 64 [.code body]) .normal (frb u v) C L')
  (hdone:∀ D L',I vss.length L'->G { F with dd:=[{ target:=.collected D,args:=#[] }] } (gU 64 k) .normal fr C (.obj D (.deferred (some []))::L')) :
  G F (.code (.rangeFunc g #[p0,p1] assign body)::k) .normal fr C L:=fun hle a w ha hw=>by
 simp only [Kq,hW];show (Code.rangeFunc g #[p0,p1] assign body).wp F.cx.P (Kq F k) a w;refine (wpIn_wide (n:=3)).1 (wpIn_rangeFunc fun fn _=>?_);have hga:a.eval g=.func (.func gf) #[] lb:=bC ha (fun p hp=>by cases hp) hg;have hdef:a.defers=[]:=ha.defers.trans hd0;obtain ⟨rec,hrec⟩:∃ rec:LoopState->Loop,rec=fun st=>{ state:=st,pending:=none,fn,tmps:=a.tmps,params:=#[p0,p1],assign,body,defers:=w.heap.size }:=⟨_,rfl⟩;obtain ⟨W1,hW1⟩:∃ W1,(w.alloc (.deferred (some []))).alloc (.loop (rec .ready))=W1:=⟨_,rfl⟩;have hS1:St F.b.w0 F.b.C0 F.b.L0 C (.obj (w.heap.size+1) (.loop (rec .ready))::.obj w.heap.size (.deferred (some []))::L) W1:=by
  have:=St.alloc (St.alloc hw (.deferred (some []))) (.loop (rec .ready));rw [World.size_alloc] at this;rw [<- hW1];exact this
 refine ⟨w.heap.size+1,[{ target:=.collected w.heap.size,args:=#[] }],W1,{ target:=.fn (.func gf) lb,args:=#[.func (.yield (w.heap.size+1)) #[] #[]] },W1,gf,
  #[.func (.yield (w.heap.size+1)) #[] #[]]++lb,W1, ?_, ?_,fun _ _=>trivial, ?_,fun _=>by decide, ?_⟩
 ·rw [<- hW1,hrec];exact run_enterLoop_outer _ _ _ _ _
 ·simp only [resolve,hga];simp [go_sem]
 ·simp [invoke,go_sem,eo hen]
 ·refine (hseq (w.heap.size+1) (fun j W=>∃ L',I j L'/\St F.b.w0 F.b.C0 F.b.L0 C (.obj (w.heap.size+1) (.loop (rec .ready))::.obj w.heap.size (.deferred (some []))::L') W) W1
   (fun j W ⟨L',_,hs⟩=>hs.sep.c) (fun j W ⟨L',hi,hs⟩=>⟨L',hi,hs.drew⟩) ?_ ⟨L,h0,hS1⟩).mono ?_
  ·rintro j ⟨u,v⟩ W ⟨L',hi,hs⟩ hj;have hl:W.heap[w.heap.size+1]?=some (.loop (rec .ready)):=hs.sep.e _ (aF ..);have hy:=run_yield (P:=F.cx.P) (args:=#[u,v]) hl (by rw [hrec];rfl);rw [hrec] at hy;have hz:(#[p0,p1].zip #[u,v]).foldl (fun tmps (x:Nat × Value)=>match x with | (t,a)=>tmps.setIfInBounds t a) a.tmps=(a.tmps.setIfInBounds p0 u).setIfInBounds p1 v:=by simp
   dsimp only at hy;rw [hz] at hy;refine ⟨fn,_,assign,body,hy,roundIn_of_wpIn trivial ?_⟩;have hfr:FrOk F.n [] [] ((p1,[],v)::(p0,[],u)::fr) { tmps:=(a.tmps.setIfInBounds p0 u).setIfInBounds p1 v,defers:=[] }:=by
    have hk:=hok u v;rw [L3] at hk;have h1:=FrOk.put (u:=u) (FrOk.mk (dd:=[]) ha.size hdef ha.ent:FrOk F.n [] [] fr a) hk.1 ⟨fun _=>rfl,fun hn=>absurd (fun p hp=>by cases hp) hn⟩;have h2:=FrOk.put (u:=v) h1 hk.2 ⟨fun _=>rfl,fun hn=>absurd (fun p hp=>by cases hp) hn⟩;exact ⟨h2.size,Z,h2.ent⟩
   have hA:=Qi (hassign (w.heap.size+1) u v W _) (Mem.le.refl _) hfr (St.start hs.sep);refine wpIn_mono hA (fun e a1 W2 q=>?_);obtain ⟨rfl,hfr1,hs1⟩:=q;have hs2:=St.call (Lr:=[]) (by rw [Mi];exact hs) hs1;rw [Mi] at hs2;have hl2:W2.heap[w.heap.size+1]?=some (.loop (rec .ready)):=hs2.sep.e _ (aF ..);refine ⟨_,run_beginRound hl2 (by rw [hrec]), ?_⟩;have hs3:St F.b.w0 F.b.C0 F.b.L0 C (.obj (w.heap.size+1) (.loop (rec .busy))::.obj w.heap.size (.deferred (some []))::L') (W2.putObj (w.heap.size+1) (.loop { rec .ready with state:=.busy })):=by
    have:=St.putObj (o':=.loop { rec .ready with state:=.busy }) hs2;rw [hrec] at this ⊢;exact this
   have hB:=Qi (hbody (w.heap.size+1) j u v L' (W2.putObj (w.heap.size+1) (.loop { rec .ready with state:=.busy })) hi hj) (Mem.le.refl _) hfr1 (St.start hs3.drop.drop.sep);refine wpIn_mono hB (fun e a2 W4 q=>?_);obtain ⟨rfl,L1,hi1,hs4⟩:=q;have hs5:=St.call (Lp:=L') (Lr:=[.obj (w.heap.size+1) (.loop (rec .busy)),.obj w.heap.size (.deferred (some []))]) (St.perm hs3 (Mm (l₁:=[_,_]))) hs4;have hs6:St F.b.w0 F.b.C0 F.b.L0 C (.obj (w.heap.size+1) (.loop (rec .busy))::.obj w.heap.size (.deferred (some []))::L1) W4:=St.perm hs5 (Mm (l₂:=[_,_]));have hl4:W4.heap[w.heap.size+1]?=some (.loop (rec .busy)):=hs6.sep.e _ (aF ..);refine ⟨_,_,run_endRound none hl4,Z,L1,hi1, ?_⟩;have:=St.putObj (o':=.loop { rec .busy with state:=if (none:Option Code).isNone then .ready else .done,pending:=none }) hs6;rw [hrec] at this ⊢;exact this
  ·rintro e W2 ⟨⟨v,rfl⟩,L',hi,hs⟩;have hl:W2.heap[w.heap.size+1]?=some (.loop (rec .ready)):=hs.sep.e _ (aF ..);refine ⟨none,_,by have:=run_endLoop (P:=F.cx.P) hl (by rw [hrec];simp);rw [hrec] at this;exact this, ?_⟩;have hs2:St F.b.w0 F.b.C0 F.b.L0 C (.obj w.heap.size (.deferred (some []))::L') (W2.putObj (w.heap.size+1) (.loop { rec .ready with state:=.exhausted })):=(St.putObj hs).drop;have:=PL 64 (hdone w.heap.size L' hi) hle { a with defers:=[{ target:=.collected w.heap.size,args:=#[] }]++a.defers } _ ⟨ha.size,by rw [hdef];rfl,ha.ent⟩ hs2;rw [ve] at this;rw [hrec] at this;exact this
theorem QD {c:Cx}{g:Func}{n:Nat}{d:World}{C i:Mem}{f a b:List Ent}{j:Value->Mem->List Ent->Prop}{W:Cw c.P}{R:List Ent->Prop}(k:a.Perm b)(h:R b) :
  G ⟨c,g,n,⟨d,C,f⟩,j,W,[],fun e _ w'=>e=.normal/\∃ a,R a/\St d C f C a w'⟩ [] .normal fr i a:=fun l _ _ _ m =>
 ⟨rfl,b,h,St.less (St.perm m k) (Mem.le.refl _) l⟩
theorem QZ {c:Cx}{g:Func}{n:Nat}{d:World}{C h:Mem}{b:List Ent}{i:Value->Mem->List Ent->Prop}{W:Cw c.P}{f:Fr}(j:Has fr f) :
  G ⟨c,g,n,⟨d,C,b⟩,i,W,[],fun e a w'=>e=.normal/\FrOk n [] [] f a/\St d C b C b w'⟩ [] .normal fr h b:=fun k _ _ l m =>
 ⟨rfl,l.weaken j.sub,St.less m (Mem.le.refl _) k⟩
theorem Qf {b:Cx}{f:FuncId}{d:Func}{c:Code}{i:List Value}{C:Mem}{L:List Ent}{j:Value->Mem->List Ent->Prop}(m:Enters b.P f=true)(o:b.P.funcs[f]?=some d)(r:d.body=some c)
  (n:Nat) (t:d.ntmps=n) (k:Nat.ble i.length n=true)
  (h:∀ w0,G ⟨b,d,n,⟨w0,C,L⟩,j,Cw.plain b.P,[],bodyPostM Fence.wide 3 b.P d (lV ⟨w0,C,L⟩ j)⟩ (gU 64 [.code c]) .normal (uY i 0) C L):Fn b.P f i C L j:=by
 subst t;refine ⟨m,fun w u=>callsIn_wide.1 (callsIn_of_wp_marks (n:=3) o r trivial ?_)⟩;rw [Nn] at k;have:=PL 64 (h w) (Mem.le.refl _) { tmps:=i.toArray++Array.replicate (d.ntmps-i.toArray.size) undef,defers:=[] } w
  ⟨by simp;omega,rfl,fun s g v x=>by
   obtain ⟨rfl,_,l⟩:=oQ x;refine ⟨fun _=>?_,fun k=>absurd (fun p y=>by cases y) k⟩;simp only [Od] at l;have z:=(aX.1 l).1;simp only [Array.getElem?_append,NG,z,Ny,MQ];exact l⟩ (St.start u)
 simp only [Kq] at this;refine wpIn_wide.2 (Code.wp_mono (fun e a w q=>?_) this);cases e <;> exact q
theorem Gt {d:Cx}{f:Func}{n:Nat}{b:Bs}{g:Value->Mem->List Ent->Prop}:(⟨d,f,n,b,g,Cw.plain d.P,[],bodyPostM Fence.wide 3 d.P f (lV b g)⟩:Fx).ends:=by
 refine ⟨fun e a w h=>?_,Z⟩;cases e with
 | normal=>obtain ⟨h1,h2⟩:=h;show LeavesInM _ _ _ _ _ _ a.defers _ _;rw [h1];exact h2
 | ret=>obtain ⟨h1,h2⟩:=h;show LeavesInM _ _ _ _ _ _ a.defers _ _;rw [h1];exact h2
 | panic c=>obtain ⟨h1,h2⟩:=h;show LeavesInM _ _ _ _ _ _ a.defers _ _;rw [h1];exact h2
 | outgrown=>exact h
 | exit i=>exact h
 | goto l=>exact h
theorem QX {c:Cx}{d:Func}{n D:Nat}{b:Bs}{f:Value->Mem->List Ent->Prop}{v:Value}
  (j:∀ a w,FrOk n [] [{ target:=.collected D,args:=#[] }] fr a->St b.w0 b.C0 b.L0 C L w->(results d a.tmps).run c.P w=.ok v w) (h:f v C []) :
  G ⟨c,d,n,b,f,Cw.plain c.P,[{ target:=.collected D,args:=#[] }],bodyPostM Fence.wide 3 c.P d (lV b f)⟩ [] .ret fr C (.obj D (.deferred (some []))::L):=fun l a w g i=>by
 show LeavesInM _ _ _ _ _ _ a.defers _ _;rw [g.defers];have k:w.heap[D]?=some (.deferred (some [])):=i.sep.e _ (aF ..);have hs:=(St.putObj (o':=.deferred none) i).drop;exact ⟨by simp,.inl ⟨D,_,Z,run_takeDeferred k,v,j a _ g hs,v,C,[],Z,St.dropAll hs,h⟩⟩
theorem P8 {v:Value}(f:∀ a w,FrOk F.n [] F.dd fr a->St F.b.w0 F.b.C0 F.b.L0 C L w->(results F.fn a.tmps).run F.cx.P w=.ok v w)(h:F.post v C [])(c:F.ends):G F [] .ret fr C L:=fun _ a w d e =>
 c.kq (bodyPost_ret (v:=v) (f a w d e) (d.defers.trans c.2) ⟨v,C,[],rfl,St.dropAll e,h⟩)
end
end Go.Jog
namespace Go.Jog
open Go
structure RankS (A:List Arc3)(n:Nat)(S:Arc3->Prop)(e:List Nat):Prop where
 len:e.length=n
 sound:∀ v,v<n->∃ u,LM A (hAt e v) u v
 up:∀ a∈A,S a->hAt e a.lo+1<=hAt e a.up
end Go.Jog
namespace Go.Jog
open Go
def chG (ds:List (Option Nat))(fr:Fr):GL->Bool
 | []=>true
 | (j,_)::r=>(match ((ds[j]?).bind id).bind fr.get with
  | some (g',.bool _)=>g' == r
  | _=>false) && chG ds fr r
theorem yM {n:Nat}{c:List (Option Nat)}{f:Fr}{a:Act}{q:List Deferred}(h:FrOk n c q f a):∀ {g:GL},chG c f g=true->GT c f g->GH c a.tmps g
 | [],_,_=>fun p e=>by cases e
 | (j,w)::r,i,l=>by
  simp only [chG,L3] at i;have m:=yM h i.2 l.2;have h1:=l.1;have h2:=i.1;cases k:(c[j]?).bind id with
  | none=>rw [k] at h2;simp at h2
  | some d =>
   rw [k] at h1 h2;simp only [Option.bind_some] at h1 h2;split at h2
   ·rename_i s b o;rw [o] at h1;simp only at h1;simp only [Nh] at h2;subst h2;subst h1;intro p e;rcases Ma.1 e with rfl | e
    ·unfold yld;rw [k];have:=(h.ent d s (.bool b) o).1 m;simp [this]
    ·exact m p e
   ·cases h2
end Go.Jog
namespace Go.Jog
open Go
section
variable {cx:Cx} {n:Nat} {ds:List (Option Nat)} {R:Rg n ds} {its:List It} {fr:Fr} {C:Mem} {L:List Ent} {i k d:Nat} {o:Oper} {g:GL}
theorem Rw {f:Nat->Value}{ob:Obj}(r:Nat.ble k 1=false)(s:o.dst=some d)(E:gOf ds fr o.guard=some g)(t:∀ b,aO n ds ((d,g,f b)::fr) d=true)(F:wfG ds fr g=true)(G:chG ds fr g=true)
  (H:GT ds fr g->∀ a,EK (ev fr g) a->∀ w,(execOp a.eval o).run cx.P w=.ok (.value (f w.heap.size)) (w.alloc ob))
  (h:∀ b C',C.le C'->(GT ds fr g->C' b=some ob)->D cx R its ((d,g,f b)::fr) C' L):D cx R ((i,k,o)::its) fr C L:=by
 intro u l a j;obtain ⟨y,m⟩:=l (i,k,o) (by simp);simp only at y m;have I:¬ k<=1:=fun z=>by rw [<- Nn] at z;rw [z] at r;cases r
 simp only [Mp,DU];unfold fo;simp only [m,y,I,MW];intro w A;unfold wpOp;simp only [m];have B:=iI R.hy j E;by_cases e:GH ds a.tmps g
 ·have p:=Ju j e (xf F);have J:Region.wanted o (yielded R.ops a.tmps)=true:=B.2 e;simp only [J,Ny];refine .inl ?_;unfold Oper.wp;rw [H p a (fun x v c=>bC j e c) w];have h1:=St.alloc A ob;have h2:=h1.freeze;refine ⟨(C.set w.heap.size ob,L),fun _=>⟨h2.1,fun _ c=>c⟩,h2.2, ?_⟩;rw [s];exact h w.heap.size _ h2.1 (fun _=>Mem.set_self _ _ _) (u.trans h2.1) (fun x c=>l x (by simp [c])) _ (j.put (t _) ⟨fun _=>rfl,fun q=>absurd e q⟩)
 ·have K:Region.wanted o (yielded R.ops a.tmps)=false:=by
   cases c:Region.wanted o (yielded R.ops a.tmps) with
   | false=>rfl
   | true=>exact absurd (B.1 c) e
  simp only [K,MC,MW];refine ⟨(C,L),fun _=>kle.refl _,A, ?_⟩;rw [s];exact h 0 C (Mem.le.refl _) (fun p=>absurd (yM j G p) e) u (fun x c=>l x (by simp [c])) _ (j.put (t 0) ⟨fun q=>absurd q e,fun _=>rfl⟩)
theorem Qj {t e m:Nat}{p:Array (Nat × Operand)}{s l:TI}(c:List (List Value))(B:Z12 (Nat.ble k 1) false o.dst (some d) (gOf ds fr o.guard) (some g) o.op (.buildSlice t m p) (cx.T.get t) (some s) s.k (.slice e) (cx.T.get e) (some l) (rowsO (ev fr g) p.toList 0) (some c) (c.all fun r=>Nat.beq r.length l.size) true (Nat.beq p.toList.length m) true (Nat.ble (m*l.size) 16777216) true (Nat.beq l.size 0) false)(E:∀ b,aO n ds ((d,g,.slice (some ⟨b,0,none⟩) c.length c.length)::fr) d=true)(F:Z2 (wfG ds fr g) true (chG ds fr g) true)(h:∀ b C',C.le C'->(GT ds fr g->Sl C' l.size (.slice (some ⟨b,0,none⟩) c.length c.length) c)->D cx R its ((d,g,.slice (some ⟨b,0,none⟩) c.length c.length)::fr) C' L):D cx R ((i,k,o)::its) fr C L:=by
 have ⟨G,H,I,J,K,M,N,u,O,P,y,z⟩:=B;have ⟨Q,S⟩:=F;have q:∀ r∈c,r.length=l.size:=fun r hr=>Mj (Mg.1 O r hr);have A:=Mj P;rw [Nn] at y;have U:=(cT u q).2;refine Rw (f:=fun b=>.slice (some ⟨b,0,none⟩) c.length c.length) (ob:=.cells ⟨c.flatten⟩ e) G H I E Q S (fun _ a hs w=>?_) (fun b C' V W=>?_)
 ·have X:execOp a.eval o=(do Pure.pure (.value (<- Instr.buildSlice t m (p.map fun (i,x)=>(i,a.eval x)))):Sem Next):=by unfold execOp;rw [J]
  rw [X];have Y:(p.map fun (i,x)=>(i,a.eval x))=(p.toList.map fun (i,x)=>(i,a.eval x)).toArray:=by apply Ni;simp
  rw [Y];simp only [Sem.run_bind,dZ cx.hT K M N (fun x v Z=>hs x v Z) u q A y w,Result.andThen_ok,Sem.run_pure]
 ·refine h _ C' V (fun hG=>Sl.ofBlock (W hG) q (fun j v hj=>by simpa using hj) (LP _) ?_);rw [U,A];have h0:0<l.size:=NK (fun e=>by rw [e] at z;cases z);have:m<=m*l.size:=NN _ h0;simp only [maxLen];omega
end
end Go.Jog
namespace Go.Jog
open Go
variable {c:UInt8}{s:List UInt8}
def jb (c:UInt8):List UInt8->List UInt8 × Option (List UInt8)
 | []=>([],none)
 | b::s=>if b=c then ([],some s) else (b::(jb c s).1,(jb c s).2)
theorem fV (c:UInt8):∀ s:List UInt8,(jb c s=(s,none)/\Lib.indexByte s c=-1/\c ∉ s)∨∃ a post,jb c s=(a,some post)/\s=a++c::post/\c ∉ a/\Lib.indexByte s c=a.length
 | []=>.inl ⟨rfl,rfl,by simp⟩
 | b::s=>by
  by_cases d:b=c
  ·subst d;exact .inr ⟨[],s,by simp [jb],Z,by simp,by simp [Lib.indexByte]⟩
  ·rcases fV c s with ⟨h1,h2,h3⟩ | ⟨a,post,h1,h2,h3,h4⟩
   ·refine .inl ⟨by simp [jb,d,h1],by simp [Lib.indexByte,d,h2],by simp [Ne.symm d,h3]⟩
   ·refine .inr ⟨b::a,post,by simp [jb,d,h1],by simp [h2],by simp [Ne.symm d,h3], ?_⟩;have h5:¬ (a.length:Int)=-1:=by omega
    simp [Lib.indexByte,d,h4,h5]
theorem GB (h:0<=Lib.indexByte s c):∃ a post,jb c s=(a,some post)/\s=a++c::post/\Lib.indexByte s c=a.length:=by
 rcases fV c s with ⟨_,h2,_⟩ | ⟨a,post,h1,h2,_,h4⟩
 ·omega
 ·exact ⟨a,post,h1,h2,h4⟩
theorem D8 (h:¬ 0<=Lib.indexByte s c):jb c s=(s,none):=by
 rcases fV c s with ⟨h1,_⟩ | ⟨a,post,h1,h2,_,h4⟩
 ·exact h1
 ·omega
def okD (s:List UInt8):Bool:=!(s == []) && decide (s.length<=200) && !(s.head? == some 48 && decide (1<s.length)) && s.all eM
theorem vI :okD s=true ↔ yU s/\s.length<=200:=by
 unfold okD yU;simp only [L3,NU,M5,ne_eq,LY,Mg,Bool.and_eq_false_imp,Nh,Mf];constructor
 ·rintro ⟨⟨⟨h1,h2⟩,h3⟩,h4⟩;refine ⟨⟨h4,h1,fun h=>?_⟩,h2⟩;have:=h3 h;have:0<s.length:=MD.2 h1;omega
 ·rintro ⟨⟨h4,h1,h3⟩,h2⟩;exact ⟨⟨⟨h1,h2⟩,fun h=>by have:=h3 h;omega⟩,h4⟩
theorem Je {i:Nat}(h:s[i]?=some c):cR (s.take (i+1))=cR (s.take i)*10+(c.toNat-48):=by
 rw [Mx,h,Nv,dV];congr 1;unfold cR yw;simp
def cK (c:UInt8)(s:List UInt8):List UInt8 × Bool:=if s.head?=some c then (s.tail,true) else (s,false)
end Go.Jog
namespace Go.Jog
open Go
theorem dL (n:Nat):Lib.decDigits n=bP n:=by
 induction n using Nat.strongRecOn with
 | ind n a =>
  rw [Lib.decDigits,bP];split
  ·rfl
  ·rw [a (n / 10) om_]
def txt (z:Int):List UInt8:=if z<0 then 45::bP z.natAbs else bP z.natAbs
theorem Gf (z:Int):Lib.itoa z=txt z:=by
 unfold Lib.itoa txt;split
 ·rw [dL]
 ·rename_i h;rw [dL];congr 1;omega
end Go.Jog
namespace Go.Jog
variable {a b:List Nat}{c e i:Nat}{l:List Nat}{lo o:Nat}{out:List Nat}{s:List UInt8}{x y:Nat}
abbrev B9:Nat:=1000000000
def bj:List Nat->Nat
 | []=>0
 | x::l=>x+B9*bj l
def Dig9 (l:List Nat):Prop:=∀ x∈l,x<B9
def vn (l:List Nat):Prop:=Dig9 l/\l.getLast?≠some 0
theorem eQ:∀ (a b:List Nat),bj (a++b)=bj a+B9 ^ a.length*bj b
 | [],b=>by simp [bj]
 | x::a,b=>by
  simp only [ND,bj,eQ a b,Ml,M7];rw [Nk,<- N3,ML (B9 ^ a.length) B9,OC]
theorem ic (a:List Nat)(x:Nat):bj (a++[x])=bj a+B9 ^ a.length*x:=by
 rw [eQ];simp [bj]
theorem ie:∀ {l:List Nat},Dig9 l->bj l<B9 ^ l.length
 | [],_=>by simp [bj]
 | x::l,h=>by
  have h1:=h x (by simp);have h2:=ie (l:=l) (fun y hy=>h y (by simp [hy]));simp only [bj,Ml,M7];have h3:B9*(bj l+1)<=B9*B9 ^ l.length:=NH _ h2;rw [ML (B9 ^ l.length) B9];rw [Nk] at h3;omega
theorem ib (h:l[i]?=some x):bj (l.take (i+1))=bj (l.take i)+B9 ^ i*x:=by
 have a:=(aX.1 h).1;rw [Mx,h];simp only [Nv];rw [ic,Mv,NI om_]
theorem Dig9.take {l:List Nat}(h:Dig9 l)(i:Nat):Dig9 (l.take i):=fun x a=>h x (Nj a)
theorem Dig9.snoc (h:Dig9 l)(a:x<B9):Dig9 (l++[x]):=fun y hy=>by
 rcases Mh.1 hy with hy | hy
 ·exact h y hy
 ·rw [Mn.1 hy];exact a
theorem pA:∀ {l:List Nat},(∀ x∈l,x=0)->bj l=0
 | [],_=>rfl
 | x::l,h=>by
  rw [bj,h x (by simp),pA (fun y hy=>h y (by simp [hy]))];rfl
def lq (l:List Nat):Nat->Nat
 | 0=>0
 | k+1=>if l[k]?=some 0 then lq l k else k+1
def AZ (l:List Nat):List Nat:=l.take (lq l l.length)
theorem lm (l:List Nat):∀ k,k<=l.length->(l.take (lq l k)).getLast?≠some 0/\bj (l.take (lq l k))=bj (l.take k)
 | 0,_=>by simp [lq]
 | k+1,b=>by
  rw [lq];obtain ⟨x,a⟩:∃ x,l[k]?=some x:=⟨l[k],aj om_⟩;split
  ·rename_i h;obtain ⟨h1,h2⟩:=lm l k om_;refine ⟨h1, ?_⟩;rw [h2,ib h];simp
  ·rename_i h;refine ⟨?_,Z⟩;rw [Mx,a];simp only [Nv,List.getLast?_append,List.getLast?_singleton];intro e;rw [a] at h;simp at e;exact h (by rw [e])
theorem gG (l:List Nat):bj (AZ l)=bj l:=by
 have:=(lm l l.length (LP _)).2;rw [Mb] at this;exact this
theorem gH (h:Dig9 l):vn (AZ l):=⟨h.take _,(lm l l.length (LP _)).1⟩
theorem sL (h:vn l)(b:0<l.length):B9 ^ (l.length-1)<=bj l:=by
 obtain ⟨x,a⟩:∃ x,l[l.length-1]?=some x:=⟨l[l.length-1]'om_,aj om_⟩;have h1:=ib a;rw [show l.length-1+1=l.length by omega,Mb] at h1;have c:x≠0:=fun e=>h.2 (by rw [Oq,a,e]);rw [h1];have:B9 ^ (l.length-1)*1<=B9 ^ (l.length-1)*x:=NH _ om_;omega
theorem yG (h:vn l):bj l=0 ↔ l=[]:=by
 constructor
 ·intro e;apply Mu;intro a;have:=sL h (MD.2 a);rw [e] at this;have b:0<B9 ^ (l.length-1):=N9 dc_;omega
 ·rintro rfl;rfl
theorem sb (c:Dig9 a)(d:vn b)(h:a.length<b.length):bj a<bj b:=by
 have h1:=ie c;have h2:=sL d om_;have h3:B9 ^ a.length<=B9 ^ (b.length-1):=Mt dc_ om_;omega
theorem HM (e:Dig9 a)(l:a.length=b.length)(c:a[i]?=some x)(d:b[i]?=some y)(f:x<y)(g:a.drop (i+1)=b.drop (i+1)):bj a<bj b:=by
 have h:bj a=bj (a.take (i+1))+B9 ^ (i+1)*bj (a.drop (i+1)):=by
  have j:=(aX.1 c).1
  conv=>lhs;rw [<- M4 (i+1) a]
  rw [eQ,Mv,NI om_]
 have k:bj b=bj (b.take (i+1))+B9 ^ (i+1)*bj (b.drop (i+1)):=by
  have j:=(aX.1 d).1
  conv=>lhs;rw [<- M4 (i+1) b]
  rw [eQ,Mv,NI om_]
 rw [h,k,g,ib c,ib d];have h1:=ie (e.take i);have h2:(a.take i).length<=i:=by rw [Mv];omega
 have h3:B9 ^ (a.take i).length<=B9 ^ i:=Mt dc_ h2;have h4:B9 ^ i*(x+1)<=B9 ^ i*y:=NH _ f;rw [Nk] at h4;omega
def g9 (l:List Nat)(i:Nat):Nat:=l.getD i 0
theorem jG (h:Dig9 l)(i:Nat):g9 l i<B9:=by
 unfold g9;rw [ak];cases a:l[i]? with
 | none=>decide
 | some x=>exact h x (LQ a)
theorem vU (h:l[i]?=some x):g9 l i=x:=by unfold g9;rw [ak,h];rfl
theorem Hl (j:Nat):10 ^ (9*j)=B9 ^ j:=by rw [Nat.pow_mul]
theorem yY {j:Nat}(c:e+9*j=s.length)(a:out.length=j)(d:lo<=e)(h:bj out=cR (s.drop e)) :
  bj (out++[cR (uG s lo e)])=cR (s.drop lo):=by
 rw [ic,a,h];have b:s.drop lo=uG s lo e++s.drop e:=by
  unfold uG;have:s.drop lo=(s.take e++s.drop e).drop lo:=by rw [M4]
  rw [this,List.drop_append_of_le_length (by rw [Mv];omega)]
 rw [b,dV,Oi,show s.length-e=9*j by omega,Hl,ML,Oe]
theorem Gz (a:∀ c∈s,eM c=true)(h:e<=lo+9):cR (uG s lo e)<B9:=by
 have h1:∀ c∈uG s lo e,eM c=true:=fun c b=>a c (Nj (OM b));have h2:=dU h1;have h3:(uG s lo e).length<=9:=by
  unfold uG;rw [Oi,Mv];omega
 have h4:10 ^ (uG s lo e).length<=10 ^ 9:=Mt dc_ h3;have h5:(10:Nat) ^ 9=B9:=rfl;omega
theorem zS {p:List Nat}(j:Dig9 p)(f:p[i]?=some x)(h:yU s)(k:cR s=bj (p.drop (i+1)))(l:0<cR s) :
  yU (s++uc 9 x)/\cR (s++uc 9 x)=bj (p.drop i)/\0<cR (s++uc 9 x):=by
 have m:=j x (LQ f);obtain ⟨h1,h2,h3⟩:=rN 9 x m;have g:=aX.1 f;have e:bj (p.drop i)=x+B9*bj (p.drop (i+1)):=by rw [MB g.1,g.2];rfl
 have n:cR (s++uc 9 x)=bj (p.drop i):=by
  rw [dV,h1,h3,k,e,Oe,ML]
 refine ⟨⟨fun c a=>?_, ?_,fun b=>?_⟩,n, ?_⟩
 ·rcases Mh.1 a with a | a
  ·exact h.1 c a
  ·exact h2 c a
 ·intro e;exact h.2.1 (List.append_eq_nil_iff.1 e).1
 ·exfalso;rw [yl h.2.1] at b;have h5:=h.2.2 b
  match hs:s,h.2.1 with
  | [c],_ =>
   simp at b;subst b;have:cR ([48]:List UInt8)=0:=rfl;omega
  | c::d::s,_=>simp at h5
 ·rw [dV];have:0<cR s*10 ^ (uc 9 x).length:=Oa l (N9 dc_);omega
theorem kP (l:List Nat)(i:Nat):bj (l.take (i+1))=bj (l.take i)+B9 ^ i*g9 l i:=by
 cases a:l[i]? with
 | none =>
  have b:l.length<=i:=List.getElem?_eq_none_iff.1 a;have:g9 l i=0:=by unfold g9;rw [ak,a];rfl
  rw [this,MZ om_,MZ b];simp
 | some x=>rw [ib a,vU a]
theorem CU (P s c B t:Nat)(h:s+B*c=t):P*s+P*B*c=P*t:=by
 rw [<- h,Nk,N3]
theorem Eu (d:out.length=i)(h:bj out+B9 ^ i*c=bj (a.take i)+bj (b.take i)) :
  bj (out++[(g9 a i+g9 b i+c) % B9])+B9 ^ (i+1)*((g9 a i+g9 b i+c) / B9)=bj (a.take (i+1))+bj (b.take (i+1)):=by
 rw [ic,d,kP,kP,M7];have h1:=CU (B9 ^ i) _ _ B9 _ (Ot (g9 a i+g9 b i+c) B9);rw [Nk,Nk] at h1;omega
def ta (x y c:Nat):Nat:=if x<y+c then 1 else 0
def D1 (x y c:Nat):Nat:=x+B9*ta x y c-y-c
theorem BE (d:Dig9 b)(f:c<=1)(e:out.length=i)(h:bj out+bj (b.take i)=bj (a.take i)+B9 ^ i*c) :
  bj (out++[D1 (g9 a i) (g9 b i) c])+bj (b.take (i+1))=bj (a.take (i+1))+B9 ^ (i+1)*ta (g9 a i) (g9 b i) c:=by
 have hy:=jG d i;have h0:D1 (g9 a i) (g9 b i) c+(g9 b i+c)=g9 a i+B9*ta (g9 a i) (g9 b i) c:=by
  unfold D1 ta;split <;> omega
 rw [ic,e,kP,kP,M7];have h1:B9 ^ i*D1 (g9 a i) (g9 b i) c+(B9 ^ i*g9 b i+B9 ^ i*c)=B9 ^ i*g9 a i+B9 ^ i*B9*ta (g9 a i) (g9 b i) c:=by
  rw [<- Nk,<- Nk,h0,Nk,N3]
 omega
theorem Em (x y c:Nat):ta x y c<=1:=by unfold ta;split <;> omega
theorem Ja (a:x<B9)(b:y<B9)(d:c<=1):D1 x y c<B9:=by unfold D1 ta;split <;> omega
theorem Ej (a:x<B9)(b:y<B9)(d:c<=1):(x+y+c) / B9<=1:=by
 have:x+y+c<2*B9:=by omega
 exact Nat.le_of_lt_succ ((N1 dc_).2 this)
theorem rn:∀ {l:List Nat}{i x z:Nat},l[i]?=some x->bj (l.set i z)+B9 ^ i*x=bj l+B9 ^ i*z
 | [],_,_,_,h=>by simp at h
 | y::l,0,x,z,h=>by
  simp at h;subst h;simp only [List.set_cons_zero,bj,Nat.pow_zero,Om];omega
 | y::l,i+1,x,z,h=>by
  have a:=rn (l:=l) (i:=i) (x:=x) (z:=z) (by simpa using h);simp only [List.set_cons_succ,bj,M7];have h1:B9*bj (l.set i z)+B9*(B9 ^ i*x)=B9*bj l+B9*(B9 ^ i*z):=by rw [<- Nk,a,Nk]
  rw [ML (B9 ^ i) B9,N3,N3];omega
theorem Dig9.set {l:List Nat}(h:Dig9 l){i z:Nat}(a:z<B9):Dig9 (l.set i z):=fun x b=>by
 rcases List.mem_or_eq_of_mem_set b with h1 | h1
 ·exact h x h1
 ·rw [h1];exact a
theorem CT {V T k:Nat}(a:out[i+k]?=some o)(d:T=bj (b.take k))(h:bj out+B9 ^ (i+k)*c=V+B9 ^ i*(x*T)) :
  bj (out.set (i+k) ((c+x*g9 b k+o) % B9))+B9 ^ (i+(k+1))*((c+x*g9 b k+o) / B9)=V+B9 ^ i*(x*bj (b.take (k+1))):=by
 have h1:=rn (z:=(c+x*g9 b k+o) % B9) a;rw [kP,<- d,show i+(k+1)=i+k+1 by omega,M7];have h2:=CU (B9 ^ (i+k)) _ _ B9 _ (Ot (c+x*g9 b k+o) B9);rw [Nk,Nk] at h2;have h3:B9 ^ i*(x*(T+B9 ^ k*g9 b k))=B9 ^ i*(x*T)+B9 ^ (i+k)*(x*g9 b k):=by
  rw [Nk,Nk,On];congr 1;rw [Nat.mul_left_comm x,N3]
 omega
theorem pY (a:c<B9)(b:x<B9)(d:y<B9)(e:o<B9):c+x*y+o<B9*B9:=by
 have h1:x*y<=(B9-1)*(B9-1):=NA om_ om_;have h2:(B9-1)*(B9-1)=999999998000000001:=by decide
 have h3:B9*B9=1000000000000000000:=by decide
 have f:B9=1000000000:=rfl;omega
theorem Ei (a:c<B9)(b:x<B9)(d:y<B9)(e:o<B9):(c+x*y+o) / B9<B9:=(N1 dc_).2 (pY a b d e)
end Go.Jog
namespace Go.Jog
open Go Go.Proofs Go.Shelf
variable {C:Mem}{P:Program}{cs:Array Value}{name:String}
def VarC (P:Program)(C:Mem)(name:String)(cs:Array Value):Prop:=∃ g e fz,P.globalNamed name=some g/\C g=some (.cells cs e fz)
theorem VarC.mono {D:Mem}(h:VarC P C name cs)(a:C.le D):VarC P D name cs :=
 let ⟨g,e,fz,h1,h2⟩:=h
 ⟨g,e,fz,h1,a _ _ h2⟩
theorem VarC.m_ {D:Mem}(h:VarC P C name cs)(a:C.le D:=by exact mup):VarC P D name cs:=VarC.mono h a
theorem VarC.var {P:Program}{C:Mem}{a:String}{b:Array Value}(h:VarC P C a b){L:List Ent}{w:World}(d:Sep C L w):w.var? P a=some b:=by
 obtain ⟨g,e,fz,h1,h2⟩:=h;have h3:=d.c _ _ h2;simp [World.var?,h1,h3]
theorem VarC.ofWorld {W:World}(h:W.var? P name=some cs):VarC P (Da W) name cs:=by
 unfold World.var? at h;cases a:P.globalNamed name with
 | none=>rw [a] at h;cases h
 | some g =>
  rw [a] at h;simp only [Option.bind_some] at h;split at h
  ·rename_i c e fz b;simp only [Mq] at h;subst h;exact ⟨g,e,fz,a,b⟩
  ·cases h
theorem St.grown {w:World}(d:Sep C [] w)(q:Nat)(e:Array Obj):St w C [] C [] (Sort.grow (w.drewN q) e) :=
 ⟨⟨fun b o f=>by rw [Sort.heap_grow_old (w.drewN q) e (bW (d.c b o f):b<(w.drewN q).heap.size)];exact d.c b o f,fun x g=>(by cases g),List.Pairwise.nil,d.n⟩,
  ⟨rfl,rfl,rfl,by simp [Sort.grow],fun k a _=>Sort.heap_grow_old (w.drewN q) e a,Nat.le_add_right _ _⟩,Mem.le.refl _,fun _ _ a=>.inl a,fun _ a=>.inr a⟩
section
variable {P:Program} {ρ:Ren}
theorem IT (L : LaysM.n171 P ρ) (n : Int) (b : -9223372036854775808 <= n) (c : n <= 9223372036854775807) (C : Mem) (d : VarC P C "internal/strconv.uint64pow10" (Lib.pow10Tab.map fun z => Value.int .u64 z).toArray) (g : Enters P (ρ.f 171) = true) :
  Gives P (ρ.f 171) [.int .i64 n] C (al (Lib.itoa n)) :=
 ⟨g,fun w a=>(Any.strconv_Itoa L n b c w (d.var a)).mono fun e w' ⟨h2,q,os,h3⟩=>by
  subst h3;exact ⟨_,C,[],h2,St.grown a q os,Z,Z⟩⟩
theorem K9 (L : Lays7.n27 P ρ) (x : Nat) (b : x < 18446744073709551616) (C : Mem) (c : P.globalNamed "math/bits.deBruijn64tab" = some (ρ.g 1)) (d : VarC P C "math/bits.deBruijn64tab" (Lib.deBruijn64tab.map fun z : Nat => Value.int .u8 (z : Int)).toArray) (h : Enters P (ρ.f 27) = true) :
  Gives P (ρ.f 27) [.int .u64 x] C (.int .i64 (Lib.ctz 64 x)) :=
 ⟨h,fun w a=>(Any7.bits_TrailingZeros L x b w (fun _ j i=>by
  rw [World.var?_cell c (d.var a)];simp [List.getD,i])).mono fun e w' ⟨h2,h3⟩=>by
  subst h3;exact ⟨_,C,[],h2,St.start a,Z,Z⟩⟩
end
end Go.Jog
namespace Go.Jog
open Go Go.Proofs Go.Shelf
theorem St.bytesW {C:Mem}{w:World}(a:Sep C [] w)(e:TypeId)(s:ByteArray):St w C [] C [] (Lib.bytesWorld w e s):=by
 refine ((St.start a).fresh (ob:=_) ⟨?_, ?_, ?_,Lib.bytesWorld_size w e s,fun k b=>Lib.bytesWorld_at_old w e s k b,Lib.bytesWorld_at_new w e s, ?_⟩).drop
 ·unfold Lib.bytesWorld World.freeze;split <;> rfl
 ·unfold Lib.bytesWorld World.freeze;split <;> rfl
 ·unfold Lib.bytesWorld World.freeze;split <;> rfl
 ·unfold Lib.bytesWorld World.freeze;split <;> exact N4 _
theorem oE:∀ (s:List UInt8)(a:Nat),(∀ c∈s,eM c=true)->Lib.decFrom a s=some (s.foldl yw a)
 | [],a,_=>rfl
 | c::s,a,h=>by
  have h1:=h c (by simp);simp only [eM,LY] at h1;simp only [Lib.decFrom,Lib.digitVal,aI h1,M8];rw [oE s _ (fun d b=>h d (by simp [b]))];simp only [yw];rw [ML 10 a]
theorem qJ {s:List UInt8}(h:∀ c∈s,eM c=true)(a:s≠[]):Lib.decNat s=some (cR s):=by
 unfold Lib.decNat;cases s with
 | nil=>exact absurd rfl a
 | cons c s=>simp only [List.isEmpty_cons,MC,MW];exact oE _ 0 h
theorem I9 {c:UInt8}(h:eM c=true):(c == 45)=false/\(c == 43)=false:=by
 simp only [eM,LY] at h;constructor <;> (rw [M5];rintro rfl;revert h;decide)
theorem Ep {s:List UInt8}(h:∀ c∈s,eM c=true)(a:s≠[]):Lib.atoi s=some (cR s:Nat):=by
 cases s with
 | nil=>exact absurd rfl a
 | cons c s =>
  obtain ⟨h1,h2⟩:=I9 (h c (by simp));simp only [Lib.atoi,h1,h2,MC,MW,qJ h a];rfl
theorem GR (z:Int):Lib.atoi (txt z)=some z:=by
 obtain ⟨h1,h2⟩:=bN z.natAbs;unfold txt;split
 ·rename_i a;simp only [Lib.atoi,beq_self_eq_true,Ny,qJ h1.1 h1.2.1,h2];show some (-(z.natAbs:Int))=some z;congr 1;omega
 ·rename_i a;rw [Ep h1.1 h1.2.1,h2];show some ((z.natAbs:Int))=some z;congr 1;omega
theorem pS (M:Nat)(e:999999999999999999<=M):∀ (s:List UInt8)(a k:Nat),(∀ c∈s,eM c=true)->a<10 ^ k->k+s.length<=18->Lib.parseUintM M a s=.ok (s.foldl yw a)
 | [],a,k,_,_,_=>rfl
 | c::s,a,k,h,i,b=>by
  have h1:=h c (by simp);simp only [eM,LY] at h1;have f:10 ^ (k+1)<=10 ^ 18:=Mt dc_ (by simp at b;omega);have j:10 ^ k<=10 ^ 17:=Mt dc_ (by simp at b;omega);have e18:(10:Nat) ^ 18=1000000000000000000:=by decide
  have l:(10:Nat) ^ 17=100000000000000000:=by decide
  rw [M7] at f;simp only [Lib.parseUintM,aI h1];rw [aC om_,aC om_,pS M e s (a*10+(c.toNat-48)) (k+1) (fun d g=>h d (by simp [g])) (by rw [M7];omega) (by simp at b;omega)];simp only [M8,yw];rw [ML 10 a]
section
variable {P:Program} {ρ:Ren}
theorem CE (L:Lays.n287 P ρ)(s:List UInt8)(b:∀ c∈s,eM c=true)(d:s≠[])(i:s.length<=18)(C:Mem)(g:Enters P (ρ.f 287)=true) :
  Gives P (ρ.f 287) [al s,.int .i64 10,.int .i64 64] C (.tuple #[.int .u64 (cR s),.nilIface]) :=
 ⟨g,fun w a=>(Any.internal_strconv_ParseUint_10_at64 L ⟨s.toArray⟩ (by simp [ByteArray.size];omega) w).mono fun e w' ⟨h2,h3⟩=>by
  have h:Lib.parseUintB 64 (⟨s.toArray⟩:ByteArray).data.toList=.ok (cR s):=by
   unfold Lib.parseUintB;rw [aC d];exact pS _ dc_ s 0 0 b dc_ om_
  rw [h] at h2;rcases h3 with h3 | h3
  ·subst h3;exact ⟨_,C,[],h2,St.start a,rfl,rfl⟩
  ·subst h3;exact ⟨_,C,[],h2,St.bytesW a _ _,rfl,rfl⟩⟩
theorem Jt (L:Lays.n172 P ρ)(z:Int)(a:(txt z).length<=18)(C:Mem)(b:Enters P (ρ.f 172)=true):Gives P (ρ.f 172) [al (txt z)] C (.tuple #[.int .i64 z,.nilIface]) :=
 ⟨b,fun w c=>(Any.strconv_Atoi L ⟨(txt z).toArray⟩ z (by simpa [ByteArray.size] using a) (GR z) w).mono fun e w' ⟨h2,t,h3⟩=>by
  subst h3;exact ⟨_,C,[],h2,St.bytesW c _ _,rfl,rfl⟩⟩
theorem vE (L:Lays.n106 P ρ)(a b:List UInt8)(C:Mem)(c:Enters P (ρ.f 106)=true):Gives P (ρ.f 106) [al a,al b] C (.int .i64 (Lib.compareBytes a b)) :=
 Gives.ofCalls c (fun w=>Any.strings_Compare L ⟨a.toArray⟩ ⟨b.toArray⟩ w) C
end
end Go.Jog
namespace Go.Jog
open Go Go.Proofs Go.Shelf
theorem jk {P:Program}(w:World)(t u c e:TypeId)(i:TypeInfo)(d:P.underlying t=some (.slice e))(f:P.underlying u=some .string)(h:P.info? e=some i)(m:i.zero=some (.int .u8 0))
  (o:i.size=1) (p:i.bytes=1) (v:Value) (n:Nat) (b:List Value) (k:w.ownsRow 0 e 1 v n b) (s:ByteArray) (q:n+s.size<=maxLen) (x:n+s.size<=140737488355328) :
  ∃ a w',(Builtin.append_ #[t,u] c #[v,.string s]).run P w=.ok a w'/\w'.ownsRow 0 e 1 a (n+s.size) (b++Lib.strCells s)/\w.grownBy w' v.ownBlock /\
   (a.ownBlock=v.ownBlock∨a.ownBlock=some w.heap.size∨a.ownBlock=none):=by
 obtain ⟨a,w',h1,h2,h3,h4⟩:=Lib.run_append_own_string (P:=P) w 0 t u c e i d f h m o p v n b k s q x (LV _);refine ⟨a,w',h1,h2,h3, ?_⟩;have y:b.length=n:=by simpa using k.1
 have C:n+s.size<=9223372036854775807:=by simp only [maxLen] at q;omega
 rcases k.2 with ⟨rfl,rfl⟩ | ⟨g,l,r,rfl,D,z,E,F,A,G⟩
 ·by_cases hm:s.size=0
  ·rw [h4.2 ⟨rfl,hm⟩];exact .inr (.inr rfl)
  ·have hr:=run_append_nil_string (P:=P) w t u c e i (.int .u8 0) d f h m s om_ om_ (by rw [p];omega);rw [hr] at h1;injection h1 with h1 _;subst h1;exact .inr (.inl Z)
 ·by_cases B:n+s.size<=l
  ·have H:r.size=l:=by simpa using A
   have hr:=Lib.run_append_room_string (P:=P) w t u c e i d f h o g n l r z s B om_;rw [hr] at h1;injection h1 with h1 _;subst h1;exact .inl Z
  ·have holds:∀ j u,b[j]?=some u->w.cell? ((⟨g,0,none⟩:Addr).add j)=some u:=k.cells (g:=g) rfl;have hr:=Lib.run_append_grow_string (P:=P) w t u c e i (.int .u8 0) d f h m ⟨g,0,none⟩ n l b (by rw [o];simpa using y) holds s om_ om_ (by rw [p];exact growslice_fits om_ om_);rw [hr] at h1;injection h1 with h1 _;subst h1;exact .inr (.inl Z)
section
variable {cx:Cx} {n:Nat} {ds:List (Option Nat)} {R:Rg n ds} {its:List It} {fr:Fr} {C:Mem} {L:List Ent} {i k d:Nat} {o:Oper} {g:GL} {v:Value}
theorem Ry {t u e j m:Nat}{x y:Operand}{q r p:TI}{g:Value}{l:List Value}{s:List UInt8}(J:k=3)(K:o.dst=some d)(M:gOn ds fr o.guard=true)
  (N:o.op=.call ⟨.builtin .append,#[x,y],#[t,u]⟩) (O:cx.T.get t=some q) (F:q.k=.slice e) (Q:cx.T.get u=some r) (G:r.k=.str) (U:cx.T.get e=some p) (V:p.zv=.int .u8 0) (W:p.size=1) (X:p.bytes=1)
  (Y:ev fr [] x=some g) (hy:ev fr [] y=some (al s)) (hm:L[j]?=some (.arr g e 1 m l))
  (aa:m+s.length<=140737488355328) (hp:∀ v,aO n ds ((d,[],v)::fr) d=true)
  (h:∀ A n c,D cx R its ((d,[],.slice A n c)::fr) C (.arr (.slice A n c) e 1 (m+s.length) (l++s.map fun b=>Value.int .u8 b.toNat)::L.eraseIdx j)):D cx R ((i,k,o)::its) fr C L:=by
 have hu:cx.P.underlying t=some (.slice e):=by
  obtain ⟨kk,s1,b1,z1,g1⟩:=q;simp only at F;subst F;exact ck cx.hT O
 have ab:cx.P.underlying u=some .string:=by
  obtain ⟨kk,s1,b1,z1,g1⟩:=r;simp only at G;subst G;exact mW cx.hT Q
 obtain ⟨inf,hi,ac,ad,af,an⟩:=(dO cx.hT U).info;have z:(⟨s.toArray⟩:ByteArray).size=s.length:=by simp [ByteArray.size]
 refine PP (S:=fun f C' L'=>(∃ A n c,f=.slice A n c)/\C'=C/\L'=.arr f e 1 (m+s.length) (l++s.map fun b=>Value.int .u8 b.toNat)::L.eraseIdx j) (by subst J;rfl) K M hp (fun a hs w _ hw=>?_) (fun f C' L' _ ⟨⟨A,n',c,e0⟩,B,e2⟩=>by subst e0;subst B;subst e2;exact h A n' c);have H:=St.perm hw (ae hm);have ag:w.ownsRow 0 e 1 g m l:=H.sep.e _ (aF ..);obtain ⟨f,w',I,E,ah,ai⟩:=jk (P:=cx.P) w t u o.type e inf hu ab hi (by rw [af,V]) (by rw [ac,W]) (by rw [ad,X]) g m l ag ⟨s.toArray⟩ (by rw [z];simp [maxLen];omega) (by rw [z];exact aa);rw [z] at E;have aj:(Builtin.append_ #[t,u] o.type #[g,al s]).run cx.P w=.ok f w':=I;have ak:(execOp a.eval o).run cx.P w=.ok (.value f) w':=by
  have B:execOp a.eval o=(do let dd <- resolve a.eval ⟨.builtin .append,#[x,y],#[t,u]⟩ o.type;invoke dd.target dd.args:Sem Next):=by unfold execOp;rw [N]
  rw [B];simp only [resolve,invoke,builtin,Sem.run_bind,Sem.run_pure,Result.andThen_ok,NS,Mp,NQ,hs _ _ Y,hs _ _ hy,aj]
 unfold Oper.wp;rw [ak];have am:∃ A n c,f=.slice A n c:=by
  rcases E.2 with ⟨h1,_⟩ | ⟨g0,ao,ap,h1,_⟩
  ·exact ⟨_,_,_,h1⟩
  ·exact ⟨_,_,_,h1⟩
 exact ⟨f,C,_,Z,Mem.le.refl _,fun h2=>by omega,St.turn H E ah (bR _ I) ai,am,Z,Z⟩
theorem Rt {t b m c:Nat}{x:Operand}(e:Nat.ble k 1=true)(f:o.dst=some d)(h:o.op=.call ⟨.builtin .unsafeSliceData,#[x],#[t]⟩)(j:gOf ds fr o.guard=some g)(l:ev fr g x=some (.slice (some ⟨b,0,none⟩) m c))(p:c≠0)
  (q:aO n ds ((d,g,.pointer (some ⟨b,0,none⟩))::fr) d=true) (r:wfG ds fr g=true)
  (s:D cx R its ((d,g,.pointer (some ⟨b,0,none⟩))::fr) C L):D cx R ((i,k,o)::its) fr C L:=by
 refine D.run _ e f j (fun v a hs w=>?_) q r s;have u:execOp a.eval o=(do let dd <- resolve a.eval ⟨.builtin .unsafeSliceData,#[x],#[t]⟩ o.type;invoke dd.target dd.args:Sem Next):=by unfold execOp;rw [h]
 rw [u];simp only [resolve,invoke,builtin,Sem.run_bind,Sem.run_pure,Result.andThen_ok,NS,Mp,NQ,hs _ _ l,Lib.run_unsafeSliceData_row _ _ _ _ _ _ p]
theorem Rs {t u e j l m r:Nat}{x y:Operand}{s:List UInt8}(f:k=3)(M:o.dst=some d)(N:gOn ds fr o.guard=true)
  (O:o.op=.call ⟨.builtin .unsafeString,#[x,y],#[t,u]⟩) (Q:cx.P.underlying t=some (.pointer e)) (T:cx.P.cellsOf e=1)
  (p:ev fr [] x=some (.pointer (some ⟨l,0,none⟩))) (z:ev fr [] y=some (.int .i64 s.length)) (U:L[j]?=some (.arr (.slice (some ⟨l,0,none⟩) m r) e 1 s.length (s.map fun b=>Value.int .u8 b.toNat))) (V:s≠[])
  (ai:s.length<=140737488355328) (W:∀ v,aO n ds ((d,[],v)::fr) d=true)
  (h:D cx R its ((d,[],al s)::fr) C (L.eraseIdx j)):D cx R ((i,k,o)::its) fr C L:=by
 refine PP (S:=fun H C' I=>H=al s/\C'=C/\I=L.eraseIdx j) (by subst f;rfl) M N W (fun a hs w _ X=>?_) (fun H C' I _ ⟨Y,A,e2⟩=>by subst Y;subst A;subst e2;exact h);have q:=St.perm X (ae U);have J:w.ownsRow 0 e 1 (.slice (some ⟨l,0,none⟩) m r) s.length (s.map fun b=>Value.int .u8 b.toNat):=q.sep.e _ (aF ..);rcases J.2 with ⟨B,_⟩ | ⟨g1,aj,E,B,ak,F,am,an,aa,ao⟩
 ·cases B
 ·cases B
  have ap:E.size=r:=by simpa using aa
  have hr:=Lib.run_unsafeString_row (P:=cx.P) w t u o.type e Q T l E.size (by simp [World.shape?,F]) s V om_ om_ (fun j x hj=>J.cells (g:=l) rfl j _ (by rw [LU,hj];rfl));have ab:(execOp a.eval o).run cx.P w=.ok (.value (al s)) (w.freeze ⟨l,0,none⟩ s.length):=by
   have A:execOp a.eval o=(do let dd <- resolve a.eval ⟨.builtin .unsafeString,#[x,y],#[t,u]⟩ o.type;invoke dd.target dd.args:Sem Next):=by unfold execOp;rw [O]
   rw [A];simp only [resolve,invoke,builtin,Sem.run_bind,Sem.run_pure,Result.andThen_ok,NS,Mp,NQ,hs _ _ p,hs _ _ z,hr];rfl
  unfold Oper.wp;rw [ab];have ac:l<w.heap.size:=bW F;have ad:∀ k,k≠l->(w.freeze ⟨l,0,none⟩ s.length).heap[k]?=w.heap[k]?:=fun k f=>by
   unfold World.freeze;split <;> first | rfl | (simp only [N2];rw [aC (fun e=>f e.symm)]) | (simp [Array.getElem?_setIfInBounds,Ne.symm f])
  have K:(w.freeze ⟨l,0,none⟩ s.length).heap.size=w.heap.size:=by
   unfold World.freeze;split <;> simp
  obtain ⟨G,af⟩:∃ G,(w.freeze ⟨l,0,none⟩ s.length).heap[l]?=some G:=⟨_,Array.getElem?_eq_getElem (by rw [K];exact ac)⟩;have ag:St _ _ _ C (.obj l (.cells E e (0,0))::L.eraseIdx j) w :=
   ⟨⟨q.sep.c,fun x p=>by
    rcases Ma.1 p with rfl | p
    ·exact F
    ·exact q.sep.e x (by simp [p]),by
    have:=MI.1 q.sep.d;exact MI.2 ⟨fun y z k f=>this.1 y z k (by simp only [Ent.own] at f ⊢;simp [Value.ownBlock,f]),this.2⟩,fun k ⟨x,p,f⟩=>by
    rcases Ma.1 p with rfl | p
    ·simp only [Ent.own] at f;exact q.sep.n k ⟨_,aF ..,by simp [Ent.own,Value.ownBlock,f]⟩
    ·exact q.sep.n k ⟨x,by simp [p],f⟩⟩,q.ev,q.c0,q.cn,fun k ⟨x,p,f⟩=>by
    rcases Ma.1 p with rfl | p
    ·simp only [Ent.own] at f;exact q.ln k ⟨_,aF ..,by simp [Ent.own,Value.ownBlock,f]⟩
    ·exact q.ln k ⟨x,by simp [p],f⟩⟩
  have ah:=ag.put (w':=w.freeze ⟨l,0,none⟩ s.length) (o':=G) af ad K (by unfold World.freeze;split <;> rfl) (by unfold World.freeze;split <;> rfl) (by unfold World.freeze;split <;> rfl) (by unfold World.freeze;split <;> exact LP _);exact ⟨al s,C,_,Z,Mem.le.refl _,fun h2=>by omega,ah.drop,Z,Z,Z⟩
end
end Go.Jog
namespace Go.Jog
open Go Go.Proofs Go.Shelf Go.Sort
section
variable {P:Program} {ρ:Ren}
theorem vV (L:Lays.n285 P ρ)(b i u t:Nat)(a:List Value)(v:u<18446744073709551616)(l:∀ j,j<Lib.nDigits u->a[j]?=some (.int .u8 0))(y:Lib.nDigits u<4611686018427387904)(C:Mem)(z:Enters P (ρ.f 285)=true) :
  Fn P (ρ.f 285) [.slice (some ⟨b,0,none⟩) (Lib.nDigits u) i,.int .u64 u] C [.obj b (.cells ⟨a⟩ t (0,0))] fun r C' A=>r=.tuple #[]/\C'=C/\∃ d,A=[.obj b (.cells ⟨d⟩ t (0,0))]/\d.length=a.length/\∀ (j:Nat) x,(bP u)[j]?=some x->d[j]?=some (.int .u8 x.toNat) :=
 ⟨z,fun w m=>by
  have g:w.heap[b]?=some (.cells ⟨a⟩ t (0,0)):=m.e _ (aF ..);have B:Holds (fun (b:UInt8)=>Value.int .u8 (b.toNat:Int)) w b 0 (Array.replicate (Lib.nDigits u) (0:UInt8)):=fun j c=>by
   have n:j<Lib.nDigits u:=by simpa using c
   constructor
   ·simp [World.cell?,g,l j n,n]
   ·simp [World.frozen?,g]
  have o:=Any.internal_strconv_formatBase10 L b 0 i u (Array.replicate (Lib.nDigits u) 0) w B (by rw [ON];exact Lib.lt_pow_nDigits u) v (by rw [ON];exact y);rw [ON] at o;refine o.mono ?_;rintro e w' ⟨h1,q,I,h,h2,p⟩;subst h2;have D:((putRow (fun (b:UInt8)=>Value.int .u8 (b.toNat:Int)) w b 0 h).drewN q).heap[b]?=some (.cells ⟨(putCells (fun (b:UInt8)=>Value.int .u8 (b.toNat:Int)) 0 h ⟨a⟩).toList⟩ t (0,0)):=by
   simp [putRow,mapBlock,onCells,N2,g]
  refine ⟨_,C,_,h1, ?_,Z,Z,(putCells (fun (b:UInt8)=>Value.int .u8 (b.toNat:Int)) 0 h ⟨a⟩).toList,Z, ?_,fun j x s=>?_⟩
  ·exact (St.start m).put D (fun k E=>by simp [putRow,mapBlock,N2,Ne.symm E]) (by simp [putRow,mapBlock]) Z Z Z (Nat.le_add_right _ _)
  ·simp [putCells]
  ·rw [<- dL] at s;obtain ⟨c,F⟩:=aX.1 s;have hr:=Lib.row_is_numeral p j c;have G:j<Lib.nDigits u:=by rw [<- Lib.decDigits_length];exact c
   have H:j<a.length:=(aX.1 (l j G)).1;have J:=p.size;simp only [putCells,Array.getElem?_toList,Array.getElem?_mapIdx];rw [show ((⟨a⟩:Array Value)[j]?)=some a[j] from by simp [H]];simp only [Nt];rw [aI ⟨LV _,by omega⟩,Od,<- hr,F]⟩
theorem uh (L : LaysM.n284 P ρ) (u : Nat) (b : 1 <= u) (c : u < 18446744073709551616) (C : Mem) (d : VarC P C "internal/strconv.uint64pow10" (Lib.pow10Tab.map fun z => Value.int .u64 z).toArray) (g : Enters P (ρ.f 284) = true) :
  Gives P (ρ.f 284) [.int .u64 u] C (.int .i64 (Lib.nDigits u)) :=
 ⟨g,fun w a=>(Any.internal_strconv_numDigits L u b c w (d.var a)).mono fun e w' ⟨h3,h4⟩=>by
  subst h4;exact ⟨_,C,[],h3,St.start a,Z,Z⟩⟩
end
end Go.Jog
namespace Go.Jog
open Go
section
variable {F:Fx} {k:List KI} {fr:Fr} {C:Mem} {L:List Ent}
theorem He {d:Cx}{b:Func}{n r:Nat}{e:List Deferred}{f:World}{g:Mem}{h:List Ent}{x:Value}(i:b.results=#[.tmp r])
  (j:ev fr [] (.tmp r)=some x) :
  ∀ a w,FrOk n [] e fr a->St f g h C L w->(results b a.tmps).run d.P w=.ok x w:=fun a w k _=>by
 have c:=bC k (fun p l=>by cases l) j;simp only [Act.eval,MO] at c;simp [results,i,c]
end
theorem Fn.give {P:Program}{f:FuncId}{c:List Value}{C:Mem}{L:List Ent}{v:Value}{t b d:Nat}(a:List (List Value)){g:Value->Mem->List Ent->Prop}(i:Enters P f=true)(j:∀ r∈a,r.length=b)(k:a.length=d)
  (h:∀ C',C.le C'->Sl C' b v a->Fn P f c C' L g):Fn P f c C (.arr v t b d a.flatten::L) g :=
 ⟨i,fun w l=>by
  obtain ⟨C1,h1,h2,h3⟩:=St.freezeArr (St.start l) j k;refine ((h C1 h1 h2).2 w h3.sep).mono fun e w' ⟨u,C',m,n,hs,o⟩=>⟨u,C',m,n, ?_,o⟩;have:=St.call (Lp:=L) (Lr:=[]) (by rw [Mi];exact h3) hs
  rwa [Mi] at this⟩
end Go.Jog
namespace Go.Jog
open Go
section
variable {cx:Cx} {n:Nat} {ds:List (Option Nat)} {R:Rg n ds} {its:List It} {fr:Fr} {C:Mem} {L:List Ent} {i k d:Nat} {o:Oper} {g:GL} {v:Value}
theorem Ri {t e b:Nat}{x:Operand}{p:Option Addr}(c:Nat.ble k 1=true)(f:o.dst=some d)(j:o.op=.binOp .eql t x (.const (.pointer none)) b)(l:gOf ds fr o.guard=some g)
  (m:ev fr g x=some (.pointer p)) (q:cx.P.underlying t=some (.pointer e)) (r:cx.P.pointee t=e)
  (s:aO n ds ((d,g,.bool p.isNone)::fr) d=true) (u:wfG ds fr g=true)
  (h:D cx R its ((d,g,.bool p.isNone)::fr) C L):D cx R ((i,k,o)::its) fr C L:=by
 subst r;refine D.run _ c f l (fun _ a hs w=>?_) s u h;rw [cj j (hs _ _ m) rfl (fun _ _=>.inl (by simp)) (.inl (by simp)) w];simp only [Act.eval,run_eql_pointer_nil w t p q,Result.andThen_ok]
theorem Rv {t e c:Nat}{x y:Operand}{b:Addr}(f:Nat.ble k 1=true)(l:o.dst=some d)(m:o.op=.binOp .neq t x y c)(p:gOf ds fr o.guard=some g)
  (q:ev fr g x=some (.pointer (some b))) (r:ev fr g y=some (.pointer (some b))) (s:cx.P.underlying t=some (.pointer e)) (u:(cx.P.info? e).isSome=true)
  (v:aO n ds ((d,g,.bool false)::fr) d=true) (z:wfG ds fr g=true)
  (h:D cx R its ((d,g,.bool false)::fr) C L):D cx R ((i,k,o)::its) fr C L:=by
 obtain ⟨j,A⟩:=Ov.1 u;refine D.run _ f l p (fun _ a hs w=>?_) v z h;rw [cj m (hs _ _ q) (hs _ _ r) (fun _ _=>.inl (by simp)) (.inl (by simp)) w];simp only [Lib.run_neq_ptr_same w b s A,Result.andThen_ok]
theorem Q4 {c f t e b:Nat}{x:Operand}{g:List Value}{m:Nat × Nat}(s:k=2)(u:o.dst=some d)(y:o.op=.convert c f x)(z:gOn ds fr o.guard=true)(A:ev fr [] x=some (.pointer (some ⟨b,0,none⟩)))
  (B:Ent.obj b (.cells ⟨g⟩ e m)∈L) (E:cx.P.underlying c=some (.pointer t)) (F:cx.P.underlying f=some .unsafePointer) (G:((cx.P.info? t).map fun i=>Nat.beq i.size 0)=some false) (H:0<g.length)
  (I:∀ v,aO n ds ((d,[],v)::fr) d=true)
  (h:D cx R its ((d,[],.pointer (some ⟨b,0,none⟩))::fr) C L):D cx R ((i,k,o)::its) fr C L:=by
 obtain ⟨j,J,p⟩:=Option.map_eq_some_iff.1 G;refine PP (S:=fun v C' q=>v=.pointer (some ⟨b,0,none⟩)/\C'=C/\q=L) (by subst s;rfl) u z I (fun a K w _ r=>?_) (fun Q C' q _ ⟨M,l,N⟩=>by subst M;subst l;subst N;exact h);have O:w.heap[b]?=some (.cells ⟨g⟩ e m):=r.sep.e _ B;have hr:=Lib.run_to_unsafe (P:=cx.P) w (src:=c) (dst:=f) (e:=e) (cells:=g.length) ⟨b,0,none⟩ E F J (fun e=>by rw [e] at p;cases p) (by simp [World.shape?,O]) H;have l:execOp a.eval o=(do Pure.pure (.value (<- convert c f (a.eval x))):Sem Next):=by unfold execOp;rw [y]
 unfold Oper.wp;rw [l,K _ _ A];simp only [Sem.run_bind,hr,Result.andThen_ok,Sem.run_pure];exact ⟨_,C,L,Z,Mem.le.refl _,fun _ _ h=>h,r,Z,Z,Z⟩
theorem Rq {c f t e b:Nat}{x:Operand}{g:List Value}{m:Nat × Nat}(r:k=2)(s:o.dst=some d)(u:o.op=.convert c f x)(y:gOn ds fr o.guard=true)(z:ev fr [] x=some (.pointer (some ⟨b,0,none⟩)))
  (A:Ent.obj b (.cells ⟨g⟩ e m)∈L) (B:cx.P.underlying c=some .unsafePointer) (E:cx.P.underlying f=some (.pointer t)) (F:(cx.P.info? t).isSome=true) (G:liesAt cx.P cx.P.depth e (g.length / cx.P.cellsOf e) 0 t 1=true)
  (H:∀ v,aO n ds ((d,[],v)::fr) d=true)
  (h:D cx R its ((d,[],.pointer (some ⟨b,0,none⟩))::fr) C L):D cx R ((i,k,o)::its) fr C L:=by
 obtain ⟨j,I⟩:=Ov.1 F;refine PP (S:=fun v C' p=>v=.pointer (some ⟨b,0,none⟩)/\C'=C/\p=L) (by subst r;rfl) s y H (fun a J w _ q=>?_) (fun O C' p _ ⟨K,l,M⟩=>by subst K;subst l;subst M;exact h);have N:w.heap[b]?=some (.cells ⟨g⟩ e m):=q.sep.e _ A;have hr:=Lib.run_from_unsafe (P:=cx.P) w (src:=c) (dst:=f) (e:=e) (cells:=g.length) ⟨b,0,none⟩ B E I (by simp [World.shape?,N]) G;have l:execOp a.eval o=(do Pure.pure (.value (<- convert c f (a.eval x))):Sem Next):=by unfold execOp;rw [u]
 unfold Oper.wp;rw [l,J _ _ z];simp only [Sem.run_bind,hr,Result.andThen_ok,Sem.run_pure];exact ⟨_,C,L,Z,Mem.le.refl _,fun _ _ h=>h,q,Z,Z,Z⟩
theorem Q7 {f:FuncId}{fn:Func}{x:Operand}{e:Array TypeId}{u:Value}(j:Nat.ble k 1=false)(l:o.dst=some d)(m:o.op=.call ⟨.value (.func f),#[x],e⟩)(p:gOn ds fr o.guard=true)
  (q : ev fr [] x = some u) (r : cx.P.funcs[f]? = some fn) (s : (fn.name == "runtime.NumGoroutine") = false) (t : fn.body.isNone = true) (y : Extern.findNext fn = none) (z : Extern.find fn = some Extern.AbiNoEscape.same)
  (A:∀ v,aO n ds ((d,[],v)::fr) d=true)
  (h:D cx R its ((d,[],u)::fr) C L):D cx R ((i,k,o)::its) fr C L:=by
 refine PP (S:=fun v C' g=>v=u/\C'=C/\g=L) j l p A (fun a hs w _ B=>?_) (fun F C' g _ ⟨E,b,c⟩=>by subst E;subst b;subst c;exact h);have b:execOp a.eval o=(do let dd <- resolve a.eval ⟨.value (.func f),#[x],e⟩ o.type;invoke dd.target dd.args:Sem Next):=by unfold execOp;rw [m]
 have c:a.eval (.func f)=.func (.func f) #[] #[]:=rfl;unfold Oper.wp;rw [b];simp only [resolve,c,Deferred.ofValue,Sem.run_bind,Sem.run_pure,Result.andThen_ok,invoke,NS,Mp,NQ,hs _ _ q];rw [run_callFunc_extern r s t y z];simp only [Array.empty_append,Array.append_empty,Lib.run_noEscape,Result.andThen_ok];exact ⟨_,C,L,Z,Mem.le.refl _,fun _ _ h=>h,B,Z,Z,Z⟩
theorem ij {P:Program}{b:BinOp}{t:Nat}{x:Operand}(u:Value)(w:World)(c:∀ a,u≠.agg a):(eqGuard b t x (.const .nilIface) u .nilIface).run P w=.ok () w:=by
 by_cases h:u=.nilIface
 ·subst h;cases b <;> first | rfl | (unfold eqGuard;simp)
 ·exact dJ w (fun a _=>.inl (c a)) (.inl h)
theorem QR (b:Bool){c:BinOp}{t j:Nat}{x:Operand}(l:Nat.ble k 1=true)(m:o.dst=some d)(p:o.op=.binOp c t x (.const .nilIface) j)(q:gOf ds fr o.guard=some g)
  (r:ev fr g x=some .nilIface) (s:(c=.eql/\b=true)∨(c=.neq/\b=false)) (f:cx.P.underlying t=some (.interface (cx.P.methodsAt t)))
  (u:aO n ds ((d,g,.bool b)::fr) d=true) (v:wfG ds fr g=true)
  (h:D cx R its ((d,g,.bool b)::fr) C L):D cx R ((i,k,o)::its) fr C L:=by
 refine D.run _ l m q (fun _ a hs w=>?_) u v h;rw [oy p,hs _ _ r];have e:a.eval (.const .nilIface)=.nilIface:=rfl;rcases s with ⟨rfl,rfl⟩ | ⟨rfl,rfl⟩
 ·simp only [e,Sem.run_bind,ij .nilIface w (by intro a;simp),Result.andThen_ok,run_eql_nil_nil w t f,Sem.run_pure]
 ·simp only [e,Sem.run_bind,ij .nilIface w (by intro a;simp),Result.andThen_ok,run_neq_nil_nil w t f,Sem.run_pure]
theorem xD {c:Cx}{d:Func}{n s t u b:Nat}{f:Fr}{C:Mem}{L:List Ent}{k:List Deferred}{l:World}{m:Mem}{o:List Ent}{v:TypeId}{x:Nat × Nat}{q:List Value}{g:TI}{y z:Value}(A:Ent.obj b (.cells ⟨q⟩ v x)∈L)(B:d.results=#[.cell s t,.tmp u])
  (D:ev f [] (.tmp s)=some (.pointer (some ⟨b,0,none⟩))) (E:ev f [] (.tmp u)=some z) (G:c.T.get t=some g) (H:cQ g (q.take g.size)=some y) :
  ∀ a w,FrOk n [] k f a->St l m o C L w->(results d a.tmps).run c.P w=.ok (.tuple #[y,z]) w:=fun a w r I=>by
 have h:=bC r (fun p i=>by cases i) D;have j:=bC r (fun p i=>by cases i) E;simp only [Act.eval] at h j;have J:=dY (F:=⟨c,d,n,⟨l,m,o⟩,fun _ _ _=>True,Cw.plain c.P,k,fun _ _ _=>True⟩) G (I.sep.e _ A) H;simp only [MO] at h j;simp [results,B,h,j,asAddr,J]
theorem QI {t e:Nat}{x y:Operand}{b:IntKind}{p q:Int}(c:Int)(f:Nat.ble k 1=true)(j:o.dst=some d)(l:o.op=.binOp .rem t x y e)(m:gOf ds fr o.guard=some g)(r:ev fr g x=some (.int b p))(s:ev fr g y=some (.int b q))
  (u:q≠0) (v:p.tmod q=c) (z:aO n ds ((d,g,.int b c)::fr) d=true) (A:wfG ds fr g=true)
  (h:D cx R its ((d,g,.int b c)::fr) C L):D cx R ((i,k,o)::its) fr C L :=
 D.run _ f j m (fun _ a hs w=>by
  rw [cj l (hs _ _ r) (hs _ _ s) (fun _ _=>.inl (by simp)) (.inl (by simp)) w];simp [binOp,Op.intDiv,u,v]) z A h
theorem P6 (p:Nat)(q:Nat){t c:Nat}{x y:Operand}{a:IntKind}(e:Z6 (Nat.ble k 1) true o.dst (some d) o.op (.binOp .rem t x y c) (gOf ds fr o.guard) (some g) (ev fr g x) (some (.int a (p:Nat))) (ev fr g y) (some (.int a (q:Nat))))(v:0<q)(f:Z2 (aO n ds ((d,g,.int a ((p % q:Nat):Int))::fr) d) true (wfG ds fr g) true)(h:D cx R its ((d,g,.int a ((p % q:Nat):Int))::fr) C L):D cx R ((i,k,o)::its) fr C L:=by
 have ⟨j,l,m,r,s,hy⟩:=e;have ⟨b,u⟩:=f;rw [Int.natCast_emod] at b h;exact Qb ⟨j,l,m,r,s,hy⟩ om_ om_ ⟨b,u⟩ h
theorem P5 (p:Nat)(q:Nat){t e:Nat}{x y:Operand}{a:IntKind}(f:Z6 (Nat.ble k 1) true o.dst (some d) o.op (.binOp .quo t x y e) (gOf ds fr o.guard) (some g) (ev fr g x) (some (.int a (p:Nat))) (ev fr g y) (some (.int a (q:Nat))))(A:0<q)(b:(a=.i64/\p<9223372036854775808)∨(a=.u64/\p<18446744073709551616))(j:Z2 (aO n ds ((d,g,.int a ((p / q:Nat):Int))::fr) d) true (wfG ds fr g) true)(h:D cx R its ((d,g,.int a ((p / q:Nat):Int))::fr) C L):D cx R ((i,k,o)::its) fr C L:=by
 have ⟨l,m,r,s,u,hy⟩:=f;have ⟨c,v⟩:=j;have hr:a.wrap ((p / q:Nat):Int)=((p / q:Nat):Int):=by
  have w:=NJ p q;generalize p / q=z at w ⊢;rcases b with ⟨rfl,b⟩ | ⟨rfl,b⟩
  ·rw [IntKind.wrap_i64];omega
  ·rw [IntKind.wrap_u64];omega
 rw [O4] at c h hr;exact D.quo l m r s u hy om_ om_ hr c v h
end
end Go.Jog
namespace Go.Proofs.YthnpijdjlddpmaaGreatDoor
open Tryz
open Go Go.Jog
set_option maxRecDepth 100000
variable {m n:Nat}
abbrev K3 (b:Nat):Value:=.pointer (some ⟨b,0,none⟩)
abbrev Jr (b:Nat)(q:Option Addr)(v:Value):Ent:=.obj b (.cells ⟨[.pointer q,v]⟩ 354 (0,0))
abbrev u8s (s:Str):List Value:=s.map fun c=>Value.int .u8 c.toNat
abbrev Js (v:Value)(s:Str):Ent:=.arr v 5 1 s.length (u8s s)
theorem qL (C:Mem)(b:Nat)(q:Option Addr)(v:Value)(g:q=none∨q=some ⟨b,0,none⟩):Jog.Fn cx.P 284 [K3 b] C [Jr b q v] fun _ _ d=>d=[Jr b (some ⟨b,0,none⟩) v]:=by
 refine Ph func284 20 U3 fun w0=>Po (L':=[.obj b (.cells ⟨[.pointer q,v]⟩ 354 (0,0))]) Z<|O7 3 Z fun R a=>Pe (.head _) U9<|Ri (e:=354) Z Z Z Z Z kr_ kr_ Z Z<|Pd [0,6] a Z<|O9 (fun c=>?_) fun c=>?_
 ·have h:q=none:=by simpa using c
  subst h;refine O7 2 Z fun R a=>Q4 (t:=354) Z Z Z Z Z (.head _) kr_ kr_ kr_ (by simp) fl_<|Q7 (fn:=Tryz.f311) Z Z Z Z Z func311 kr_ kr_ kr_ kr_ fl_<|Rq (t:=354) Z Z Z Z Z (.head _) kr_ kr_ kr_ kr_ fl_<|Pc 2 Z<|Pg (j:=0) U12<|P0 [] trivial (a _ _ _ Z ?_);refine P9 Z ?_;rfl
 ·have i:q=some ⟨b,0,none⟩:=by
   rcases g with rfl | rfl
   ·simp at c
   ·rfl
  subst i;refine O7 3 Z fun R a=>Pe (.head _) U9<|Pa U6<|Rv (e:=354) Z Z Z Z Z Z kr_ kr_ Z Z<|Pd [19] a Z<|O9 (fun f=>?_) fun f=>?_
  ·cases f
  ·refine P9 Z ?_;rfl
theorem tf (C:Mem)(b:Nat)(q:Option Addr)(v:Value)(s:Str)(c:UInt8)(i:q=none∨q=some ⟨b,0,none⟩)(m:s.length<=1000000000):Jog.Fn cx.P 253 [K3 b,.int .u8 c.toNat] C [Jr b q v,Js v s] fun _ _ a=>∃ h,a=[Jr b (some ⟨b,0,none⟩) h,Js h (s++[c])]:=by
 refine Ph func253 17 U3 fun w0=>Po (L':=[.obj b (.cells ⟨[.pointer q,v]⟩ 354 (0,0)),.arr v 5 1 s.length (u8s s)]) Z<|C6 1 [0,1] Z<|Px [(1,3)] Z fun R d=>Pa U6<|D.call (qL _ b q v i) Z (.inr dc_) U6 (LR _) fl_ fun n _ o _ k=>Pd [0,1] d Z ?_;subst k;refine Po (L':=[.obj b (.cells ⟨[.pointer (some ⟨b,0,none⟩),v]⟩ 354 (0,0)),.arr v 5 1 s.length (u8s s)]) Z<|O7 4 Z fun R d=>Pe (.head _) U9<|Pa U6<|Ps [[.int .u8 c.toNat]] U12 fun p _ _ l=>Pu (j:=1) U11 l Z (by simp only [aE,maxLen];omega) (by simp only [aE];omega) fl_ fun e f g=>Pc 2 Z<|Pg (j:=1) U12<|P0 [] trivial (d _ _ _ Z ?_);refine C6 1 [4] Z<|G.perm (L':=[.obj b (.cells ⟨[.pointer (some ⟨b,0,none⟩),.slice e f g]⟩ 354 (0,0)),.arr (.slice e f g) 5 1 (s.length+1) (u8s s++[Value.int .u8 c.toNat])]) (LR _)<|Pl (PM Z Z ?_);exact ⟨.slice e f g,by simp [Js,u8s]⟩
theorem jp (C:Mem)(b:Nat)(q:Option Addr)(v:Value)(s t:Str)(e:q=none∨q=some ⟨b,0,none⟩)(g:s.length+t.length<=1000000000):Jog.Fn cx.P 256 [K3 b,al t] C [Jr b q v,Js v s] fun _ _ a=>∃ d,a=[Jr b (some ⟨b,0,none⟩) d,Js d (s++t)]:=by
 refine Ph func256 19 U3 fun w0=>Po (L':=[.obj b (.cells ⟨[.pointer q,v]⟩ 354 (0,0)),.arr v 5 1 s.length (u8s s)]) Z<|C6 2 [0,1] Z<|Px [(1,3)] Z fun R c=>Pa U6<|D.call (qL _ b q v e) Z (.inr dc_) U6 (LR _) fl_ fun h _ i _ f=>Pd [0,1] c Z ?_;subst f;refine Po (L':=[.obj b (.cells ⟨[.pointer (some ⟨b,0,none⟩),v]⟩ 354 (0,0)),.arr v 5 1 s.length (u8s s)]) Z<|O7 4 Z fun R c=>Pe (.head _) U9<|Pa U6<|Ry (j:=1) Z Z Z Z Z Z Z Z Z Z Z Z Z Z Z om_ fl_ fun A2 n2 c2=>Pc 2 Z<|Pg (j:=1) U12<|Pd [1] c Z<|C6 4 [4,5] Z<|G.perm (L':=[.obj b (.cells ⟨[.pointer (some ⟨b,0,none⟩),.slice A2 n2 c2]⟩ 354 (0,0)),.arr (.slice A2 n2 c2) 5 1 (s.length+t.length) (u8s s++t.map fun b=>Value.int .u8 b.toNat)]) (LR _)<|Pl (PE U3 ?_);exact ⟨.slice A2 n2 c2,by simp [Js,u8s]⟩
theorem AD (C:Mem)(b:Nat)(q:Option Addr)(v:Value)(s:Str)(a:s≠[])(g:s.length<=1000000000):Jog.Fn cx.P 257 [K3 b] C [Jr b q v,Js v s] fun u _ c=>u=al s/\c=[]:=by
 refine Ph func257 14 U3 fun w0=>Po (L':=[.obj b (.cells ⟨[.pointer q,v]⟩ 354 (0,0)),.arr v 5 1 s.length (u8s s)]) Z<|G.form (.tail _ (.head _)) (fun d h=>?_);have i:=MD.2 a;rcases d with ⟨h1,h2⟩ | ⟨g0,c0,rfl,k,l⟩
 ·omega
 exact C6 1 [0] Z<|Pv [0,1,2,3,4,5,6,7,8,9,10,11] [(4,0)] Z kr_ fun R m f=>Pc 3 Z<|Pe (.head _) U9<|Rt Z Z Z Z Z om_ Z Z<|Pc 3 Z<|Pe (.head _) U9<|Pa U6<|Rs (j:=1) (e:=5) Z Z Z Z kr_ kr_ Z Z Z a om_ fl_<|C4 1 [2] f Z<|Pf U2<|⟨Z,Z⟩
def bX (x:Nat):List Value:=[.int .u64 x]
theorem dK (x:Nat):(bX x).length=1:=rfl
def NineC (C:Mem)(v:Value)(n:Nat):Prop:=∃ l,vn l/\bj l=n/\Sl C 1 v (l.map bX)
theorem NineC.mono {C D:Mem}{v:Value}{n:Nat}(h:NineC C v n)(a:C.le D):NineC D v n:=by
 obtain ⟨l,h1,h2,h3⟩:=h;exact ⟨l,h1,h2,h3.mono a⟩
theorem NineC.m_ {C D:Mem}{v:Value}(h:NineC C v n)(a:C.le D:=by exact mup):NineC D v n:=NineC.mono h a
theorem xk (C:Mem)(v:Value)(l:List Nat)(d:Sl C 1 v (l.map bX)):Pur cx.P 252 [v] C fun u C'=>Sl C' 1 u ((AZ l).map bX):=by
 obtain ⟨o,c0,rfl,p,_⟩:=id d;simp only [ax] at d p ⊢;refine Ph func252 21 U3 fun w0=>C6 1 [0] Z<|G.loop (fun fr C' q r=>∃ (k:Nat)(A:Option Addr)(c:Nat),(k<=l.length/\Sl C' 1 (.slice A k c) ((l.take k).map bX)/\lq l l.length=lq l k)/\fr=[(0,[],.slice A k c)]/\q=[]/\r=k+1) (hn_ [0] Z) ⟨l.length,o,c0,⟨LP _,by rw [Mb];exact d,Z⟩,Z,Z,Z⟩ (fun fr F H m _ s=>?_);obtain ⟨k,A,c,⟨I,hs,g⟩,rfl,rfl,rfl⟩:=s;obtain ⟨_,J,t,w,_⟩:=id hs;have K:maxLen<=9223372036854775807:=by simp [maxLen]
 have L:k<=c:=by
  rw [ax,Mv] at w;injection t with h1 h2 h3;omega
 have x:0<k->((l.take k).map bX)[((k:Int)-1).toNat]?=some (bX (g9 l (k-1))):=fun h=>by
  rw [show ((k:Int)-1).toNat=k-1 by omega,LU,Mz,aI om_,aj (by omega:k-1<l.length)];unfold g9;rw [ak,aj (by omega:k-1<l.length)];rfl
 refine O7 7 Z fun R f=>Pi _ U7<|D.index U10 (fun i=>⟨hs,(by have h:decide ((0:Int)<(k:Int))=true:=i.1;simp at h;omega),x (by have h:decide ((0:Int)<(k:Int))=true:=i.1;simp at h;omega)⟩) fl_ Z fun M y=>PC U6 y U3<|Pa U6<|Pz U8<|Pd [0,14] f Z<|O9 (fun b=>?_) fun b=>?_
 ·have a:0<k/\g9 l (k-1)=0:=by
   have:(0:Int)<(k:Int)/\((g9 l (k-1):Nat):Int)=0:=by simpa using b
   omega
  refine O7 3 Z fun R f=>PN (((k-1:Nat):Int)) U4 om_ om_ om_ U2<|PX 0 (k-1) c U12 (fun _=>⟨.inl ⟨Z,Z⟩,.inr ⟨_,Z⟩,.inl ⟨Z,Z⟩,by omega,by omega,LP _⟩) U2<|C4 1 [0] f Z ?_;have n:=Sl.sub hs (l:=0) (h:=k-1) (m:=c) (LV _) (by simp;omega) om_ (LP _);have z:(((l.take k).map bX).take (k-1)).drop 0=(l.take (k-1)).map bX:=by
   rw [NB,<- O2,OV,NI om_]
  rw [z] at n;have B:lq l l.length=lq l (k-1):=by
   rw [g];obtain ⟨j,rfl⟩:∃ j,k=j+1:=⟨k-1,by omega⟩;simp only [N7] at a ⊢;rw [lq,aI];unfold g9 at a;rw [ak,aj om_] at a;rw [aj om_];exact congrArg some a.2
  refine Pk (m':=k-1+1) om_ mup (hn_ [0] Z) ⟨k-1,_,c,⟨by omega,n.mono mup,B⟩,Z,Z,Z⟩
 ·have a:¬ (0<k/\g9 l (k-1)=0):=fun E=>by
   have h1:(decide ((0:Int)<(k:Int)) && (((g9 l (k-1):Nat):Int) == 0))=true:=by
    rw [E.2];simp;omega
   rw [h1] at b;cases b
  refine C6 2 [2] Z<|Pf U2<|⟨Z, ?_⟩;have e:lq l k=k:=by
   cases k with
   | zero=>rfl
   | succ j =>
    simp only [N7] at a;rw [lq,aC];intro h;refine a ⟨by omega, ?_⟩;unfold g9;rw [ak,h];rfl
  unfold AZ;rw [g,e];exact hs
theorem fL (C:Mem)(v:Value)(l:List Nat)(a:l.length=n):Jog.Fn cx.P 252 [v] C [.arr v 160 1 n (l.map bX).flatten] fun u C' b=>b=[]/\Sl C' 1 u ((AZ l).map bX) :=
 Jog.Fn.give (l.map bX) kr_ (by intro r hr;obtain ⟨y,_,rfl⟩:=L4.1 hr;rfl) (by rw [ax,a]) (fun C' _ hs=>xk C' v l hs)
def iQ (m n:Nat):Int:=if m<n then -1 else if n<m then 1 else 0
theorem io :iQ m n<0 ↔ m<n:=by unfold iQ;split <;> (try split) <;> omega
theorem CM :0<iQ m n ↔ n<m:=by unfold iQ;split <;> (try split) <;> omega
theorem CL (C:Mem)(w z:Value)(a b:List Nat)(d:Sl C 1 w (a.map bX))(f:Sl C 1 z (b.map bX))(n:vn a)(o:vn b):Gives cx.P 217 [w,z] C (.int .i64 (iQ (bj a) (bj b))):=by
 have Y:maxLen<=9223372036854775807:=by simp [maxLen]
 obtain ⟨F,c0,rfl,H,aa,_⟩:=id d;obtain ⟨I,J,rfl,K,ab,_⟩:=id f;simp only [ax] at d f H K ⊢;refine Ph func217 41 U3 fun w0=>C6 1 [0,1] Z<|C6 5 [0,1,10] Z<|O9 (fun g=>?_) fun g=>?_
 ·have ac:a.length≠b.length:=fun e=>by
   rw [e] at g;simp at g
  refine C6 5 [15] Z<|O9 (fun p=>?_) fun p=>?_
  ·have q:a.length<b.length:=by
    have:(a.length:Int)<b.length:=by simpa using p
    omega
   exact C6 1 [4] Z<|Pf U2<|⟨by rw [show iQ (bj a) (bj b)=-1 from aI (sb n.1 o q)],Z⟩
  ·have q:b.length<a.length:=by
    have:¬ (a.length:Int)<b.length:=by simpa using p
    omega
   have r:=sb o.1 n q;exact C6 1 [4] Z<|Pf U2<|⟨by rw [show iQ (bj a) (bj b)=1 from by unfold iQ;rw [aC om_,aI r]],Z⟩
 ·have s:a.length=b.length:=by
   have:(a.length:Int)=b.length:=by simpa using g
   omega
  refine O7 2 Z fun R c=>Pi _ U7<|C4 1 [0,1,5] c Z<|G.loop (fun fr C' L M=>∃ (k:Nat),(k<=a.length/\a.drop k=b.drop k)/\fr=[(0,[],.slice F a.length c0),(1,[],.slice I b.length J),(5,[],.int .i64 ((k:Int)-1))]/\L=[]/\M=k+1) (hn_ [0,1,5] Z) ⟨a.length,⟨LP _,by rw [Nm,s,Nm]⟩,Z,Z,Z⟩ (fun fr ad ae m _ N=>?_);obtain ⟨k,⟨hk,i⟩,rfl,rfl,rfl⟩:=N;refine C6 2 [0,1,5,20] Z<|O9 (fun t=>?_) fun t=>?_
  ·have A:0<k:=by
    have:(0:Int)<=(k:Int)-1:=by simpa using t
    omega
   obtain ⟨j,rfl⟩:∃ j,k=j+1:=⟨k-1,by omega⟩;obtain ⟨x,l⟩:∃ x,a[j]?=some x:=⟨a[j],aj om_⟩;obtain ⟨y,hy⟩:∃ y,b[j]?=some y:=⟨b[j],aj om_⟩;have B:(a.map bX)[(((j+1:Nat):Int)-1).toNat]?=some (bX x):=by
    rw [show (((j+1:Nat):Int)-1).toNat=j by omega,LU,l];rfl
   have D:(b.map bX)[(((j+1:Nat):Int)-1).toNat]?=some (bX y):=by
    rw [show (((j+1:Nat):Int)-1).toNat=j by omega,LU,hy];rfl
   refine Pv [0,1,2,3,4,5,6,7,8] [] Z kr_ fun R O c=>Pc 2 Z<|Pm d.m_ U10 om_ B fl_ fun af Q=>O8 Q U8<|Pc 2 Z<|Pm f.m_ U10 om_ D fl_ fun ag S=>O8 S U8<|C4 1 [0,1,5,31] c Z<|O9 (fun u=>?_) fun u=>?_
   ·have E:x≠y:=fun h=>by
     subst h;simp at u
    refine Pv [0,1,2,3,4,5,6,7,8] [] Z kr_ fun R O c=>Pc 2 Z<|Pm d.m_ U10 om_ B fl_ fun ah T=>O8 T U8<|Pc 2 Z<|Pm f.m_ U10 om_ D fl_ fun ai U=>O8 U U8<|C4 1 [40] c Z<|O9 (fun v=>?_) fun v=>?_
    ·have E:x<y:=by
      have:(x:Int)<y:=by simpa using v
      omega
     exact C6 1 [4] Z<|Pf U2<|⟨by rw [show iQ (bj a) (bj b)=-1 from aI (HM n.1 s l hy E i)],Z⟩
    ·have V:y<x:=by
      have:¬ (x:Int)<y:=by simpa using v
      omega
     have r:=HM o.1 s.symm hy l V i.symm;exact C6 1 [4] Z<|Pf U2<|⟨by rw [show iQ (bj a) (bj b)=1 from by unfold iQ;rw [aC om_,aI r]],Z⟩
   ·have W:x=y:=by
     have:(x:Int)=y:=by simpa using u
     omega
    refine O7 1 Z fun R c=>Pi _ U7<|C4 1 [0,1,5] c Z ?_;rw [show ((j+1:Nat):Int)-1-1=(j:Int)-1 by omega];refine Pk (m':=j+1) om_ mup (hn_ [0,1,5] Z) ⟨j,⟨by omega,by
     rw [MB (by omega:j<a.length),MB (by omega:j<b.length),i,(aX.1 l).2,(aX.1 hy).2,W]⟩,rfl,rfl,rfl⟩
  ·have A:k=0:=by
    have:¬ (0:Int)<=(k:Int)-1:=by simpa using t
    omega
   subst A;refine C6 1 [4] Z<|Pf U2 ?_;have X:a=b:=by simpa using i
   subst X;exact ⟨by rw [show iQ (bj a) (bj a)=0 from by unfold iQ;rw [aC om_,aC om_]],Z⟩
end Go.Proofs.YthnpijdjlddpmaaGreatDoor
