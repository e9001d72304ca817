/- Laws that the proofs of this seat share, part 12. -/
import Derived.Test.YthnpijdjlddpmaaGreatDoorG11
import Derived.Test.YthnpijdjlddpmaaGreatDoorShelf
set_option maxHeartbeats 4000000
namespace Go.Proofs.YthnpijdjlddpmaaGreatDoor
open Go.Proofs.Tryz
open Go Go.Jog
set_option maxRecDepth 100000
variable {C:Mem}{F N b:Nat}{cc:Nat->Rat}{i j:Nat}{k:Rat}{l:Lp.Line}{m n:Nat}{o:Int}{ob:List Rat}{p:Lp.Sys}{q:Nat->Prop}{r:Nat}{rs:List (List Rat × Rat)}{s:Nat}{t:Lp.Tab}{vs:List Nat}{w wB:Value}{wF:Nat->Value}{wL wO wW wy:Value}
def cN (t:Lp.Tab)(wF:Nat->Value):List (Rat × Value):=(List.range t.basic.length).map fun i=>((t.line i).c,wF i)
theorem fB :(cN t wF).length=t.basic.length:=by simp [cN]
theorem nQ (h:i<t.basic.length):(cN t wF)[i]?=some ((t.line i).c,wF i):=by
 unfold cN;rw [Qg,QR h];rfl
def K7 (t:Lp.Tab)(wF:Nat->Value)(i:Nat):Lent:=.arr (wF i) t.others.length 1 56 ((t.line i).f.map aW)
def eY (b n:Nat)(t:Lp.Tab)(wB wL wO wW:Value)(wF:Nat->Value):List Lent :=
 .obj b [.int .i64 n,wB,wL,wO,ah (qtx t.worth.c),wW] 212::.arr wB t.basic.length 1 3 (t.basic.map aN)::.arr wL t.basic.length 2 209 ((cN t wF).map bE)
  :: .arr wO t.others.length 1 3 (t.others.map aN)::.arr wW t.others.length 1 56 (t.worth.f.map aW)::(List.range t.basic.length).map (K7 t wF)
theorem gZ (a:t.Ok N)(h:i<t.basic.length):(t.line i).f.length=t.others.length:=a.fl _ (Lp.line_mem a h)
theorem dJ {l:List Rat}:∀ r∈l.map aW,r.length=1:=fun r hr=>by
 obtain ⟨x,_,rfl⟩:=Qk.1 hr;rfl
theorem uD {l:List Nat}:∀ r∈l.map aN,r.length=1:=fun r hr=>by
 obtain ⟨x,_,rfl⟩:=Qk.1 hr;rfl
theorem fZ (c:t.Ok N):∀ x∈eY b n t wB wL wO wW wF,x.wf:=by
 intro x a;unfold eY at a;simp only [Qp,Qk,Qw] at a;rcases a with rfl | rfl | rfl | rfl | rfl | ⟨i,d,rfl⟩
 ·trivial
 ·exact ⟨by simp,uD⟩
 ·exact ⟨by simp [fB],fun r hr=>by obtain ⟨y,_,rfl⟩:=Qk.1 hr;rfl⟩
 ·exact ⟨by simp,uD⟩
 ·exact ⟨by simp [c.wl],dJ⟩
 exact ⟨by simp [gZ c d],dJ⟩
theorem Eo {b:Type}{f:Lp.Line->Value->b}(a:t.Ok N):List.zipWith f t.lines ((List.range t.basic.length).map wF)=(List.range t.basic.length).map fun i=>f (t.line i) (wF i):=by
 refine List.ext_getElem? fun i=>?_;rw [List.getElem?_zipWith,Qg,Qg];by_cases h:i<t.basic.length
 ·have h2:t.lines[i]?=some (t.line i):=by
   unfold Lp.Tab.line;rw [aw,aj (by rw [a.ll];exact h)];rfl
  rw [h2,QR h];rfl
 rw [Ql (show (List.range t.basic.length).length<=i by simp;omega),Ql (show t.lines.length<=i by rw [a.ll];omega)];rfl
theorem eS (c:t.Ok N)(h:∀ x∈eY b n t wB wL wO wW wF,x.seen C):TabV C b n t wB wL wO wW ((List.range t.basic.length).map wF):=by
 have h1:=h _ (Pz ..);have h2:=h _ (Qm _ (Pz ..));have h3:=h _ (Qm _ (Qm _ (Pz ..)));have h4:=h _ (Qm _ (Qm _ (Qm _ (Pz ..))));have h5:=h _ (Qm _ (Qm _ (Qm _ (Qm _ (Pz ..)))));have j:∀ i,i<t.basic.length->Sl C 1 (wF i) ((t.line i).f.map aW):=fun i a =>
  h (K7 t wF i) (Qm _ (Qm _ (Qm _ (Qm _ (Qm _ (Qk.2 ⟨i,Qw.2 a,rfl⟩))))))
 refine ⟨h1,h2,h4,h5, ?_,by simp [c.ll],fun i l w e g=>?_⟩
 ·rw [Eo c];have d:Sl C 2 wL ((cN t wF).map bE):=h3;unfold cN at d;rw [Q1] at d;exact d
 have a:i<t.lines.length:=(aF.1 e).1;rw [c.ll] at a;rw [Qg,QR a] at g;cases g
 have:t.line i=l:=by unfold Lp.Tab.line;rw [aw,e];rfl
 rw [<- this];exact j i a
theorem Jf (C:Mem)(o:Tabs C)(e m f i n s:Nat)(w g:Value)(d:List (Rat × Value))(a b:List Rat)(c h:Rat)(p:d.length=m)(q:d[i]?=some (c,w))(r:a.length=n)(k:b.length=n)(t:s<n)(v:QB 40 c)(y:∀ x∈a,QB 40 x)(z:QB 40 h)(A:∀ x∈b,QB 40 x) :
  Jog.Fn cx.P 237 [.pointer (some ⟨e,i*2,none⟩),.int .i64 s,.agg ⟨[ah (qtx h),g]⟩] C [.arr g 56 1 n (b.map aW).flatten,.arr (.slice (some ⟨e,0,none⟩) m f) 209 2 m (d.map bE).flatten,.arr w 56 1 n (a.map aW).flatten]
   fun u _ j=>u=.tuple #[]/\j=[.arr g 56 1 n (b.map aW).flatten,.arr (.slice (some ⟨e,0,none⟩) m f) 209 2 m ((d.set i (c+a.getD s 0*h,w)).map bE).flatten,.arr w 56 1 n ((kG a b s (a.getD s 0) n).map aW).flatten]:=by
 have l:Jog.Enters cx.P 237=true:=by kernel_rfl
 refine Fn.perm (L2:=[.arr w 56 1 n (a.map aW).flatten,.arr g 56 1 n (b.map aW).flatten,.arr (.slice (some ⟨e,0,none⟩) m f) 209 2 m (d.map bE).flatten]) (QQ (l₁:=[_,_]) (l₂:=[_]))<|Fn.form l om_ fun D E F=>?_;subst F;refine Fn.perm (QQ (l₁:=[_]) (l₂:=[_,_]))<|(Vz (post:=fun u j=>u=.tuple #[]/\j=[.arr (.slice (some ⟨e,0,none⟩) m f) 209 2 m ((d.set i (c+a.getD s 0*h,_)).map bE).flatten,.arr _ 56 1 n ((kG a b s (a.getD s 0) n).map aW).flatten]) l dJ (by simp [k]) fun C' G H=>MA C' (o.mono G) e m f i D E n s g d a b c h p q r k t H v y z A).mono ?_;rintro u C' j _ ⟨B,rfl,h1,rfl⟩;exact ⟨h1,Z⟩
theorem Jd (C:Mem)(o:Tabs C)(d n s:Nat)(e f g h w i:Value)(a b:List Rat)(c j:Rat)(p:a.length=n)(l:b.length=n)(q:s<n)(r:QB 40 c)(t:∀ x∈a,QB 40 x)(v:QB 40 j)(y:∀ x∈b,QB 40 x) :
  Jog.Fn cx.P 237 [.pointer (some ⟨d,4,none⟩),.int .i64 s,.agg ⟨[ah (qtx j),i]⟩] C [.arr i 56 1 n (b.map aW).flatten,.obj d (.cells ⟨[e,f,g,h,ah (qtx c),w]⟩ 212 (0,0)),.arr w 56 1 n (a.map aW).flatten]
   fun u _ k=>u=.tuple #[]/\k=[.arr i 56 1 n (b.map aW).flatten,.obj d (.cells ⟨[e,f,g,h,ah (qtx (c+a.getD s 0*j)),w]⟩ 212 (0,0)),.arr w 56 1 n ((kG a b s (a.getD s 0) n).map aW).flatten]:=by
 have m:Jog.Enters cx.P 237=true:=by kernel_rfl
 refine Fn.perm (L2:=[.arr w 56 1 n (a.map aW).flatten,.arr i 56 1 n (b.map aW).flatten,.obj d (.cells ⟨[e,f,g,h,ah (qtx c),w]⟩ 212 (0,0))]) (QQ (l₁:=[_,_]) (l₂:=[_]))<|Fn.form m om_ fun A B D=>?_;subst D;refine Fn.perm (QQ (l₁:=[_]) (l₂:=[_,_]))<|(Vz (post:=fun u k=>u=.tuple #[]/\k=[.obj d (.cells ⟨[e,f,g,h,ah (qtx (c+a.getD s 0*j)),_]⟩ 212 (0,0)),.arr _ 56 1 n ((kG a b s (a.getD s 0) n).map aW).flatten]) m dJ (by simp [l]) fun C' E F=>Mz C' (o.mono E) d A B n s e f g h i a b c j p l q F r t v y).mono ?_;rintro u C' k _ ⟨z,rfl,h1,rfl⟩;exact ⟨h1,Z⟩
theorem nB (h:Lp.LeaveR F t s n o):o=-1∨∃ r:Nat,o=r/\r<n/\F<=t.bas r/\(t.line r).g s<0:=by
 cases h with
 | none _=>exact .inl rfl
 | some r h1 h2 h3 _=>exact .inr ⟨r,rfl,h1,h2,h3⟩
theorem FM (a b:Rat):decide (sK a b > 0)=decide (b<a):=by
 unfold sK;rw [QX];split
 ·next h=>exact ⟨fun h2=>absurd h2 dc_,fun h2=>by grind⟩
 split
 ·next h=>exact ⟨fun _=>h,fun _=>by decide⟩
 next h=>exact ⟨fun h2=>absurd h2 dc_,fun h2=>absurd h2 h⟩
theorem FN (a b:Rat):(sK a b == 0)=decide (b=a):=by
 unfold sK;split
 ·next h=>rw [QC (by grind)];rfl
 split
 ·next h=>rw [QC (by grind)];rfl
 next h=>rw [Qr (by grind)];rfl
theorem JM (C:Mem)(T:Tabs C)(b n s N:Nat)(t:Lp.Tab)(wB wL U V:Value)(k:List Value)(h:TabV C b n t wB wL U V k)(W:t.Ok N)(hs:s<t.others.length)(X:∀ i,i<t.basic.length->QB 16 (t.line i).c/\QB 16 ((t.line i).g s)) :
  Pur cx.P 185 [.pointer (some ⟨b,0,none⟩),.int .i64 s] C fun u _=>∃ o:Int,u=.int .i64 o/\Lp.LeaveR n t s t.basic.length o:=by
 obtain ⟨A1,c1,rfl,ax,ay,_⟩:=id h.B;obtain ⟨A2,c2,rfl,az,aA,_⟩:=id h.L;have E:=h.B;have aB:maxLen<=9223372036854775807:=by simp [maxLen]
 have aC:=W.ll;have ad:=h.fl;have aD:(List.zipWith (fun (l:Lp.Line) w=>[ah (qtx l.c),w]) t.lines k).length=t.basic.length:=by simp;omega
 refine Ud func185 85 U3 fun w0=>TT 1 [0,1] Z<|TT 1 [0,1,5] Z<|TT 1 [0,1,5,6] Z<|TU 3 Z fun R a=>TV (PtrTo.blockT (h.m_.o) _ 1) U8<|C4 2 [0,1,5,6,15,16,17] a Z<|G.loop (fun fr C' L' μ=>∃ (i:Nat)(o:Int)(v:Str),(i<=t.basic.length/\Lp.LeaveR n t s i o/\∀ r:Nat,o=r->v=qtx ((t.line r).c / -(t.line r).g s))/\fr=[(0,[],.pointer (some ⟨b,0,none⟩)),(1,[],.int .i64 s),(5,[],.int .i64 o),(6,[],ah v),(15,[],.slice A2 (List.zipWith (fun (l:Lp.Line) w=>[ah (qtx l.c),w]) t.lines k).length c2),(16,[],.int .i64 (List.zipWith (fun (l:Lp.Line) w=>[ah (qtx l.c),w]) t.lines k).length),(17,[],.int .i64 i)]/\L'=[]/\μ=t.basic.length-i) (hn_ [0,1,5,6,15,16,17] Z) ⟨0, -1,[],⟨Qf _,.none fun j hj=>absurd hj (Nat.not_lt_zero _),fun r hr=>by omega⟩,Z,Z,Z⟩ (fun fr aE aF m _ hI=>?_);obtain ⟨i,o,v,⟨hi,f,F⟩,rfl,rfl,rfl⟩:=hI;refine TT 1 [0,1,5,6,15,16,17,18] Z<|TW (fun H=>?_) fun H=>?_
 ·have p:i<t.basic.length:=by
   have:=aJ H;omega
  obtain ⟨z,aG⟩:=lN h W p;obtain ⟨A3,c3,ae,aH,aK,_⟩:=id z;obtain ⟨Y,I⟩:=X i p;have aa:=jI (ls:=t.lines) (ws:=k) (i:=i) om_ ad;rw [ae] at aa z;have ab:(qtx ((t.line i).g s)).length<=1000000:=Qy (bJ I dc_) dc_;refine TU 1 Z fun R a=>Ul h.L.m_ U10 om_ aa fl_ fun aL af=>TV af U8<|Uo U5 fun b8=>TX U6<|Uf (j:=0) U12<|TZ [0,1,5,6,7,8,15,16,17] a Z<|G.freeze 0 Z fun _ _ J=>TU 4 Z fun R a=>TV (PtrTo.blockT (h.m_.o) _ 1) U8<|TX U6<|Ul E.m_ U10 om_ (eZ p) fl_ fun aM ag=>TV ag U8<|Uh (fg _ b n (t.bas i) t _ _ U V k h.m_) U7<|Ua 3 Z<|Ux U6 (fun _=>PtrTo.blockT (Mem.get J mup) _ 1) U3<|TX U6<|D.index U10 (fun hg=>⟨z.mono mup,by omega,dH om_⟩) fl_ Z fun aN ai=>Ux U6 ai U3<|UC (fun _=>(fR _ ((t.line i).g s) ab)) U9<|TX U6<|UB U8<|TZ [0,1,5,6,7,8,15,16,17,40] a Z<|TW (fun K=>?_) fun K=>?_
  ·have d:n<=t.bas i->0<=(t.line i).g s:=by
    intro h1;have d:(!decide (n<=t.bas i) || decide (eJ ((t.line i).g s).num ≥ 0))=true:=K;rw [FD,Qr h1] at d;simpa using d
   refine TY fun R a=>Ue _ U7<|C4 1 [0,1,5,6,15,16,17] a Z<|Ug (m':=t.basic.length-(i+1)) om_ mup (hn_ [0,1,5,6,15,16,17] Z) ⟨i+1,o,v,⟨by omega,f.no d,F⟩,Z,Z,Z⟩
  have d:n<=t.bas i/\(t.line i).g s<0:=by
   have d:(!decide (n<=t.bas i) || decide (eJ ((t.line i).g s).num ≥ 0))=false:=K;rw [FD] at d;simp only [RH,Bool.not_eq_false',Qj,Qz] at d;exact ⟨d.1,by have:=d.2;grind⟩
  have ac:-(t.line i).g s≠0:=by have:=d.2;grind
  have aj:=jp Y (eW I) ac;refine Ur [0,1,2,3,4,5,6,7,8,9,10,11,12,13] [(7,1),(8,1)] Z kr_ fun R hB a=>TX U6<|TV (bkT J 1) U8<|TX U6<|TV (bkT J 1) U8<|TX U6<|Ul z.m_ U10 om_ (dH om_) fl_ fun aO ak=>TV ak U8<|UC (fun _=>(eL _ ((t.line i).g s) ab)) U9<|Us (fun _=>(gQ _ T.m_ (t.line i).c (-(t.line i).g s) 16 dc_ dc_ Y (eW I) ac)) U9<|C4 5 [0,1,5,6,7,9,15,16,17] a Z<|TT 1 [0,1,5,6,7,9,15,16,17] Z<|TT 2 [0,1,5,6,7,9,15,16,17,54] Z<|TW (fun M=>?_) fun M=>?_
  ·have al:0<=o:=by simpa using aJ M
   obtain ⟨r,O,aP,aQ,aR⟩:=(nB f).resolve_left om_;obtain ⟨am,an⟩:=X r om_;have ao:-(t.line r).g s≠0:=by grind
   have ap:=jp am (eW an) ao;have aq:=F r O;rw [O] at f;subst O;subst aq;obtain ⟨x,A⟩:∃ x,(t.line i).c / -(t.line i).g s=x:=⟨_,rfl⟩;obtain ⟨y,hy⟩:∃ y,(t.line r).c / -(t.line r).g s=y:=⟨_,rfl⟩;refine TU 2 Z fun R a=>Uk (gR _ T.m_ _ _ 32 dc_ dc_ aj ap) U7 fl_<|C4 1 [0,1,5,6,7,9,11,15,16,17] a Z<|Ur [0,1,2,3,4,5,6,7,8,9,10,11,12,13,14,15,16,17,18,19,20,21,22] [] Z kr_ fun R hB a=>Ua 9 Z<|Ux U6 (fun _=>PtrTo.blockT (h.m_.o) _ 1) U3<|TX U6<|D.index U10 (fun hg=>⟨E.mono mup,by omega,eZ p⟩) fl_ Z fun aS ar=>Ux U6 ar U3<|Ua 3 Z<|Ux U6 (fun _=>PtrTo.blockT (h.m_.o) _ 1) U3<|TX U6<|D.index U10 (fun hg=>⟨E.mono mup,by omega,by rw [RW];exact eZ om_⟩) fl_ Z fun aT au=>Ux U6 au U3<|TX U6<|Uu U8<|UB U8<|TZ [0,1,5,6,7,9,15,16,17,80] a Z<|TW (fun Q=>?_) fun Q=>?_
   ·have e:y<x∨y=x/\t.bas r<t.bas i:=by
     have e:(decide (sK ((t.line i).c / -(t.line i).g s) ((t.line r).c / -(t.line r).g s) > 0) || (sK ((t.line i).c / -(t.line i).g s) ((t.line r).c / -(t.line r).g s) == 0 && decide ((t.bas i:Int) > (t.bas r:Int))))=true:=Q;rw [A,hy,FM,FN] at e;simp only [RR,Qn,Qj] at e;rcases e with h1 | ⟨h1,h2⟩
     ·exact .inl h1
     exact .inr ⟨h1,by omega⟩
    have q:=f.keep (by rw [A,hy];exact e.elim .inl (fun h1=>.inr ⟨h1.1,by have:=h1.2;omega⟩));refine TY fun R a=>Ue _ U7<|C4 1 [0,1,5,6,15,16,17] a Z<|Ug (m':=t.basic.length-(i+1)) om_ mup (hn_ [0,1,5,6,15,16,17] Z) ⟨i+1,(r:Int),qtx ((t.line r).c / -(t.line r).g s),⟨by omega,q,F⟩,Z,Z,Z⟩
   have e:x<y∨x=y/\t.bas i<=t.bas r:=by
    have e:(decide (sK ((t.line i).c / -(t.line i).g s) ((t.line r).c / -(t.line r).g s) > 0) || (sK ((t.line i).c / -(t.line i).g s) ((t.line r).c / -(t.line r).g s) == 0 && decide ((t.bas i:Int) > (t.bas r:Int))))=false:=Q;rw [A,hy,FM,FN] at e;simp only [RH,Tu,Qz] at e;obtain ⟨h1,h2⟩:=e;by_cases h3:x<y
    ·exact .inl h3
    have h4:y=x:=by grind
    rcases h2 with h2 | h2
    ·exact absurd h4 h2
    exact .inr ⟨h4.symm,by omega⟩
   have q:=f.less d.1 d.2 (by rw [A,hy];exact e);refine TT 4 [0,1,5,6,15,16,17] Z<|TY fun R a=>Ue _ U7<|C4 1 [0,1,5,6,15,16,17] a Z<|Ug (m':=t.basic.length-(i+1)) om_ mup (hn_ [0,1,5,6,15,16,17] Z) ⟨i+1,(i:Int),qtx ((t.line i).c / -(t.line i).g s),⟨by omega,q,fun S av=>by rw [show S=i by omega]⟩,Z,Z,Z⟩
  have al:¬ 0<=o:=by simpa using Qe M
  have aw:o=-1:=by
   rcases nB f with h1 | ⟨r,h1,_⟩
   ·exact h1
   omega
  subst aw;have q:=f.first d.1 d.2;refine TT 4 [0,1,5,6,15,16,17] Z<|TY fun R a=>Ue _ U7<|C4 1 [0,1,5,6,15,16,17] a Z<|Ug (m':=t.basic.length-(i+1)) om_ mup (hn_ [0,1,5,6,15,16,17] Z) ⟨i+1,(i:Int),qtx ((t.line i).c / -(t.line i).g s),⟨by omega,q,fun S av=>by rw [show S=i by omega]⟩,Z,Z,Z⟩
 have p:i=t.basic.length:=by
  have:=Qe H;omega
 exact TT 2 [4] Z<|Ub U2<|⟨Z,o,Z,by rw [<- p];exact f⟩
def ryF (t:Lp.Tab)(s n:Nat)(k:Rat)(i:Nat):List Rat:=(List.range n).map fun v=>if v∈t.basic.take i then k*t.dir s v else if v=t.oth s then k else 0
theorem kD :(ryF t s n k i).length=n:=by simp [ryF]
theorem AE {v:Nat}(h:v<n):(ryF t s n k i)[v]?=some (if v∈t.basic.take i then k*t.dir s v else if v=t.oth s then k else 0):=by
 unfold ryF;rw [Qg,QR h];rfl
theorem IZ (h:n<=t.oth s):List.replicate n 0=ryF t s n k 0:=by
 refine List.ext_getElem? fun v=>?_;by_cases a:v<n
 ·rw [AE a,RZ,aU a,List.take_zero,az Rb,az om_]
 rw [Ql ap,Ql (by rw [kD];omega)]
theorem Mo (h:t.oth s<n):(List.replicate n 0).set (t.oth s) k=ryF t s n k 0:=by
 refine List.ext_getElem? fun v=>?_;rw [List.getElem?_set];by_cases a:v<n
 ·rw [AE a,RZ,aU a,List.take_zero,az Rb];by_cases e:t.oth s=v
  ·rw [aU e,aU (by simpa using h),aU e.symm]
  rw [az e,az (fun b=>e b.symm)]
 rw [az om_,Ql ap,Ql (by rw [kD];omega)]
theorem Mn (b:Lp.TabOf p t)(c:s<t.others.length)(h:i<t.basic.length)(d:t.bas i<n):(ryF t s n k i).set (t.bas i) (k*(t.line i).g s)=ryF t s n k (i+1):=by
 refine List.ext_getElem? fun v=>?_;rw [List.getElem?_set,kD];by_cases a:v<n
 ·rw [AE a,AE a,lk h];by_cases e:t.bas i=v
  ·subst e;rw [aU rfl,aU a,aU am,Lp.dir_bas b c h]
  rw [az e];by_cases hm:v∈t.basic.take i
  ·rw [aU hm,aU (by simp [hm])]
  rw [az hm,az (show ¬ v∈t.basic.take i++[t.bas i] by simp [hm];exact fun h2=>e h2.symm)]
 rw [az om_,Ql (by rw [kD];omega),Ql (by rw [kD];omega)]
theorem I0 (h:i<t.basic.length)(a:n<=t.bas i):ryF t s n k i=ryF t s n k (i+1):=by
 refine List.map_congr_left fun v hm=>?_;have b:=Qw.1 hm;rw [lk h];by_cases hm:v∈t.basic.take i
 ·rw [aU hm,aU (by simp [hm])]
 rw [az hm,az (show ¬ v∈t.basic.take i++[t.bas i] by simp [hm];omega)]
theorem Mp (a:Lp.TabOf p t):ryF t s n k t.basic.length=(List.range n).map fun v=>k*t.dir s v:=by
 refine List.map_congr_left fun v _=>?_;rw [Qo];split
 ·rfl
 next h =>
 rw [Lp.dir_oth a h];split <;> grind
def kV (t:Lp.Tab)(s:Nat):Rat:=if 0<t.worth.g s then -1 else 1
theorem OA:qtx (-1)=[45,49]:=by decide +kernel
theorem Oz (C:Mem)(N:Tabs C)(p:Lp.Sys)(b s:Nat)(t:Lp.Tab)(Q S T U:Value)(r:List Value)(h:TabV C b p.n t Q S T U r)(x:Lp.TabOf p t)(I:s<t.others.length)(V:p.n<=1000000)(X:∀ i,i<t.basic.length->QB 16 ((t.line i).g s))(Y:QB 16 (t.worth.g s)) :
  Jog.Fn cx.P 120 [.pointer (some ⟨b,0,none⟩),.int .i64 s] C [] fun u _ c=>∃ g,u=.slice (some ⟨g,0,none⟩) p.n p.n/\c=[.arr u 56 1 p.n (((List.range p.n).map fun v=>kV t s*t.dir s v).map aW).flatten]:=by
 have ok:=x.ok;obtain ⟨A1,J,rfl,aa,aq,_⟩:=id h.B;obtain ⟨A2,c2,rfl,ar,au,_⟩:=id h.L;obtain ⟨A3,c3,rfl,av,aw,_⟩:=id h.O;obtain ⟨A4,c4,rfl,ax,ay,_⟩:=id h.W;have ab:=h.B;have aA:t.basic.length<=J:=by rwa [al] at aa
 have aB:maxLen<=9223372036854775807:=by simp [maxLen]
 have aC:=ok.ll;have ac:=h.fl;have aD:=ok.wl;have ad:QB 16 (kV t s):=by unfold kV;split <;> exact ⟨by decide,by decide⟩
 refine Ud func120 72 U3 fun w0=>TT 1 [0,1] Z<|TT 1 [0,1,5] Z<|TU 4 Z fun R a=>TV (PtrTo.blockT (h.m_.o) _ 1) U8<|TX U6<|Ul h.W.m_ U10 om_ (dH om_) fl_ fun aE ae=>TV ae U8<|Uk (fR _ (t.worth.g s) (Qy (bJ Y dc_) dc_)) U7 fl_<|C4 1 [0,1,5,19] a Z<|G.cut (fun fr C' c f=>(True)/\fr=[(0,[],.pointer (some ⟨b,0,none⟩)),(1,[],.int .i64 s),(5,[],ah (qtx (kV t s)))]/\c=[]) ?_ (fun fr _ aF f _ l=>?_)
 ·refine TW (fun y=>?_) fun y=>?_
  ·have z:kV t s=-1:=by
    have d:0<t.worth.g s:=by
     have d:decide (0<eJ (t.worth.g s).num)=true:=y;rw [tW] at d;exact aJ d
    unfold kV;rw [aU d]
   refine TT 1 [0,1,5] Z<|Uj 0 (Mem.le.refl _) (hn_ [0,1,5] Z) ⟨trivial,by rw [z,OA];rfl,Z⟩
  have z:kV t s=1:=by
   have d:¬ 0<t.worth.g s:=by
    have d:decide (0<eJ (t.worth.g s).num)=false:=y;rw [tW] at d;exact Qe d
   unfold kV;rw [az d]
  refine Uj 0 (Mem.le.refl _) (hn_ [0,1,5] Z) ⟨trivial,by rw [z,qtx1];rfl,Z⟩
 obtain ⟨af,rfl,rfl⟩:=l;refine Uv [(4,3)] Z fun R a=>Ua 3 Z<|TV (PtrTo.blockT (h.m_.o) _ 1) U8<|D.call (iS _ p.n V) Z (.inr dc_) U6 (Qh _) fl_ fun aG _ aH _ ag=>C4 1 [0,1,5,6] a Z ?_;obtain ⟨g,rfl,rfl⟩:=ag;refine Um (L':=[.arr (.slice (some ⟨g,0,none⟩) p.n p.n) 56 1 p.n ((List.replicate p.n (0:Rat)).map aW).flatten]) (by rw [<- tN];rfl)<|TU 3 Z fun R a=>TV (PtrTo.blockT (h.m_.o) _ 1) U8<|TX U6<|Ul h.O.m_ U10 om_ (show (t.others.map aN)[s]?=some (aN (t.oth s)) from eZ I) fl_ fun aK aj=>TV aj U8<|C4 1 [0,1,5,6,7] a Z<|TU 2 Z fun R a=>Uh (fg _ b p.n (t.oth s) t _ _ _ _ r h.m_) U7<|C4 1 [0,1,5,6,7,35] a Z<|G.cut (fun fr C' c f=>(True)/\fr=[(0,[],.pointer (some ⟨b,0,none⟩)),(1,[],.int .i64 s),(5,[],ah (qtx (kV t s))),(6,[],.slice (some ⟨g,0,none⟩) p.n p.n)]/\c=[.arr (.slice (some ⟨g,0,none⟩) p.n p.n) 56 1 p.n ((ryF t s p.n (kV t s) 0).map aW).flatten]) ?_ (fun fr _ aL f _ l=>?_)
 ·refine TW (fun A=>?_) fun A=>?_
  ·have q:t.oth s<p.n:=by
    have q:¬ p.n<=t.oth s:=by simpa using A
    omega
   refine TU 3 Z fun R a=>UA (t.oth s*1) U10 ai U2<|UD (j:=0) U11 (by show t.oth s*1+1<=_;rw [bQ bK,RE];omega)<|TZ [0,1,5,6] a Z<|Um (L':=[.arr (.slice (some ⟨g,0,none⟩) p.n p.n) 56 1 p.n ((ryF t s p.n (kV t s) 0).map aW).flatten]) (by rw [<- Mo q,<- bN bK _ (by rw [RE];exact q)];rfl)<|Uj 0 (Mem.le.refl _) (hn_ [0,1,5,6] Z) ⟨trivial,Z,Z⟩
  have q:p.n<=t.oth s:=by simpa using A
  rw [IZ (k:=kV t s) q];refine Uj 0 (Mem.le.refl _) (hn_ [0,1,5,6] Z) ⟨trivial,Z,Z⟩
 obtain ⟨af,rfl,rfl⟩:=l;refine TU 3 Z fun R a=>TV (PtrTo.blockT (h.m_.o) _ 1) U8<|C4 2 [0,1,5,6,43,44,45] a Z<|G.loop (fun fr C' c f=>∃ (i:Nat),(i<=t.basic.length)/\fr=[(0,[],.pointer (some ⟨b,0,none⟩)),(1,[],.int .i64 s),(5,[],ah (qtx (kV t s))),(6,[],.slice (some ⟨g,0,none⟩) p.n p.n),(43,[],.slice A1 (t.basic.map aN).length J),(44,[],.int .i64 (t.basic.map aN).length),(45,[],.int .i64 i)]/\c=[.arr (.slice (some ⟨g,0,none⟩) p.n p.n) 56 1 p.n ((ryF t s p.n (kV t s) i).map aW).flatten]/\f=t.basic.length-i) (hn_ [0,1,5,6,43,44,45] Z) ⟨0,Qf _,Z,Z,Z⟩ (fun fr aM aO m K l=>?_);obtain ⟨i,hi,rfl,rfl,rfl⟩:=l;refine TT 1 [0,1,5,6,43,44,45,46] Z<|TW (fun E=>?_) fun E=>?_
 ·have e:i<t.basic.length:=by
   have:=aJ E;rw [al] at this;omega
  obtain ⟨F,aP⟩:=lN h ok e;obtain ⟨A5,c5,ak,aQ,aR,_⟩:=id F;have M:=jI (ls:=t.lines) (ws:=r) (i:=i) om_ ac;rw [ak] at M F;refine TU 1 Z fun R a=>Ul ab.m_ U10 om_ (show (t.basic.map aN)[i]?=some (aN (t.bas i)) from eZ e) fl_ fun aS am=>TV am U8<|C4 2 [0,1,5,6,8,9,43,44,45] a Z<|TU 2 Z fun R a=>Uh (fg _ b p.n (t.bas i) t _ _ _ _ r h.m_) U7<|C4 1 [0,1,5,6,8,9,43,44,45,53] a Z<|TW (fun H=>?_) fun H=>?_
  ·have w:t.bas i<p.n:=by
    have aT:¬ p.n<=t.bas i:=by simpa using H
    omega
   refine TU 6 Z fun R a=>TV (PtrTo.blockT (h.m_.o) _ 1) U8<|TX U6<|Ul h.L.m_ U10 om_ M fl_ fun aV an=>Vp an U10 fl_ fun aX ao=>TV ao U8<|TX U6<|Ul F.m_ U10 om_ (dH om_) fl_ fun aY ap=>TV ap U8<|Uk (dR _ N.m_ (kV t s) ((t.line i).g s) 16 dc_ dc_ ad (X i e)) U7 fl_<|UA (t.bas i*1) U10 ai U2<|UD (j:=0) U11 (by show t.bas i*1+1<=_;rw [bQ bK,kD];omega)<|TZ [0,1,5,6,43,44,45] a Z<|TY fun R a=>Ue _ U7<|C4 1 [0,1,5,6,43,44,45] a Z<|Um (L':=[.arr (.slice (some ⟨g,0,none⟩) p.n p.n) 56 1 p.n ((ryF t s p.n (kV t s) (i+1)).map aW).flatten]) (by rw [<- Mn x I e w,<- bN bK _ (by rw [kD];exact w)];rfl)<|Ug (m':=t.basic.length-(i+1)) om_ K (hn_ [0,1,5,6,43,44,45] Z) ⟨i+1,om_,Z,Z,Z⟩
  have w:p.n<=t.bas i:=by simpa using H
  rw [I0 e w];refine TY fun R a=>Ue _ U7<|C4 1 [0,1,5,6,43,44,45] a Z<|Ug (m':=t.basic.length-(i+1)) om_ K (hn_ [0,1,5,6,43,44,45] Z) ⟨i+1,om_,Z,Z,Z⟩
 have e:i=t.basic.length:=by
  have:=Qe E;rw [al] at this;omega
 refine TT 2 [4] Z<|Ui (UK Z Z ?_);exact ⟨g,Z,by rw [e,Mp x]⟩
theorem wo {y:Lp.Line}(a:s<l.f.length):kG l.f y.f s (l.f.getD s 0) l.f.length=(Lp.putL l s y).f/\l.c+l.f.getD s 0*y.c=(Lp.putL l s y).c:=by
 have h:=Fz (c:=l.c) (bc:=y.c) (bf:=y.f) a;exact ⟨(congrArg Lp.Line.f h).symm,(congrArg Lp.Line.c h).symm⟩
theorem Je (C:Mem)(k:Tabs C)(b m e i n s:Nat)(w d:Value)(a:List (Rat × Value))(l y:Lp.Line)(o:a.length=m)(p:a[i]?=some (l.c,w))(g:l.f.length=n)(q:y.f.length=n)(r:s<n)(h:QB 40 l.c/\∀ x∈l.f,QB 40 x)(j:QB 40 y.c/\∀ x∈y.f,QB 40 x) :
  Jog.Fn cx.P 237 [.pointer (some ⟨b,i*2,none⟩),.int .i64 s,.agg ⟨[ah (qtx y.c),d]⟩] C [.arr d 56 1 n (y.f.map aW).flatten,.arr (.slice (some ⟨b,0,none⟩) m e) 209 2 m (a.map bE).flatten,.arr w 56 1 n (l.f.map aW).flatten]
   fun u _ t=>u=.tuple #[]/\t=[.arr d 56 1 n (y.f.map aW).flatten,.arr (.slice (some ⟨b,0,none⟩) m e) 209 2 m ((a.set i ((Lp.putL l s y).c,w)).map bE).flatten,.arr w 56 1 n ((Lp.putL l s y).f.map aW).flatten]:=by
 obtain ⟨h1,h2⟩:=wo (l:=l) (y:=y) (s:=s) om_;rw [<- h1,<- h2,g];exact Jf C k b m e i n s w d a l.f y.f l.c y.c o p g q r h.1 h.2 j.1 j.2
theorem Jc (C:Mem)(m:Tabs C)(a n s:Nat)(d e g h w b:Value)(l y:Lp.Line)(i:l.f.length=n)(o:y.f.length=n)(p:s<n)(j:QB 40 l.c/\∀ x∈l.f,QB 40 x)(k:QB 40 y.c/\∀ x∈y.f,QB 40 x) :
  Jog.Fn cx.P 237 [.pointer (some ⟨a,4,none⟩),.int .i64 s,.agg ⟨[ah (qtx y.c),b]⟩] C [.arr b 56 1 n (y.f.map aW).flatten,.obj a (.cells ⟨[d,e,g,h,ah (qtx l.c),w]⟩ 212 (0,0)),.arr w 56 1 n (l.f.map aW).flatten]
   fun u _ q=>u=.tuple #[]/\q=[.arr b 56 1 n (y.f.map aW).flatten,.obj a (.cells ⟨[d,e,g,h,ah (qtx (Lp.putL l s y).c),w]⟩ 212 (0,0)),.arr w 56 1 n ((Lp.putL l s y).f.map aW).flatten]:=by
 obtain ⟨h1,h2⟩:=wo (l:=l) (y:=y) (s:=s) om_;rw [<- h1,<- h2,i];exact Jd C m a n s d e g h w b l.f y.f l.c y.c i o p j.1 j.2 k.1 k.2
def byF (l:Lp.Line)(s j:Nat):List Rat:=(List.range l.f.length).map fun q=>if q<j then (Lp.byL l s).g q else 0
theorem kS :(byF l s j).length=l.f.length:=by simp [byF]
theorem BZ {q:Nat}(h:q<l.f.length):(byF l s j)[q]?=some (if q<j then (Lp.byL l s).g q else 0):=by
 unfold byF;rw [Qg,QR h];rfl
theorem KE :List.replicate l.f.length 0=byF l s 0:=by
 refine List.ext_getElem? fun v=>?_;by_cases a:v<l.f.length
 ·rw [BZ a,RZ,aU a,az (Nat.not_lt_zero _)]
 rw [Ql ap,Ql (by rw [kS];omega)]
theorem NI (h:j<l.f.length):(byF l s j).set j (-(if j=s then -1 else l.g j) / l.g s)=byF l s (j+1):=by
 refine List.ext_getElem? fun q=>?_;rw [List.getElem?_set,kS];by_cases a:q<l.f.length
 ·rw [BZ a,BZ a];by_cases e:j=q
  ·subst e;rw [aU rfl,aU a,aU (Nat.lt_succ_self j),Lp.byL_g a];congr 1;split <;> grind
  rw [az e];by_cases h1:q<j
  ·rw [aU h1,aU om_]
  rw [az h1,az om_]
 rw [az om_,Ql (by rw [kS];omega),Ql (by rw [kS];omega)]
theorem uX :(Lp.byL l s).f.length=l.f.length:=by simp [Lp.byL]
theorem NJ :byF l s l.f.length=(Lp.byL l s).f:=by
 refine List.ext_getElem? fun q=>?_;by_cases a:q<l.f.length
 ·rw [BZ a,aU a];unfold Lp.Line.g;rw [aw,aj (by rw [uX];exact a)];rfl
 rw [Ql (by rw [kS];omega),Ql (by rw [uX];omega)]
def stL (t:Lp.Tab)(r s i q:Nat):Lp.Line:=if q<i/\q≠r then Lp.putL (t.line q) s (Lp.byL (t.line r) s) else t.line q
def stV (t:Lp.Tab)(wF:Nat->Value)(r s i:Nat):List (Rat × Value):=(List.range t.basic.length).map fun q=>((stL t r s i q).c,wF q)
def stE (t:Lp.Tab)(wF:Nat->Value)(r s i q:Nat):Ent:=.arr (wF q) 56 1 t.others.length ((stL t r s i q).f.map aW).flatten
theorem iN :(stV t wF r s i).length=t.basic.length:=by simp [stV]
theorem Am {q:Nat}(h:q<t.basic.length):(stV t wF r s i)[q]?=some ((stL t r s i q).c,wF q):=by
 unfold stV;rw [Qg,QR h];rfl
theorem tD {q:Nat}:stL t r s 0 q=t.line q:=az fun h=>Nat.not_lt_zero _ h.1
theorem oK {q:Nat}(h:q≠i):stL t r s (i+1) q=stL t r s i q:=by
 unfold stL;by_cases h1:q<i/\q≠r
 ·rw [aU h1,aU ⟨by omega,h1.2⟩]
 rw [az h1,az fun h2=>h1 ⟨by omega,h2.2⟩]
theorem nO (h:i≠r):stL t r s i i=t.line i/\stL t r s (i+1) i=Lp.putL (t.line i) s (Lp.byL (t.line r) s) :=
 ⟨az fun h2=>Nat.lt_irrefl _ h2.1,aU ⟨Nat.lt_succ_self _,h⟩⟩
theorem Aq {q:Nat}:stL t r s (r+1) q=stL t r s r q:=by
 by_cases h:q=r
 ·subst h;unfold stL;rw [az fun h=>h.2 rfl,az fun h=>h.2 rfl]
 exact oK h
theorem Md (b:i<t.basic.length)(h:i≠r):(stV t wF r s i).set i ((Lp.putL (t.line i) s (Lp.byL (t.line r) s)).c,wF i)=stV t wF r s (i+1):=by
 refine List.ext_getElem? fun q=>?_;rw [List.getElem?_set,iN];by_cases a:q<t.basic.length
 ·rw [Am a,Am a];by_cases e:i=q
  ·subst e;rw [aU rfl,aU a,(nO h).2]
  rw [az e,oK (Ne.symm e)]
 rw [az om_,Ql (by rw [iN];omega),Ql (by rw [iN];omega)]
theorem ID :stV t wF r s (r+1)=stV t wF r s r:=by
 unfold stV;simp only [Aq]
theorem IC :stV t wF r s 0=cN t wF:=by
 unfold stV cN;simp only [tD]
theorem Me (d:t.Ok N)(f:r<t.basic.length):(stV t wF r s t.basic.length).set r ((Lp.byL (t.line r) s).c,wy)=cN (t.pivot r s) fun q=>if q=r then wy else wF q:=by
 have b:(t.pivot r s).basic.length=t.basic.length:=Q4;refine List.ext_getElem? fun q=>?_;rw [List.getElem?_set,iN];by_cases a:q<t.basic.length
 ·rw [Am a,nQ (by rw [b];exact a),Lp.pivot_line (by rw [d.ll];exact a)];by_cases e:r=q
  ·subst e;rw [aU rfl,aU a,aU rfl,aU rfl]
  rw [az e,az (Ne.symm e),az (Ne.symm e)];unfold stL;rw [aU ⟨a,Ne.symm e⟩]
 rw [az om_,Ql (by rw [iN];omega),Ql (by rw [fB,b];omega)]
theorem range_nd :(List.range m).Nodup:=List.nodup_range
theorem Mf (b:t.Ok N)(c:r<t.basic.length) :
  (.arr wy 56 1 t.others.length ((Lp.byL (t.line r) s).f.map aW).flatten::((List.range t.basic.length).erase r).map (stE t wF r s t.basic.length)).Perm (((List.range (t.pivot r s).basic.length).map (K7 (t.pivot r s) fun q=>if q=r then wy else wF q)).map Lent.ent):=by
 have g:(t.pivot r s).basic.length=t.basic.length:=Q4;have d:(t.pivot r s).others.length=t.others.length:=Q4;rw [g,Q1];have h0:(Lent.ent ∘ K7 (t.pivot r s) fun q=>if q=r then wy else wF q) r=.arr wy 56 1 t.others.length ((Lp.byL (t.line r) s).f.map aW).flatten:=by
  show Ent.arr (if r=r then wy else wF r) _ 1 (t.pivot r s).others.length _=_;rw [aU rfl,d,Lp.pivot_line (by rw [b.ll];exact c),aU rfl]
 have h1:=lK range_nd (Qw.2 c) (Lent.ent ∘ K7 (t.pivot r s) fun q=>if q=r then wy else wF q) (stE t wF r s t.basic.length) (fun q h a=>by
  have e:=Qw.1 h;show Ent.arr (if q=r then wy else wF q) _ 1 (t.pivot r s).others.length _=_;rw [az a,d,Lp.pivot_line (by rw [b.ll];exact e),az a];unfold stE stL;rw [aU ⟨e,a⟩])
 rw [h0] at h1;exact h1.symm
theorem Mc (a:t.Ok N)(d:r<t.basic.length) :
  (([.obj b (.cells ⟨[.int .i64 n,wB,wL,wO,ah (qtx (Lp.putL t.worth s (Lp.byL (t.line r) s)).c),wW]⟩ 212 (0,0)),.arr wB 3 1 t.basic.length ((t.basic.set r (t.oth s)).map aN).flatten,.arr wL 209 2 t.basic.length (((stV t wF r s t.basic.length).set r ((Lp.byL (t.line r) s).c,wy)).map bE).flatten,.arr wO 3 1 t.others.length ((t.others.set s (t.bas r)).map aN).flatten,.arr wW 56 1 t.others.length (((Lp.putL t.worth s (Lp.byL (t.line r) s)).f).map aW).flatten]:List Ent)++(.arr wy 56 1 t.others.length ((Lp.byL (t.line r) s).f.map aW).flatten::((List.range t.basic.length).erase r).map (stE t wF r s t.basic.length))).Perm ((eY b n (t.pivot r s) wB wL wO wW fun q=>if q=r then wy else wF q).map Lent.ent):=by
 have e:(t.pivot r s).basic.length=t.basic.length:=Q4;have g:(t.pivot r s).others.length=t.others.length:=Q4;rw [Me a d];refine (List.Perm.append_left _ (Mf a d)).trans (List.Perm.of_eq ?_);unfold eY;simp only [QO,Lent.ent,e,g];rfl
theorem yr {l:List Nat}(h:i<l.length):l[i]?=some (l.getD i 0):=by
 rw [aw,aj h];rfl
theorem bg (r s:Nat):(eY b n t wB wL wO wW wF).map Lent.ent=[.obj b (.cells ⟨[.int .i64 n,wB,wL,wO,ah (qtx t.worth.c),wW]⟩ 212 (0,0)),.arr wB 3 1 t.basic.length ((t.basic).map aN).flatten,.arr wL 209 2 t.basic.length ((cN t wF).map bE).flatten,.arr wO 3 1 t.others.length ((t.others).map aN).flatten,.arr wW 56 1 t.others.length ((t.worth.f).map aW).flatten]++(List.range t.basic.length).map (stE t wF r s 0):=by
 have e:stE t wF r s 0=Lent.ent ∘ K7 t wF:=funext fun q=>by
  unfold stE;rw [tD];rfl
 rw [e,<- Q1];rfl
def LineQ (k:Nat)(l:Lp.Line):Prop:=QB k l.c/\∀ x∈l.f,QB k x
theorem LineQ.le {k m:Nat}{l:Lp.Line}(h:LineQ k l)(a:k<=m):LineQ m l:=⟨h.1.le a,fun x b=>(h.2 x b).le a⟩
theorem LineQ.g {k:Nat}{l:Lp.Line}(h:LineQ k l){j:Nat}(a:j<l.f.length):QB k (l.g j):=by
 unfold Lp.Line.g;rw [aw,aj a];exact h.2 _ (Q8 _)
theorem P5 (h:LineQ 16 l)(c:s<l.f.length)(a:l.g s≠0):LineQ 32 (Lp.byL l s):=by
 have b:=h.g c;refine ⟨jp (eW h.1) b a,fun x d=>?_⟩;obtain ⟨q,e,rfl⟩:=Qk.1 d;have i:=Qw.1 e;split
 ·exact jp ⟨by decide,by decide⟩ b a
 exact jp (eW (h.g i)) b a
theorem tZ (C:Mem)(Q:Tabs C)(b n r s N:Nat)(t:Lp.Tab)(S T U d:Value)(a:Nat->Value)(V:t.Ok N)(hm:t.basic.length<=1000000)(aQ:t.others.length<=1000000)(B:r<t.basic.length)(W:s<t.others.length)(hk:(t.line r).g s≠0)(hq:∀ i,i<t.basic.length->LineQ 16 (t.line i))(aA:LineQ 16 t.worth) :
  Jog.Fn cx.P 179 [.pointer (some ⟨b,0,none⟩),.int .i64 r,.int .i64 s] C ((eY b n t S T U d a).map Lent.ent) fun u _ A=>u=.tuple #[]/\∃ aB,A=(eY b n (t.pivot r s) S T U d aB).map Lent.ent:=by
 have aR:maxLen<=9223372036854775807:=by simp [maxLen]
 have X:=gZ V B;have aC:=V.wl;have J:=hq r B;have ag:s<(t.line r).f.length:=by omega
 have ar:=J.g ag;have au:=P5 J ag hk;refine Ud func179 123 U3 fun w0=>?_;rw [bg r s];refine Um (L':=[.obj b (.cells ⟨[.int .i64 n,S,T,U,ah (qtx t.worth.c),d]⟩ 212 (0,0)),.arr S 3 1 t.basic.length ((t.basic).map aN).flatten,.arr T 209 2 t.basic.length ((cN t a).map bE).flatten,.arr U 3 1 t.others.length ((t.others).map aN).flatten,.arr d 56 1 t.others.length ((t.worth.f).map aW).flatten]++(List.range t.basic.length).map (stE t a r s 0)) Z<|VN 1 Z om_ (fun o p K=>?_);subst K;refine VN 2 Z om_ (fun k l K=>?_);subst K;refine VN 3 Z om_ (fun w x K=>?_);subst K;refine G.perm (L':=[.arr (a r) 56 1 t.others.length ((t.line r).f.map aW).flatten,.obj b (.cells ⟨[.int .i64 n,.slice (some ⟨o,0,none⟩) t.basic.length p,.slice (some ⟨k,0,none⟩) t.basic.length l,.slice (some ⟨w,0,none⟩) t.others.length x,ah (qtx t.worth.c),d]⟩ 212 (0,0)),.arr (.slice (some ⟨o,0,none⟩) t.basic.length p) 3 1 t.basic.length ((t.basic).map aN).flatten,.arr (.slice (some ⟨k,0,none⟩) t.basic.length l) 209 2 t.basic.length ((cN t a).map bE).flatten,.arr (.slice (some ⟨w,0,none⟩) t.others.length x) 3 1 t.others.length ((t.others).map aN).flatten,.arr d 56 1 t.others.length ((t.worth.f).map aW).flatten]++((List.range t.basic.length).erase r).map (stE t a r s 0)) (by
  have h1:=lK range_nd (Qw.2 B) (stE t a r s 0) (stE t a r s 0) (fun _ _ _=>rfl);refine (List.Perm.append_left _ h1).trans ?_;have e:stE t a r s 0 r=.arr (a r) 56 1 t.others.length ((t.line r).f.map aW).flatten:=by unfold stE;rw [tD]
  rw [e]
  (exact pkL [5] rfl)) ?_
 refine G.freezeArr 0 ((t.line r).f.map aW) Z Z dJ (by simp [X]) (fun _ _ L=>?_);obtain ⟨Y,c3,av,aD,aS,_⟩:=id L;rw [av] at L;simp only [al] at L aD;have aE:(cN t a)[r]?=some ((t.line r).c,.slice Y (t.line r).f.length c3):=by rw [nQ B,av,al]
 refine TU 3 Z fun R y=>Uc af U9<|TX U6<|UA (r*2) U10 ai U2<|UQ (v:=.agg ⟨[ah (qtx (t.line r).c),.slice Y (t.line r).f.length c3]⟩) ac U6 (fun _=>(by rw [nX aE];rfl)) U2<|Uo U5 fun b6=>Uf (j:=0) U12<|TZ [0,1,2,6] y Z<|G.freeze 0 Z fun _ _ aj=>TU 1 Z fun R y=>TV (bkT aj 1) U8<|TX U6<|Ul L.m_ U10 om_ (dH ag) fl_ fun aT aF=>TV aF U8<|C4 1 [0,1,2,6,7] y Z<|Uv [(5,3)] Z fun R y=>Ua 3 Z<|Uc af U9<|TX U6<|D.call (iS _ t.others.length om_) Z (.inr dc_) U6 (Qh _) fl_ (fun aV _ aX _ aG=>?_);obtain ⟨z,rfl,rfl⟩:=aG;refine Un [ah [],.slice (some ⟨z,0,none⟩) t.others.length t.others.length] U8<|Uo U5 fun E=>Uf (j:=0) U12<|TZ [0,1,2,6,7,8] y Z<|TU 1 Z fun R y=>TV (bkT aj 1) U8<|Uk (eL _ (t.line r).c (Qy (bJ J.1 dc_) dc_)) U7 fl_<|TX U6<|Uk (gQ _ Q.m_ (-(t.line r).c) ((t.line r).g s) 16 dc_ dc_ (eW J.1) ar hk) U7 fl_<|Ua 4 Z<|Uf (j:=0) U12<|TZ [0,1,2,6,7,8] y Z<|TU 1 Z fun R y=>TV (bkT aj 1) U8<|C4 2 [0,1,2,7,8,41,42,43] y Z<|Um (L':=[.obj E (.cells ⟨[ah (qtx (Lp.byL (t.line r) s).c),.slice (some ⟨z,0,none⟩) t.others.length t.others.length]⟩ 209 (0,0)),.arr (.slice (some ⟨z,0,none⟩) t.others.length t.others.length) 56 1 t.others.length ((byF (t.line r) s 0).map aW).flatten,.obj b (.cells ⟨[.int .i64 n,.slice (some ⟨o,0,none⟩) t.basic.length p,.slice (some ⟨k,0,none⟩) t.basic.length l,.slice (some ⟨w,0,none⟩) t.others.length x,ah (qtx t.worth.c),d]⟩ 212 (0,0)),.arr (.slice (some ⟨o,0,none⟩) t.basic.length p) 3 1 t.basic.length ((t.basic).map aN).flatten,.arr (.slice (some ⟨k,0,none⟩) t.basic.length l) 209 2 t.basic.length ((cN t a).map bE).flatten,.arr (.slice (some ⟨w,0,none⟩) t.others.length x) 3 1 t.others.length ((t.others).map aN).flatten,.arr d 56 1 t.others.length ((t.worth.f).map aW).flatten]++((List.range t.basic.length).erase r).map (stE t a r s 0)) (by rw [<- KE,X,<- tN];rfl)<|G.loop (fun fr C' A M=>∃ (j:Nat),(j<=(t.line r).f.length)/\fr=[(0,[],.pointer (some ⟨b,0,none⟩)),(1,[],.int .i64 r),(2,[],.int .i64 s),(7,[],ah (qtx ((t.line r).g s))),(8,[],.pointer (some ⟨E,0,none⟩)),(41,[],.slice Y (t.line r).f.length c3),(42,[],.int .i64 (t.line r).f.length),(43,[],.int .i64 j)]/\A=[.obj E (.cells ⟨[ah (qtx (Lp.byL (t.line r) s).c),.slice (some ⟨z,0,none⟩) t.others.length t.others.length]⟩ 209 (0,0)),.arr (.slice (some ⟨z,0,none⟩) t.others.length t.others.length) 56 1 t.others.length ((byF (t.line r) s j).map aW).flatten,.obj b (.cells ⟨[.int .i64 n,.slice (some ⟨o,0,none⟩) t.basic.length p,.slice (some ⟨k,0,none⟩) t.basic.length l,.slice (some ⟨w,0,none⟩) t.others.length x,ah (qtx t.worth.c),d]⟩ 212 (0,0)),.arr (.slice (some ⟨o,0,none⟩) t.basic.length p) 3 1 t.basic.length ((t.basic).map aN).flatten,.arr (.slice (some ⟨k,0,none⟩) t.basic.length l) 209 2 t.basic.length ((cN t a).map bE).flatten,.arr (.slice (some ⟨w,0,none⟩) t.others.length x) 3 1 t.others.length ((t.others).map aN).flatten,.arr d 56 1 t.others.length ((t.worth.f).map aW).flatten]++((List.range t.basic.length).erase r).map (stE t a r s 0)/\M=(t.line r).f.length-j) (hn_ [0,1,2,7,8,41,42,43] Z) ⟨0,Qf _,Z,Z,Z⟩ (fun fr aY aZ m _ O=>?_);obtain ⟨j,hj,rfl,rfl,rfl⟩:=O;refine TT 1 [0,1,2,7,8,41,42,43,44] Z<|TW (fun ak=>?_) fun ak=>?_
 ·have I:j<(t.line r).f.length:=by
   have:=aJ ak;omega
  have aw:QB 16 (if j=s then (-1:Rat) else (t.line r).g j):=by
   split
   ·exact ⟨by decide,by decide⟩
   exact J.g I
  refine TU 1 Z fun R y=>Ul L.m_ U10 om_ (show ((t.line r).f.map aW)[j]?=some (aW ((t.line r).g j)) from dH I) fl_ fun a0 aH=>TV aH U8<|C4 2 [0,1,2,7,8,9,10,41,42,43] y Z<|TT 3 [0,1,2,7,8,9,10,41,42,43,50] Z<|G.cut (fun fr C' A M=>(True)/\fr=[(0,[],.pointer (some ⟨b,0,none⟩)),(1,[],.int .i64 r),(2,[],.int .i64 s),(7,[],ah (qtx ((t.line r).g s))),(8,[],.pointer (some ⟨E,0,none⟩)),(9,[],.int .i64 j),(10,[],ah (qtx (if j=s then (-1:Rat) else (t.line r).g j))),(41,[],.slice Y (t.line r).f.length c3),(42,[],.int .i64 (t.line r).f.length),(43,[],.int .i64 j)]/\A=[.obj E (.cells ⟨[ah (qtx (Lp.byL (t.line r) s).c),.slice (some ⟨z,0,none⟩) t.others.length t.others.length]⟩ 209 (0,0)),.arr (.slice (some ⟨z,0,none⟩) t.others.length t.others.length) 56 1 t.others.length ((byF (t.line r) s j).map aW).flatten,.obj b (.cells ⟨[.int .i64 n,.slice (some ⟨o,0,none⟩) t.basic.length p,.slice (some ⟨k,0,none⟩) t.basic.length l,.slice (some ⟨w,0,none⟩) t.others.length x,ah (qtx t.worth.c),d]⟩ 212 (0,0)),.arr (.slice (some ⟨o,0,none⟩) t.basic.length p) 3 1 t.basic.length ((t.basic).map aN).flatten,.arr (.slice (some ⟨k,0,none⟩) t.basic.length l) 209 2 t.basic.length ((cN t a).map bE).flatten,.arr (.slice (some ⟨w,0,none⟩) t.others.length x) 3 1 t.others.length ((t.others).map aN).flatten,.arr d 56 1 t.others.length ((t.worth.f).map aW).flatten]++((List.range t.basic.length).erase r).map (stE t a r s 0)) ?_ (fun fr _ a1 M _ O=>?_)
  ·refine TW (fun am=>?_) fun am=>?_
   ·have an:j=s:=by
     have ab:((j:Int) == (s:Int))=true:=am;have:=eq_of_beq ab;omega
    refine TT 1 [0,1,2,7,8,9,10,41,42,43] Z<|Uj 0 (Mem.le.refl _) (hn_ [0,1,2,7,8,9,10,41,42,43] Z) ⟨trivial,by rw [aU an,OA];rfl,Z⟩
   have an:¬ j=s:=by
    have ab:((j:Int) == (s:Int))=false:=am;intro h;rw [h] at ab;simp at ab
   refine Uj 0 (Mem.le.refl _) (hn_ [0,1,2,7,8,9,10,41,42,43] Z) ⟨trivial,by rw [az an],Z⟩
  obtain ⟨a2,rfl,rfl⟩:=O;refine Ur [0,1,2,3,4,5,6,7,8,9,10,11] [(4,1),(6,1)] Z kr_ fun R hB y=>TX U6<|Uc af U9<|Ua 2 Z<|Us (fun _=>(eL _ (if j=s then (-1:Rat) else (t.line r).g j) (Qy (bJ aw dc_) dc_))) U9<|TX U6<|Us (fun _=>(gQ _ Q.m_ (-(if j=s then (-1:Rat) else (t.line r).g j)) ((t.line r).g s) 16 dc_ dc_ (eW aw) ar hk)) U9<|Ua 3 Z<|UA (j*1) U10 ai U2<|UD (j:=1) U11 (by show j*1+1<=_;rw [bQ bK,kS];omega)<|TZ [0,1,2,7,8,41,42,43] y Z<|TY fun R y=>Ue _ U7<|C4 1 [0,1,2,7,8,41,42,43] y Z<|G.perm (L':=[.obj E (.cells ⟨[ah (qtx (Lp.byL (t.line r) s).c),.slice (some ⟨z,0,none⟩) t.others.length t.others.length]⟩ 209 (0,0)),.arr (.slice (some ⟨z,0,none⟩) t.others.length t.others.length) 56 1 t.others.length ((byF (t.line r) s (j+1)).map aW).flatten,.obj b (.cells ⟨[.int .i64 n,.slice (some ⟨o,0,none⟩) t.basic.length p,.slice (some ⟨k,0,none⟩) t.basic.length l,.slice (some ⟨w,0,none⟩) t.others.length x,ah (qtx t.worth.c),d]⟩ 212 (0,0)),.arr (.slice (some ⟨o,0,none⟩) t.basic.length p) 3 1 t.basic.length ((t.basic).map aN).flatten,.arr (.slice (some ⟨k,0,none⟩) t.basic.length l) 209 2 t.basic.length ((cN t a).map bE).flatten,.arr (.slice (some ⟨w,0,none⟩) t.others.length x) 3 1 t.others.length ((t.others).map aN).flatten,.arr d 56 1 t.others.length ((t.worth.f).map aW).flatten]++((List.range t.basic.length).erase r).map (stE t a r s 0)) (by rw [<- NI I,<- bN bK _ (by rw [kS];exact I)];exact List.Perm.swap _ _ _)<|Ug (m':=(t.line r).f.length-(j+1)) om_ mup (hn_ [0,1,2,7,8,41,42,43] Z) ⟨j+1,om_,Z,Z,Z⟩
 have I:j=(t.line r).f.length:=by
  have:=Qe ak;omega
 rw [I,NJ];refine G.freeze 0 Z fun _ _ ao=>TU 3 Z fun R y=>Uc ae U9<|C4 2 [0,1,2,8,67,68] y Z<|G.perm (L':=[.arr (.slice (some ⟨z,0,none⟩) t.others.length t.others.length) 56 1 t.others.length (((Lp.byL (t.line r) s).f).map aW).flatten,.arr (.slice (some ⟨k,0,none⟩) t.basic.length l) 209 2 t.basic.length ((stV t a r s 0).map bE).flatten,.obj b (.cells ⟨[.int .i64 n,.slice (some ⟨o,0,none⟩) t.basic.length p,.slice (some ⟨k,0,none⟩) t.basic.length l,.slice (some ⟨w,0,none⟩) t.others.length x,ah (qtx t.worth.c),d]⟩ 212 (0,0)),.arr (.slice (some ⟨o,0,none⟩) t.basic.length p) 3 1 t.basic.length ((t.basic).map aN).flatten,.arr (.slice (some ⟨w,0,none⟩) t.others.length x) 3 1 t.others.length ((t.others).map aN).flatten,.arr d 56 1 t.others.length ((t.worth.f).map aW).flatten]++((List.range t.basic.length).erase r).map (stE t a r s 0)) (by rw [IC];(exact pkL [0,2] Z))<|G.loop (fun fr C' A M=>∃ (i:Nat),(i<=t.basic.length)/\fr=[(0,[],.pointer (some ⟨b,0,none⟩)),(1,[],.int .i64 r),(2,[],.int .i64 s),(8,[],.pointer (some ⟨E,0,none⟩)),(67,[],.int .i64 t.basic.length),(68,[],.int .i64 i)]/\A=[.arr (.slice (some ⟨z,0,none⟩) t.others.length t.others.length) 56 1 t.others.length (((Lp.byL (t.line r) s).f).map aW).flatten,.arr (.slice (some ⟨k,0,none⟩) t.basic.length l) 209 2 t.basic.length ((stV t a r s i).map bE).flatten,.obj b (.cells ⟨[.int .i64 n,.slice (some ⟨o,0,none⟩) t.basic.length p,.slice (some ⟨k,0,none⟩) t.basic.length l,.slice (some ⟨w,0,none⟩) t.others.length x,ah (qtx t.worth.c),d]⟩ 212 (0,0)),.arr (.slice (some ⟨o,0,none⟩) t.basic.length p) 3 1 t.basic.length ((t.basic).map aN).flatten,.arr (.slice (some ⟨w,0,none⟩) t.others.length x) 3 1 t.others.length ((t.others).map aN).flatten,.arr d 56 1 t.others.length ((t.worth.f).map aW).flatten]++((List.range t.basic.length).erase r).map (stE t a r s i)/\M=t.basic.length-i) (hn_ [0,1,2,8,67,68] Z) ⟨0,Qf _,Z,Z,Z⟩ (fun fr a3 a4 m _ O=>?_);obtain ⟨i,hi,rfl,rfl,rfl⟩:=O;refine TT 1 [0,1,2,8,67,68,69] Z<|TW (fun ap=>?_) fun ap=>?_
 ·have F:i<t.basic.length:=by
   have:=aJ ap;omega
  refine TT 2 [0,1,2,8,11,67,68] Z<|TT 3 [0,1,2,8,11,67,68,73] Z<|TW (fun aq=>?_) fun aq=>?_
  ·have H:i≠r:=by
    have ad:(!((i:Int) == (r:Int)))=true:=aq;intro h;rw [h] at ad;simp at ad
   have ax:i∈(List.range t.basic.length).erase r:=(List.Nodup.mem_erase_iff range_nd).2 ⟨H,Qw.2 F⟩;have ay:=lK (range_nd.erase r) ax (stE t a r s i) (stE t a r s (i+1)) (fun q _ aK=>by unfold stE;rw [oK aK]);have he:stE t a r s i i=.arr (a i) 56 1 t.others.length ((t.line i).f.map aW).flatten:=by unfold stE;rw [(nO H).1]
   have aL:stE t a r s (i+1) i=.arr (a i) 56 1 t.others.length ((Lp.putL (t.line i) s (Lp.byL (t.line r) s)).f.map aW).flatten:=by unfold stE;rw [(nO H).2]
   have aM:(stV t a r s i)[i]?=some ((t.line i).c,a i):=by rw [Am F,(nO H).1]
   rw [he] at ay;refine G.perm (L':=[.arr (.slice (some ⟨z,0,none⟩) t.others.length t.others.length) 56 1 t.others.length (((Lp.byL (t.line r) s).f).map aW).flatten,.arr (.slice (some ⟨k,0,none⟩) t.basic.length l) 209 2 t.basic.length ((stV t a r s i).map bE).flatten,.arr (a i) 56 1 t.others.length ((t.line i).f.map aW).flatten,.obj b (.cells ⟨[.int .i64 n,.slice (some ⟨o,0,none⟩) t.basic.length p,.slice (some ⟨k,0,none⟩) t.basic.length l,.slice (some ⟨w,0,none⟩) t.others.length x,ah (qtx t.worth.c),d]⟩ 212 (0,0)),.arr (.slice (some ⟨o,0,none⟩) t.basic.length p) 3 1 t.basic.length ((t.basic).map aN).flatten,.arr (.slice (some ⟨w,0,none⟩) t.others.length x) 3 1 t.others.length ((t.others).map aN).flatten,.arr d 56 1 t.others.length ((t.worth.f).map aW).flatten]++(((List.range t.basic.length).erase r).erase i).map (stE t a r s (i+1))) ((List.Perm.append_left _ ay).trans (pkL [0,0,4] Z))<|Ur [0,1,2,3,4,5,6,7,8] [(8,3)] Z kr_ fun R hB y=>Ua 3 Z<|Uc aa U9<|TX U6<|UA (i*2) U10 ai U2<|TX U6<|TV (bkT ao 2) U8<|D.call (Je _ Q.m_ k t.basic.length l i t.others.length s (a i) (.slice (some ⟨z,0,none⟩) t.others.length t.others.length) (stV t a r s i) (t.line i) (Lp.byL (t.line r) s) iN aM (gZ V F) (by rw [uX];exact X) W ((hq i F).le dc_) (au.le dc_)) Z (.inr dc_) U6 (pkL [0,0,0] Z) fl_ fun a5 _ a6 _ aO=>TZ [0,1,2,8,67,68] y Z ?_;obtain ⟨-,rfl⟩:=aO;refine G.perm (L':=[.arr (.slice (some ⟨z,0,none⟩) t.others.length t.others.length) 56 1 t.others.length (((Lp.byL (t.line r) s).f).map aW).flatten,.arr (.slice (some ⟨k,0,none⟩) t.basic.length l) 209 2 t.basic.length ((stV t a r s (i+1)).map bE).flatten,.obj b (.cells ⟨[.int .i64 n,.slice (some ⟨o,0,none⟩) t.basic.length p,.slice (some ⟨k,0,none⟩) t.basic.length l,.slice (some ⟨w,0,none⟩) t.others.length x,ah (qtx t.worth.c),d]⟩ 212 (0,0)),.arr (.slice (some ⟨o,0,none⟩) t.basic.length p) 3 1 t.basic.length ((t.basic).map aN).flatten,.arr (.slice (some ⟨w,0,none⟩) t.others.length x) 3 1 t.others.length ((t.others).map aN).flatten,.arr d 56 1 t.others.length ((t.worth.f).map aW).flatten]++((List.range t.basic.length).erase r).map (stE t a r s (i+1))) (by
    rw [<- Md F H];refine List.Perm.trans (l₂:=[.arr (.slice (some ⟨z,0,none⟩) t.others.length t.others.length) 56 1 t.others.length (((Lp.byL (t.line r) s).f).map aW).flatten,.arr (.slice (some ⟨k,0,none⟩) t.basic.length l) 209 2 t.basic.length (((stV t a r s i).set i ((Lp.putL (t.line i) s (Lp.byL (t.line r) s)).c,a i)).map bE).flatten,.obj b (.cells ⟨[.int .i64 n,.slice (some ⟨o,0,none⟩) t.basic.length p,.slice (some ⟨k,0,none⟩) t.basic.length l,.slice (some ⟨w,0,none⟩) t.others.length x,ah (qtx t.worth.c),d]⟩ 212 (0,0)),.arr (.slice (some ⟨o,0,none⟩) t.basic.length p) 3 1 t.basic.length ((t.basic).map aN).flatten,.arr (.slice (some ⟨w,0,none⟩) t.others.length x) 3 1 t.others.length ((t.others).map aN).flatten,.arr d 56 1 t.others.length ((t.worth.f).map aW).flatten]++(.arr (a i) 56 1 t.others.length ((Lp.putL (t.line i) s (Lp.byL (t.line r) s)).f.map aW).flatten::(((List.range t.basic.length).erase r).erase i).map (stE t a r s (i+1)))) (pkL [0,0,1,1,1,1] Z) (List.Perm.append_left _ ?_);rw [<- aL];exact (lK (range_nd.erase r) ax (stE t a r s (i+1)) (stE t a r s (i+1)) (fun _ _ _=>rfl)).symm) ?_
   refine TY fun R y=>Ue _ U7<|C4 1 [0,1,2,8,67,68] y Z<|Ug (m':=t.basic.length-(i+1)) om_ mup (hn_ [0,1,2,8,67,68] Z) ⟨i+1,om_,Z,Z,Z⟩
  have H:i=r:=by
   have ad:(!((i:Int) == (r:Int)))=false:=aq;simp at ad;omega
  refine Um (L':=[.arr (.slice (some ⟨z,0,none⟩) t.others.length t.others.length) 56 1 t.others.length (((Lp.byL (t.line r) s).f).map aW).flatten,.arr (.slice (some ⟨k,0,none⟩) t.basic.length l) 209 2 t.basic.length ((stV t a r s (i+1)).map bE).flatten,.obj b (.cells ⟨[.int .i64 n,.slice (some ⟨o,0,none⟩) t.basic.length p,.slice (some ⟨k,0,none⟩) t.basic.length l,.slice (some ⟨w,0,none⟩) t.others.length x,ah (qtx t.worth.c),d]⟩ 212 (0,0)),.arr (.slice (some ⟨o,0,none⟩) t.basic.length p) 3 1 t.basic.length ((t.basic).map aN).flatten,.arr (.slice (some ⟨w,0,none⟩) t.others.length x) 3 1 t.others.length ((t.others).map aN).flatten,.arr d 56 1 t.others.length ((t.worth.f).map aW).flatten]++((List.range t.basic.length).erase r).map (stE t a r s (i+1))) (by
   have e:stE t a r s (r+1)=stE t a r s r:=funext fun q=>by unfold stE;rw [Aq]
   rw [H,ID,e]) ?_
  refine TY fun R y=>Ue _ U7<|C4 1 [0,1,2,8,67,68] y Z<|Ug (m':=t.basic.length-(i+1)) om_ mup (hn_ [0,1,2,8,67,68] Z) ⟨i+1,om_,Z,Z,Z⟩
 have F:i=t.basic.length:=by
  have:=Qe ap;omega
 rw [F];refine G.perm (L':=[.arr (.slice (some ⟨z,0,none⟩) t.others.length t.others.length) 56 1 t.others.length (((Lp.byL (t.line r) s).f).map aW).flatten,.obj b (.cells ⟨[.int .i64 n,.slice (some ⟨o,0,none⟩) t.basic.length p,.slice (some ⟨k,0,none⟩) t.basic.length l,.slice (some ⟨w,0,none⟩) t.others.length x,ah (qtx t.worth.c),d]⟩ 212 (0,0)),.arr d 56 1 t.others.length ((t.worth.f).map aW).flatten,.arr (.slice (some ⟨k,0,none⟩) t.basic.length l) 209 2 t.basic.length ((stV t a r s t.basic.length).map bE).flatten,.arr (.slice (some ⟨o,0,none⟩) t.basic.length p) 3 1 t.basic.length ((t.basic).map aN).flatten,.arr (.slice (some ⟨w,0,none⟩) t.others.length x) 3 1 t.others.length ((t.others).map aN).flatten]++((List.range t.basic.length).erase r).map (stE t a r s t.basic.length)) (pkL [0,1,3,0,0,0] Z)<|Ur [0,1,2,3,4,5] [(5,3)] Z kr_ fun R hB y=>Ua 4 Z<|TV (bkT ao 2) U8<|D.call (Jc _ Q.m_ b t.others.length s (.int .i64 n) (.slice (some ⟨o,0,none⟩) t.basic.length p) (.slice (some ⟨k,0,none⟩) t.basic.length l) (.slice (some ⟨w,0,none⟩) t.others.length x) d (.slice (some ⟨z,0,none⟩) t.others.length t.others.length) t.worth (Lp.byL (t.line r) s) aC (by rw [uX];exact X) W (aA.le dc_) (au.le dc_)) Z (.inr dc_) U6 (pkL [0,0,0] Z) fl_ fun a7 _ a8 _ aP=>TZ [0,1,2,8] y Z ?_;obtain ⟨-,rfl⟩:=aP;refine G.perm (L':=[.obj b (.cells ⟨[.int .i64 n,.slice (some ⟨o,0,none⟩) t.basic.length p,.slice (some ⟨k,0,none⟩) t.basic.length l,.slice (some ⟨w,0,none⟩) t.others.length x,ah (qtx (Lp.putL t.worth s (Lp.byL (t.line r) s)).c),d]⟩ 212 (0,0)),.arr (.slice (some ⟨o,0,none⟩) t.basic.length p) 3 1 t.basic.length ((t.basic).map aN).flatten,.arr (.slice (some ⟨k,0,none⟩) t.basic.length l) 209 2 t.basic.length ((stV t a r s t.basic.length).map bE).flatten,.arr (.slice (some ⟨w,0,none⟩) t.others.length x) 3 1 t.others.length ((t.others).map aN).flatten,.arr d 56 1 t.others.length (((Lp.putL t.worth s (Lp.byL (t.line r) s)).f).map aW).flatten,.arr (.slice (some ⟨z,0,none⟩) t.others.length t.others.length) 56 1 t.others.length (((Lp.byL (t.line r) s).f).map aW).flatten]++((List.range t.basic.length).erase r).map (stE t a r s t.basic.length)) (pkL [1,3,2,2,1] Z)<|Ur [0,1,2,3,4,5,6,7] [] Z kr_ fun R hB y=>Ua 3 Z<|Uc af U9<|TX U6<|TV (bkT ao 2) U8<|UA (r*2) U10 ai U2<|UD (j:=2) U11 (by show r*2+2<=_;rw [bQ gC,iN];omega)<|TZ [0,1,2] y Z<|Um (L':=[.arr (.slice (some ⟨k,0,none⟩) t.basic.length l) 209 2 t.basic.length (((stV t a r s t.basic.length).set r ((Lp.byL (t.line r) s).c,.slice (some ⟨z,0,none⟩) t.others.length t.others.length)).map bE).flatten,.obj b (.cells ⟨[.int .i64 n,.slice (some ⟨o,0,none⟩) t.basic.length p,.slice (some ⟨k,0,none⟩) t.basic.length l,.slice (some ⟨w,0,none⟩) t.others.length x,ah (qtx (Lp.putL t.worth s (Lp.byL (t.line r) s)).c),d]⟩ 212 (0,0)),.arr (.slice (some ⟨o,0,none⟩) t.basic.length p) 3 1 t.basic.length ((t.basic).map aN).flatten,.arr (.slice (some ⟨w,0,none⟩) t.others.length x) 3 1 t.others.length ((t.others).map aN).flatten,.arr d 56 1 t.others.length (((Lp.putL t.worth s (Lp.byL (t.line r) s)).f).map aW).flatten,.arr (.slice (some ⟨z,0,none⟩) t.others.length t.others.length) 56 1 t.others.length (((Lp.byL (t.line r) s).f).map aW).flatten]++((List.range t.basic.length).erase r).map (stE t a r s t.basic.length)) (by rw [<- bN gC _ (by rw [iN];exact B)];rfl)<|Ur [0,1,2,3,4,5,6,7,8,9,10,11,12,13,14,15,16,17,18,19,20,21,22,23,24,25,26,27] [] Z kr_ fun R hB y=>Ua 3 Z<|Uc ae U9<|Ua 4 Z<|Uc ae U9<|Ua 4 Z<|Uc ae U9<|TX U6<|UA (s*1) U10 ai U2<|UQ aa U6 (fun _=>(by rw [eB fk (show t.others[s]?=some (t.oth s) from yr W)];rfl)) U2<|Ua 3 Z<|Uc ae U9<|TX U6<|UA (r*1) U10 ai U2<|UQ ac U6 (fun _=>(by rw [eB fk (show t.basic[r]?=some (t.bas r) from yr B)];rfl)) U2<|UA (r*1) U10 ai U2<|UD (j:=2) U11 (by show r*1+1<=_;rw [bQ fk];omega)<|UA (s*1) U10 ai U2<|UD (j:=3) U11 (by show s*1+1<=_;rw [bQ fk];omega)<|Vc [] trivial (y _ _ _ Z ?_);refine G.perm (L':=(eY b n (t.pivot r s) (.slice (some ⟨o,0,none⟩) t.basic.length p) (.slice (some ⟨k,0,none⟩) t.basic.length l) (.slice (some ⟨w,0,none⟩) t.others.length x) d (fun q=>if q=r then (.slice (some ⟨z,0,none⟩) t.others.length t.others.length) else a q)).map Lent.ent) (by
  refine List.Perm.trans ?_ (Mc V B);rw [<- bN fk _ B,<- bN fk _ W]
  (exact pkL [3,1,1,0,0,0] rfl)) ?_
 exact Vh Z<|⟨Z,_,Z⟩
theorem um (h:Lp.Inv p cc t)(b:Lp.Lim p cc 16)(a:i<t.basic.length):LineQ 16 (t.line i):=by
 refine ⟨h.con b a,fun x c=>?_⟩;obtain ⟨s,hs,rfl⟩:=List.mem_iff_getElem.1 c;have d:=gZ h.tab.ok a;have h1:=h.fac b a (s:=s) om_;unfold Lp.Line.g at h1;rw [aw,aj hs] at h1;exact h1
theorem ox (h:Lp.Inv p cc t)(a:Lp.Lim p cc 16):LineQ 16 t.worth:=by
 refine ⟨h.wcon a,fun x b=>?_⟩;obtain ⟨s,hs,rfl⟩:=List.mem_iff_getElem.1 b;have c:=h.tab.ok.wl;have h1:=h.wfac a (s:=s) om_;unfold Lp.Line.g at h1;rw [aw,aj hs] at h1;exact h1
theorem LineQ.g0 {k:Nat}(h:LineQ k l)(a:k<=m)(b:1<=m)(j:Nat):QB m (l.g j):=by
 unfold Lp.Line.g;rw [aw];by_cases c:j<l.f.length
 ·rw [aj c];exact (h.2 _ (Q8 _)).le a
 rw [Ql om_];exact Lp.qb_zero b
theorem mr {c:Nat->Prop}(h:Lp.LeastR vs q n o)(e:∀ i,i<n->(q i ↔ c i)):Lp.LeastR vs c n o:=by
 cases h with
 | none h=>exact .none fun i a b=>h i a ((e i a).2 b)
 | some i a b hm=>exact .some i a ((e i a).1 b) fun j d f=>hm j d ((e j d).2 f)
theorem ia (h:Lp.LeastR vs q n o)(a:¬ o<0):∃ i:Nat,o=i/\i<n/\q i/\∀ j,j<n->q j->vs.getD i 0<=vs.getD j 0:=by
 cases h with
 | none h=>exact absurd dc_ a
 | some i b c hm=>exact ⟨i,rfl,b,c,hm⟩
theorem ib (h:Lp.LeastR vs q n o)(a:o<0):∀ i,i<n->¬ q i:=by
 cases h with
 | none h=>exact h
 | some i b c hm=>omega
section
variable {C:Mem} {a a2 b n N:Nat} {r:Int} {t:Lp.Tab} {wB wL wO wW:Value} {wF:Nat->Value}
theorem Ah (c:t.Ok N):∀ x∈.obj a2 [.int .i64 r] 3::eY b n t wB wL wO wW wF,x.wf:=fun x a=>by
 rcases Qp.1 a with rfl | a
 ·trivial
 exact fZ c x a
theorem GD (d:t.Ok N)(j:C a=some (.cells ⟨[.pointer (some ⟨b,0,none⟩)]⟩ 202 (0,0)))(k:∀ i,i<t.basic.length->LineQ 16 (t.line i)) :
  Jog.Fn cx.P 180 [wB,.func (.func 181) #[] #[.pointer (some ⟨a,0,none⟩)]] C ((.obj a2 [.int .i64 r] 3::eY b n t wB wL wO wW wF).map Lent.ent)
   fun u _ e=>(∃ o:Int,u=.int .i64 o/\Lp.LeastR t.basic (fun i=>n<=t.bas i/\(t.line i).c<0) t.basic.length o)/\e=(.obj a2 [.int .i64 r] 3::eY b n t wB wL wO wW wF).map Lent.ent:=by
 refine Vg kr_ _ (Ah d) fun C' l hs=>?_;have f:=eS d fun x m=>hs x (Qm _ m);refine (nY C' wB t.basic 181 [.pointer (some ⟨a,0,none⟩)] (fun i=>decide (n<=t.bas i) && decide ((t.line i).c<0)) f.B kr_ fun i g D h =>
  Ka D a b n i N t wB wL wO wW _ (f.mono h) d ((l.trans h) _ _ j) g ((k i g).1.le dc_)).mono ?_
 rintro u D e _ ⟨h1,o,rfl,h2⟩;exact ⟨h1,o,Z,mr h2 fun i _=>by simp⟩
theorem GC {r:Nat}(c:t.Ok N)(h:C a=some (.cells ⟨[.pointer (some ⟨b,0,none⟩)]⟩ 202 (0,0)))(j:r<t.basic.length)(k:LineQ 16 (t.line r)) :
  Jog.Fn cx.P 180 [wO,.func (.func 182) #[] #[.pointer (some ⟨a,0,none⟩),.pointer (some ⟨a2,0,none⟩)]] C ((.obj a2 [.int .i64 r] 3::eY b n t wB wL wO wW wF).map Lent.ent)
   fun u _ e=>(∃ o:Int,u=.int .i64 o/\Lp.LeastR t.others (fun i=>n<=t.oth i/\0<(t.line r).g i) t.others.length o)/\e=(.obj a2 [.int .i64 r] 3::eY b n t wB wL wO wW wF).map Lent.ent:=by
 refine Vg kr_ _ (Ah c) fun C' l hs=>?_;have f:=eS c fun x m=>hs x (Qm _ m);have h2:=hs _ (Pz ..);refine (nY C' wO t.others 182 [.pointer (some ⟨a,0,none⟩),.pointer (some ⟨a2,0,none⟩)] (fun i=>decide (n<=t.oth i) && decide (0<(t.line r).g i)) f.O kr_ fun i p D d =>
  J9 D a a2 b n i r N t wB wL wO wW _ (f.mono d) c ((l.trans d) _ _ h) (d _ _ h2) j p (k.g0 dc_ dc_ i)).mono ?_
 rintro u D e _ ⟨h1,o,rfl,h2⟩;exact ⟨h1,o,Z,mr h2 fun i _=>by simp⟩
end
inductive FeasO (p:Lp.Sys) (t:Lp.Tab):Value->Prop where
 | yes:t.Feas p.n->FeasO p t (.tuple #[.int .i64 0,.bool true])
 | no (r:Nat):r<t.basic.length->p.n<=t.bas r->(t.line r).c<0->(∀ s,s<t.others.length->p.n<=t.oth s->(t.line r).g s<=0)->FeasO p t (.tuple #[.int .i64 r,.bool false])
theorem yO (C:Mem)(X:Tabs C)(p:Lp.Sys)(A:Nat->Rat)(b:Nat)(d:Lp.Tab)(e h k l:Value)(B:Nat->Value)(q:Lp.Inv p A d)(a:Lp.Rel p.n d p.n)(S:Lp.Lim p A 16)(Y:p.m<=1000000)(hn:p.n<=1000000) :
  Jog.Fn cx.P 116 [.pointer (some ⟨b,0,none⟩)] C ((eY b p.n d e h k l B).map Lent.ent) fun u _ w=>∃ t wF,Lp.Inv p A t/\Lp.Rel p.n t p.n/\FeasO p t u/\w=(eY b p.n t e h k l wF).map Lent.ent:=by
 have an:maxLen<=9223372036854775807:=by simp [maxLen]
 refine Ud func116 26 U3 fun w0=>?_;refine TY fun R a=>?_;refine Up U6 (fun b1=>?_);refine Uo U5 (fun v=>?_);refine C4 1 [1,2] a Z ?_;clear a R;refine G.freeze 1 Z (fun _ _ x=>?_);refine Um (L':=[.obj v (.cells ⟨[.int .i64 0]⟩ 3 (0,0)),.obj b (.cells ⟨[.int .i64 p.n,e,h,k,ah (qtx d.worth.c),l]⟩ 212 (0,0)),.arr e 3 1 d.basic.length ((d.basic).map aN).flatten,.arr h 209 2 d.basic.length ((cN d B).map bE).flatten,.arr k 3 1 d.others.length ((d.others).map aN).flatten,.arr l 56 1 d.others.length ((d.worth.f).map aW).flatten]++(List.range d.basic.length).map (stE d B 0 0 0)) (by rw [bg 0 0];rfl) ?_;refine G.loop (fun fr C' w μ=>∃ (t:Lp.Tab)(wF:Nat->Value)(o:Int)(E:Nat),(Lp.Inv p A t/\Lp.Rel p.n t p.n/\∀ K,Lp.Reach (Lp.FeasP p.n) t K->K<=E)/\fr=[(1,[],.pointer (some ⟨b1,0,none⟩)),(2,[],.pointer (some ⟨v,0,none⟩))]/\w=[.obj v (.cells ⟨[.int .i64 o]⟩ 3 (0,0)),.obj b (.cells ⟨[.int .i64 p.n,e,h,k,ah (qtx t.worth.c),l]⟩ 212 (0,0)),.arr e 3 1 t.basic.length ((t.basic).map aN).flatten,.arr h 209 2 t.basic.length ((cN t wF).map bE).flatten,.arr k 3 1 t.others.length ((t.others).map aN).flatten,.arr l 56 1 t.others.length ((t.worth.f).map aW).flatten]++(List.range t.basic.length).map (stE t wF 0 0 0)/\μ=E) (hn_ [1,2] Z) ⟨d,B,0,2 ^ (p.n+p.m),⟨q,a,fun K F=>Lp.feas_len q.tab.ok F⟩,Z,Z,Z⟩ (fun fr ao ap m _ q=>?_);obtain ⟨t,wF,o,E,⟨q,a,F⟩,rfl,rfl,rfl⟩:=q;have ok:=q.tab.ok;have aa:t.basic.length<=1000000:=by rw [q.tab.lb];exact Y
 have ab:t.others.length<=1000000:=by rw [q.tab.lo];exact hn
 have H:∀ i,i<t.basic.length->LineQ 16 (t.line i):=fun i y=>um q S y;refine Uv [(5,3)] Z (fun R a=>?_);refine TV (bkT x 1) U8 ?_;refine Ua 2 Z ?_;refine Uc ae U9 ?_;refine TX U6 ?_;refine D.call (GD ok (Mem.get x mup) H) Z (.inr dc_) U6 (show List.Perm _ (((.obj v [.int .i64 o] 3::eY b p.n t e h k l wF).map Lent.ent)++[]) from List.Perm.of_eq (by rw [QA,QO,bg 0 0];rfl)) fl_ (fun aq _ ar _ ac=>?_);obtain ⟨⟨o1,rfl,T⟩,rfl⟩:=ac;refine Uf (j:=0) U12 ?_;refine TZ [1,2] a Z ?_;clear a R;refine Um (L':=[.obj v (.cells ⟨[.int .i64 o1]⟩ 3 (0,0)),.obj b (.cells ⟨[.int .i64 p.n,e,h,k,ah (qtx t.worth.c),l]⟩ 212 (0,0)),.arr e 3 1 t.basic.length ((t.basic).map aN).flatten,.arr h 209 2 t.basic.length ((cN t wF).map bE).flatten,.arr k 3 1 t.others.length ((t.others).map aN).flatten,.arr l 56 1 t.others.length ((t.worth.f).map aW).flatten]++(List.range t.basic.length).map (stE t wF 0 0 0)) (by rw [QA,QO,bg 0 0];rfl) ?_;refine TY fun R a=>?_;refine Uc af U9 ?_;refine C4 1 [1,2,12] a Z ?_;clear a R;refine TW (fun I=>?_) fun I=>?_
 ·have J:o1<0:=aJ I;have L:=ib T J;refine TY fun R a=>?_;refine Uf (j:=0) U12 ?_;refine C4 1 [2,3] a Z ?_;clear a R;refine Ui (V5 0 Z Z Z Z Z Z ?_);exact ⟨t,wF,q,a,.yes (fun i y z=>by have:=L i y;grind),by rw [bg 0 0];rfl⟩
 have J:¬ o1<0:=Qe I;obtain ⟨r,rfl,hr,⟨M,U⟩,ad⟩:=ia T J;refine Uv [(5,3)] Z (fun R a=>?_);refine TV (bkT x 1) U8 ?_;refine Ua 2 Z ?_;refine Uc ae U9 ?_;refine TX U6 ?_;refine D.call (GC ok (Mem.get x mup) hr (H r hr)) Z (.inr dc_) U6 (show List.Perm _ (((.obj v [.int .i64 (r:Nat)] 3::eY b p.n t e h k l wF).map Lent.ent)++[]) from List.Perm.of_eq (by rw [QA,QO,bg 0 0];rfl)) fl_ (fun au _ av _ ag=>?_);refine C4 1 [1,2,4] a Z ?_;clear a R;obtain ⟨⟨o2,rfl,V⟩,rfl⟩:=ag;refine Um (L':=[.obj v (.cells ⟨[.int .i64 (r:Nat)]⟩ 3 (0,0)),.obj b (.cells ⟨[.int .i64 p.n,e,h,k,ah (qtx t.worth.c),l]⟩ 212 (0,0)),.arr e 3 1 t.basic.length ((t.basic).map aN).flatten,.arr h 209 2 t.basic.length ((cN t wF).map bE).flatten,.arr k 3 1 t.others.length ((t.others).map aN).flatten,.arr l 56 1 t.others.length ((t.worth.f).map aW).flatten]++(List.range t.basic.length).map (stE t wF 0 0 0)) (by rw [QA,QO,bg 0 0];rfl) ?_;refine TT 2 [1,2,4,20] Z ?_;refine TW (fun N=>?_) fun N=>?_
 ·have O:o2<0:=aJ N;have L:=ib V O;refine TY fun R a=>?_;refine Uc af U9 ?_;refine Uf (j:=0) U12 ?_;refine C4 1 [2,3] a Z ?_;clear a R;refine Ui (V5 0 Z Z Z Z Z Z ?_);exact ⟨t,wF,q,a,.no r hr M U (fun s hs z=>by have:=L s hs;grind),by rw [bg 0 0];rfl⟩
 have O:¬ o2<0:=Qe N;obtain ⟨s,rfl,hs,⟨ai,aj⟩,ak⟩:=ia V O;have hP:Lp.FeasP p.n t r s:=⟨hr,hs,M,ai,U,fun i y z hc=>ad i y ⟨z,hc⟩,aj,fun j hj z hg=>ak j hj ⟨z,hg⟩⟩;have W:(t.line r).g s≠0:=by grind
 obtain ⟨aw,al⟩:=Lp.Reach.fall hP F;refine Uv [(3,3)] Z (fun R a=>?_);refine TV (bkT x 1) U8 ?_;refine Uc af U9 ?_;refine TX U6 ?_;refine D.call (tZ _ X.m_ b p.n r s (p.n+p.m) t e h k l wF ok aa ab hr hs W H (ox q S)) Z (.inr dc_) U6 (by rw [bg 0 0];exact (List.perm_append_singleton _ _).symm) fl_ (fun ax _ ay _ am=>?_);refine TZ [1,2] a Z ?_;clear a R;obtain ⟨-,Q,rfl⟩:=am;refine G.perm (L':=[.obj v (.cells ⟨[.int .i64 (r:Nat)]⟩ 3 (0,0)),.obj b (.cells ⟨[.int .i64 p.n,e,h,k,ah (qtx (t.pivot r s).worth.c),l]⟩ 212 (0,0)),.arr e 3 1 (t.pivot r s).basic.length (((t.pivot r s).basic).map aN).flatten,.arr h 209 2 (t.pivot r s).basic.length ((cN (t.pivot r s) Q).map bE).flatten,.arr k 3 1 (t.pivot r s).others.length (((t.pivot r s).others).map aN).flatten,.arr l 56 1 (t.pivot r s).others.length (((t.pivot r s).worth.f).map aW).flatten]++(List.range (t.pivot r s).basic.length).map (stE (t.pivot r s) Q 0 0 0)) (by rw [bg 0 0];exact List.perm_append_singleton _ _) ?_;refine Ug (m':=m-1) om_ mup (hn_ [1,2] Z) ⟨t.pivot r s,Q,(r:Int),m-1,⟨q.pivot hr hs W,Lp.rel_pivot ok a hr hs M,al⟩,Z,Z,Z⟩
section
variable {C:Mem} {a b n N:Nat} {t:Lp.Tab} {wB wL wO wW:Value} {wF:Nat->Value}
theorem GB (c:t.Ok N)(h:C a=some (.cells ⟨[.pointer (some ⟨b,0,none⟩)]⟩ 202 (0,0))) :
  Jog.Fn cx.P 180 [wO,.func (.func 183) #[] #[.pointer (some ⟨a,0,none⟩)]] C ((eY b n t wB wL wO wW wF).map Lent.ent)
   fun u _ d=>(∃ o:Int,u=.int .i64 o/\Lp.LeastR t.others (fun i=>¬ n<=t.oth i/\¬ t.worth.g i=0) t.others.length o)/\d=(eY b n t wB wL wO wW wF).map Lent.ent:=by
 refine Vg kr_ _ (fZ c) fun C' j hs=>?_;have e:=eS c hs;refine (nY C' wO t.others 183 [.pointer (some ⟨a,0,none⟩)] (fun i=>!decide (n<=t.oth i) && !decide (t.worth.g i=0)) e.O kr_ fun i k D f =>
  M5 D a b n i N t wB wL wO wW _ (e.mono f) c ((j.trans f) _ _ h) k).mono ?_
 rintro u D d _ ⟨h1,o,rfl,h2⟩;exact ⟨h1,o,Z,mr h2 fun i _=>by simp⟩
theorem GA (c:t.Ok N)(h:C a=some (.cells ⟨[.pointer (some ⟨b,0,none⟩)]⟩ 202 (0,0)))(j:LineQ 16 t.worth) :
  Jog.Fn cx.P 180 [wO,.func (.func 184) #[] #[.pointer (some ⟨a,0,none⟩)]] C ((eY b n t wB wL wO wW wF).map Lent.ent)
   fun u _ d=>(∃ o:Int,u=.int .i64 o/\Lp.LeastR t.others (fun i=>n<=t.oth i/\t.worth.g i<0) t.others.length o)/\d=(eY b n t wB wL wO wW wF).map Lent.ent:=by
 refine Vg kr_ _ (fZ c) fun C' k hs=>?_;have e:=eS c hs;refine (nY C' wO t.others 184 [.pointer (some ⟨a,0,none⟩)] (fun i=>decide (n<=t.oth i) && decide (t.worth.g i<0)) e.O kr_ fun i l D f =>
  M4 D a b n i N t wB wL wO wW _ (e.mono f) c ((k.trans f) _ _ h) l (j.g0 dc_ dc_ i)).mono ?_
 rintro u D d _ ⟨h1,o,rfl,h2⟩;exact ⟨h1,o,Z,mr h2 fun i _=>by simp⟩
theorem Gz {s:Nat}(f:Tabs C)(a:t.Ok N)(d:s<t.others.length)(e:∀ i,i<t.basic.length->LineQ 16 (t.line i)) :
  Jog.Fn cx.P 185 [.pointer (some ⟨b,0,none⟩),.int .i64 s] C ((eY b n t wB wL wO wW wF).map Lent.ent)
   fun u _ h=>(∃ o:Int,u=.int .i64 o/\Lp.LeaveR n t s t.basic.length o)/\h=(eY b n t wB wL wO wW wF).map Lent.ent :=
 Vg kr_ _ (fZ a) fun C' j k=>JM C' (f.mono j) b n s N t wB wL wO wW _ (eS a k) a d fun i c=>⟨(e i c).1,(e i c).g (by rw [gZ a c];exact d)⟩
end
theorem yA (h:Lp.LeaveR F t s n o)(a:o<0):∀ i,i<n->F<=t.bas i->0<=(t.line i).g s:=by
 cases h with
 | none h=>exact h
 | some r _ _ _ _=>omega
theorem yz (h:Lp.LeaveR F t s n o)(a:¬ o<0):∃ r:Nat,o=r/\r<n/\F<=t.bas r/\(t.line r).g s<0 /\
  ∀ i,i<n->F<=t.bas i->(t.line i).g s<0->(t.line r).c / -(t.line r).g s<(t.line i).c / -(t.line i).g s∨(t.line r).c / -(t.line r).g s=(t.line i).c / -(t.line i).g s/\t.bas r<=t.bas i:=by
 cases h with
 | none h=>exact absurd dc_ a
 | some r h1 h2 h3 h4=>exact ⟨r,rfl,h1,h2,h3,h4⟩
inductive MinO (p:Lp.Sys) (t:Lp.Tab):Value->Prop where
 | yes:Lp.RelW p.n t->(∀ s,s<t.others.length->p.n<=t.oth s->0<=t.worth.g s)->MinO p t (.tuple #[.int .i64 0,.bool true])
 | no (s:Nat):s<t.others.length->kV t s*t.worth.g s<0->(∀ i,i<t.basic.length->p.n<=t.bas i->0<=kV t s*(t.line i).g s)->(p.n<=t.oth s->0<=kV t s)->MinO p t (.tuple #[.int .i64 s,.bool false])
theorem yu (C:Mem)(U:Tabs C)(p:Lp.Sys)(F:Nat->Rat)(b:Nat)(a:Lp.Tab)(e k l o:Value)(v:Nat->Value)(q:Lp.Inv p F a)(d:Lp.Rel p.n a p.n)(A:a.Feas p.n)(V:Lp.Lim p F 16)(hm:p.m<=1000000)(hn:p.n<=1000000) :
  Jog.Fn cx.P 118 [.pointer (some ⟨b,0,none⟩)] C ((eY b p.n a e k l o v).map Lent.ent) fun u _ w=>∃ t wF,Lp.Inv p F t/\t.Feas p.n/\MinO p t u/\w=(eY b p.n t e k l o wF).map Lent.ent:=by
 have aw:maxLen<=9223372036854775807:=by simp [maxLen]
 refine Ud func118 32 U3 fun w0=>?_;refine TY fun R d=>?_;refine Up U6 (fun b1=>?_);refine C4 2 [1] d Z ?_;clear d R;refine G.freeze 0 Z (fun _ _ B=>?_);refine Um (L':=[.obj b (.cells ⟨[.int .i64 p.n,e,k,l,ah (qtx a.worth.c),o]⟩ 212 (0,0)),.arr e 3 1 a.basic.length ((a.basic).map aN).flatten,.arr k 209 2 a.basic.length ((cN a v).map bE).flatten,.arr l 3 1 a.others.length ((a.others).map aN).flatten,.arr o 56 1 a.others.length ((a.worth.f).map aW).flatten]++(List.range a.basic.length).map (stE a v 0 0 0)) (by rw [bg 0 0];rfl) ?_;refine Uv [(5,3)] Z (fun R d=>?_);refine TV (bkT B 1) U8 ?_;refine Ua 2 Z ?_;refine Uc af U9 ?_;refine TX U6 ?_;refine D.call (GB q.tab.ok (Mem.get B mup)) Z (.inr dc_) U6 (show List.Perm _ (((eY b p.n a e k l o v).map Lent.ent)++[]) from List.Perm.of_eq (by rw [QA,bg 0 0])) fl_ (fun ax _ ay _ ag=>?_);refine C4 1 [1,2] d Z ?_;clear d R;obtain ⟨⟨W,rfl,X⟩,rfl⟩:=ag;refine Um (L':=[.obj b (.cells ⟨[.int .i64 p.n,e,k,l,ah (qtx a.worth.c),o]⟩ 212 (0,0)),.arr e 3 1 a.basic.length ((a.basic).map aN).flatten,.arr k 209 2 a.basic.length ((cN a v).map bE).flatten,.arr l 3 1 a.others.length ((a.others).map aN).flatten,.arr o 56 1 a.others.length ((a.worth.f).map aW).flatten]++(List.range a.basic.length).map (stE a v 0 0 0)) (by rw [QA,bg 0 0]) ?_;refine TT 2 [1,2,12] Z ?_;refine TW (fun H=>?_) fun H=>?_
 ·have y:¬ W<0:=by
   have:=aJ H;omega
  obtain ⟨s,rfl,hs,⟨I,Y⟩,_⟩:=ia X y;have ai:kV a s*a.worth.g s<0:=by
   unfold kV;split <;> grind
  refine TT 3 [2,3] Z ?_;refine Ui (Uw U3 ?_);refine ⟨a,v,q,A,.no s hs ai (fun i z x=>?_) (fun h=>absurd h I),by rw [bg 0 0]⟩;rw [d s (by rw [<- q.tab.lo];exact hs) hs om_ i z x,Rat.mul_zero];exact Rat.le_refl
 have y:W<0:=by
  have:=Qe H;omega
 have E:=ib X y;have aj:Lp.RelW p.n a:=fun s hs aA=>by
  have:=E s hs;have h2:¬ p.n<=a.oth s:=by omega
  grind
 refine G.loop (fun fr C' w μ=>∃ (t:Lp.Tab)(wF:Nat->Value)(J:Nat),(Lp.Inv p F t/\Lp.Rel p.n t p.n/\t.Feas p.n/\Lp.RelW p.n t/\∀ K,Lp.Reach (Lp.MinP p.n) t K->K<=J)/\fr=[(1,[],.pointer (some ⟨b1,0,none⟩))]/\w=[.obj b (.cells ⟨[.int .i64 p.n,e,k,l,ah (qtx t.worth.c),o]⟩ 212 (0,0)),.arr e 3 1 t.basic.length ((t.basic).map aN).flatten,.arr k 209 2 t.basic.length ((cN t wF).map bE).flatten,.arr l 3 1 t.others.length ((t.others).map aN).flatten,.arr o 56 1 t.others.length ((t.worth.f).map aW).flatten]++(List.range t.basic.length).map (stE t wF 0 0 0)/\μ=J) (hn_ [1] Z) ⟨a,v,2 ^ (p.n+p.m),⟨q,d,A,aj,fun K L=>Lp.min_len q.tab.ok L⟩,Z,Z,Z⟩ (fun fr aB aC m _ q=>?_);obtain ⟨t,wF,J,⟨q,d,A,hW,L⟩,rfl,rfl,rfl⟩:=q;have ok:=q.tab.ok;have ak:t.basic.length<=1000000:=by rw [q.tab.lb];exact hm
 have al:t.others.length<=1000000:=by rw [q.tab.lo];exact hn
 have hq:∀ i,i<t.basic.length->LineQ 16 (t.line i):=fun i z=>um q V z;have aa:=ox q V;refine Uv [(5,3)] Z (fun R d=>?_);refine TV (bkT B 1) U8 ?_;refine Ua 2 Z ?_;refine Uc af U9 ?_;refine TX U6 ?_;refine D.call (GA ok (Mem.get B mup) aa) Z (.inr dc_) U6 (show List.Perm _ (((eY b p.n t e k l o wF).map Lent.ent)++[]) from List.Perm.of_eq (by rw [QA,bg 0 0])) fl_ (fun aD _ aE _ am=>?_);refine C4 1 [1,2] d Z ?_;clear d R;obtain ⟨⟨o1,rfl,ab⟩,rfl⟩:=am;refine Um (L':=[.obj b (.cells ⟨[.int .i64 p.n,e,k,l,ah (qtx t.worth.c),o]⟩ 212 (0,0)),.arr e 3 1 t.basic.length ((t.basic).map aN).flatten,.arr k 209 2 t.basic.length ((cN t wF).map bE).flatten,.arr l 3 1 t.others.length ((t.others).map aN).flatten,.arr o 56 1 t.others.length ((t.worth.f).map aW).flatten]++(List.range t.basic.length).map (stE t wF 0 0 0)) (by rw [QA,bg 0 0]) ?_;refine TT 2 [1,2,21] Z ?_;refine TW (fun M=>?_) fun M=>?_
 ·have y:o1<0:=aJ M;have E:=ib ab y;refine TT 2 [2,3] Z ?_;refine Ui (Uw U3 ?_);exact ⟨t,wF,q,A,.yes hW (fun s hs x=>by have:=E s hs;grind),by rw [bg 0 0]⟩
 have y:¬ o1<0:=Qe M;obtain ⟨s,rfl,hs,⟨I,Y⟩,an⟩:=ia ab y;refine Uv [(2,3)] Z (fun R d=>?_);refine TV (bkT B 1) U8 ?_;refine TX U6 ?_;refine D.call (Gz U.m_ ok hs hq) Z (.inr dc_) U6 (show List.Perm _ (((eY b p.n t e k l o wF).map Lent.ent)++[]) from List.Perm.of_eq (by rw [QA,bg 0 0])) fl_ (fun aF _ aG _ ao=>?_);refine C4 1 [1,2,4] d Z ?_;clear d R;obtain ⟨⟨o2,rfl,ac⟩,rfl⟩:=ao;refine Um (L':=[.obj b (.cells ⟨[.int .i64 p.n,e,k,l,ah (qtx t.worth.c),o]⟩ 212 (0,0)),.arr e 3 1 t.basic.length ((t.basic).map aN).flatten,.arr k 209 2 t.basic.length ((cN t wF).map bE).flatten,.arr l 3 1 t.others.length ((t.others).map aN).flatten,.arr o 56 1 t.others.length ((t.worth.f).map aW).flatten]++(List.range t.basic.length).map (stE t wF 0 0 0)) (by rw [QA,bg 0 0]) ?_;refine TT 2 [1,2,4,26] Z ?_;refine TW (fun N=>?_) fun N=>?_
 ·have O:o2<0:=aJ N;have E:=yA ac O;have Q:kV t s=1:=by
   unfold kV;rw [az (by grind)]
  refine TT 3 [2,3] Z ?_;refine Ui (Uw U3 ?_);refine ⟨t,wF,q,A,.no s hs (by rw [Q];grind) (fun i z x=>?_) (fun _=>by rw [Q];decide),by rw [bg 0 0]⟩;rw [Q];have:=E i z x;grind
 have O:¬ o2<0:=Qe N;obtain ⟨r,rfl,hr,S,ap,aq⟩:=yz ac O;have hP:Lp.MinP p.n t r s:=⟨hr,hs,S,I,Y,fun j hj x hg=>an j hj ⟨x,hg⟩,ap,aq,A⟩;have ad:(t.line r).g s≠0:=by grind
 obtain ⟨aH,ar⟩:=Lp.Reach.fall hP L;refine Uv [(3,3)] Z (fun R d=>?_);refine TV (bkT B 1) U8 ?_;refine Ua 2 Z ?_;refine D.call (tZ _ U.m_ b p.n r s (p.n+p.m) t e k l o wF ok ak al hr hs ad hq aa) Z (.inr dc_) U6 (show List.Perm _ (((eY b p.n t e k l o wF).map Lent.ent)++[]) from List.Perm.of_eq (by rw [QA,bg 0 0])) fl_ (fun aK _ aL _ au=>?_);refine TZ [1] d Z ?_;clear d R;obtain ⟨-,T,rfl⟩:=au;refine Um (L':=[.obj b (.cells ⟨[.int .i64 p.n,e,k,l,ah (qtx (t.pivot r s).worth.c),o]⟩ 212 (0,0)),.arr e 3 1 (t.pivot r s).basic.length (((t.pivot r s).basic).map aN).flatten,.arr k 209 2 (t.pivot r s).basic.length ((cN (t.pivot r s) T).map bE).flatten,.arr l 3 1 (t.pivot r s).others.length (((t.pivot r s).others).map aN).flatten,.arr o 56 1 (t.pivot r s).others.length (((t.pivot r s).worth.f).map aW).flatten]++(List.range (t.pivot r s).basic.length).map (stE (t.pivot r s) T 0 0 0)) (by rw [QA,bg 0 0]) ?_;refine Ug (m':=m-1) om_ mup (hn_ [1] Z) ⟨t.pivot r s,T,m-1,⟨q.pivot hr hs ad,Lp.rel_pivot ok d hr hs S,Lp.min_feas ok hP,Lp.relw_pivot ok (fun s' ae av i z x=>d s' (by rw [<- q.tab.lo];exact ae) ae av i z x) hW hr hs S,ar⟩,Z,Z,Z⟩
theorem O9 (C:Mem)(v:Value)(l:List Nat)(b:Sl C 1 v (l.map aN))(t:l.length<=1000000):Jog.Fn cx.P 50 [v] C [] fun u _w e=>∃ A n c,u=.slice A n c/\e=[.arr (.slice A n c) 3 1 l.length (l.map aN).flatten]:=by
 obtain ⟨f,c0,rfl,m,x,y,o⟩:=id b;have z:maxLen<=9223372036854775807:=by simp [maxLen]
 simp only [al] at b m ⊢;refine Ud func50 8 U3 fun w0=>TT 1 [0] Z<|TU 1 Z fun R d=>VK U9<|TZ [0,4] d Z<|TW (fun h4=>?_) fun h4=>?_
 ·have p:f=none:=by
   cases f with
   | none=>rfl
   | some a=>cases h4
  have s:l=[]:=by
   cases l with
   | nil=>rfl
   | cons q r =>
    obtain ⟨a,g,_⟩:=o 0 (aN q) rfl;rw [p] at g;cases g
  refine TT 1 [2] Z<|G.nilArr 3 1<|Ui (UK Z Z ?_);exact ⟨none,0,0,Z,by rw [s];rfl⟩
 refine TY fun R d=>Va [] U12 fl_ fun B=>TX U6<|Uy (j:=0) U11 b.m_ (by simp [aN,mD]) (by simp only [al,Qu,maxLen];omega) (by simp only [al,Qu];omega) fl_ fun h i k=>C4 1 [2] d Z<|Um (L':=[.arr (.slice h i k) 3 1 l.length (l.map aN).flatten]) am<|Ui (UK Z Z ?_);exact ⟨h,i,k,Z,Z⟩
theorem Mv (C:Mem)(b s:Nat)(q:Rat)(w:Value)(l:List Rat)(c:Sl C 1 w (l.map aW))(d:C b=some (.cells ⟨[.int .i64 s]⟩ 3 (0,0)))(e:s<l.length) :
  Gives cx.P 176 [.agg ⟨[ah (qtx q),w]⟩,.pointer (some ⟨b,0,none⟩)] C (.bool (!decide (l.getD s 0=0))):=by
 obtain ⟨h,i,rfl,j,k,_⟩:=id c;have m:maxLen<=9223372036854775807:=by simp [maxLen]
 refine Ud func176 10 U3 fun w0=>TY fun R a=>Up U6 fun n=>C4 1 [1,2] a Z<|G.freeze 0 Z fun _ _ f=>TU 1 Z fun R a=>TV (bkT f 1) U8<|TV (bkT d 1) U8<|Ul c.m_ U10 om_ (dH e) fl_ fun o g=>TV g U8<|C4 2 [3] a Z<|Ub U2<|⟨?_,Z⟩;show Value.bool _=Value.bool _;congr 1;show (!((⟨(qtx (l.getD s 0)).toArray⟩:ByteArray).data.toList == (⟨#[48]⟩:ByteArray).data.toList))=_;rw [fS]
theorem Mu (C:Mem)(b s:Nat)(q:Rat)(w:Value)(l:List Rat)(c:Sl C 1 w (l.map aW))(d:C b=some (.cells ⟨[.int .i64 s]⟩ 3 (0,0)))(e:s<l.length) :
  Gives cx.P 178 [.agg ⟨[ah (qtx q),w]⟩,.pointer (some ⟨b,0,none⟩)] C (.bool (!decide (l.getD s 0=0))):=by
 obtain ⟨h,i,rfl,j,k,_⟩:=id c;have m:maxLen<=9223372036854775807:=by simp [maxLen]
 refine Ud func178 10 U3 fun w0=>TY fun R a=>Up U6 fun n=>C4 1 [1,2] a Z<|G.freeze 0 Z fun _ _ f=>TU 1 Z fun R a=>TV (bkT f 1) U8<|TV (bkT d 1) U8<|Ul c.m_ U10 om_ (dH e) fl_ fun o g=>TV g U8<|C4 2 [3] a Z<|Ub U2<|⟨?_,Z⟩;show Value.bool _=Value.bool _;congr 1;show (!((⟨(qtx (l.getD s 0)).toArray⟩:ByteArray).data.toList == (⟨#[48]⟩:ByteArray).data.toList))=_;rw [fS]
inductive FirstR (q:Nat->Prop) (n:Nat):Int->Prop where
 | none:(∀ i,i<n->¬ q i)->FirstR q n (-1)
 | some (r:Nat):r<n->q r->(∀ i,i<r->¬ q i)->FirstR q n r
theorem Gv (C:Mem)(v:Value)(a:List (Rat × Value))(g:Nat)(c:List Value)(q:Nat->Prop)[DecidablePred q](d:Sl C 2 v (a.map bE))(_E:Jog.Enters cx.P g=true)
  (p:∀ i x,a[i]?=some x->∀ D:Mem,C.le D->Gives cx.P g (.agg ⟨bE x⟩::c) D (.bool (decide (q i)))) :
  Pur cx.P 175 [v,.func (.func g) #[] ⟨c⟩] C fun u _=>∃ o:Int,u=.int .i64 o/\FirstR q a.length o:=by
 obtain ⟨r,c0,rfl,s,F,_⟩:=id d;have H:maxLen<=9223372036854775807:=by simp [maxLen]
 simp only [al] at d s ⊢;refine Ud func175 19 U3 fun w0=>TT 1 [0,1] Z<|TT 3 [0,1,7,8] Z<|G.loop (fun fr C' t w=>∃ (i:Nat),(i<=a.length/\∀ j,j<i->¬ q j)/\fr=[(0,[],.slice r a.length c0),(1,[],.func (.func g) #[] ⟨c⟩),(7,[],.int .i64 a.length),(8,[],.int .i64 i)]/\t=[]/\w=a.length-i) (hn_ [0,1,7,8] Z) ⟨0,⟨Qf _,fun j e=>absurd e (Nat.not_lt_zero _)⟩,Z,Z,Z⟩ (fun fr I J m _ y=>?_);obtain ⟨i,⟨K,f⟩,rfl,rfl,rfl⟩:=y;refine TT 1 [0,1,7,8,9] Z<|TW (fun h=>?_) fun h=>?_
 ·have b:i<a.length:=by simpa using h
  obtain ⟨x,n⟩:∃ x,a[i]?=some x:=⟨a[i],aj b⟩;refine TT 2 [0,1,5,7,8] Z<|TU 3 Z fun R k=>Ul d.m_ U10 om_ (show (a.map bE)[i]?=some [ah (qtx x.1),x.2] from gb n) fl_ fun L z=>TV z U8<|Uh (p i x n _ mup) U7<|TZ [0,1,5,7,8,16] k Z<|TW (fun l=>?_) fun l=>?_
  ·have A:q i:=aJ l;exact TT 2 [4] Z<|Ub U2<|⟨Z,(i:Int),Z,.some i b A f⟩
  have B:¬ q i:=Qe l;refine TY fun R k=>Ue _ U7<|C4 1 [0,1,7,8] k Z<|Ug (m':=a.length-(i+1)) om_ mup (hn_ [0,1,7,8] Z) ⟨i+1,⟨by omega,fun j e=>by
   rcases Nat.lt_or_eq_of_le (Nat.le_of_lt_succ e) with h1 | h1
   ·exact f j h1
   rw [h1];exact B⟩,rfl,rfl,rfl⟩
 have b:i=a.length:=by
  have:¬ i<a.length:=by simpa using h
  omega
 exact TT 1 [4] Z<|Ub U2<|⟨Z, -1,Z,.none (by rw [<- b];exact f)⟩
theorem E0 (C:Mem)(b n v:Nat)(a:List Value)(c:C b=some (.cells ⟨.int .i64 n::a⟩ 212 (0,0))) :
  Gives cx.P 177 [.pointer (some ⟨b,0,none⟩),.int .i64 v] C (.bool (decide (n<=v))):=by
 refine Ud func177 11 U3 fun w0=>TT 1 [0,1] Z<|TU 4 Z fun R d=>TV (bkT c 1) U8<|C4 2 [4] d Z<|Ub U2<|⟨?_,Z⟩;congr 1;rw [QX];omega
theorem oO (C:Mem)(b n v:Nat)(a:List Value):Jog.Fn cx.P 177 [.pointer (some ⟨b,0,none⟩),.int .i64 v] C [.obj b (.cells ⟨.int .i64 n::a⟩ 212 (0,0))]
   fun u _ d=>u=.bool (decide (n<=v))/\d=[.obj b (.cells ⟨.int .i64 n::a⟩ 212 (0,0))]:=by
 have h:=Vg (P:=cx.P) (f:=177) (args:=[.pointer (some ⟨b,0,none⟩),.int .i64 v]) (C:=C) (q:=fun u=>u=.bool (decide (n<=v))) kr_ [.obj b (.int .i64 n::a) 212] (fun x c=>by
  rcases Qp.1 c with rfl | c
  ·trivial
  cases c) fun C' e hs=>(E0 C' b n v a (hs _ (Pz ..))).mono fun u _ g _ ⟨h1,h2⟩=>⟨h2,h1⟩
 exact h
theorem oG (h:∀ x∈eY b n t wB wL wO wW wF,x.seen C):Sl C 1 wO (t.others.map aN)/\Sl C 2 wL ((cN t wF).map bE)/\∀ i,i<t.basic.length->Sl C 1 (wF i) ((t.line i).f.map aW) :=
 ⟨h _ (Qm _ (Qm _ (Qm _ (Pz ..)))),h _ (Qm _ (Qm _ (Pz ..))),fun i a =>
  h (K7 t wF i) (Qm _ (Qm _ (Qm _ (Qm _ (Qm _ (Qk.2 ⟨i,Qw.2 a,rfl⟩))))))⟩
section
variable {C:Mem} {a2 b n N s:Nat} {t:Lp.Tab} {wB wO wW:Value} {wF:Nat->Value}
theorem O8 {d:Value}(g:t.Ok N)(i:t.others.length<=1000000):Jog.Fn cx.P 50 [wO] C ((eY b n t wB d wO wW wF).map Lent.ent)
   fun u _ a=>∃ A n2 c,u=.slice A n2 c/\a=.arr (.slice A n2 c) 3 1 t.others.length (t.others.map aN).flatten::(eY b n t wB d wO wW wF).map Lent.ent:=by
 have h:=Vy (P:=cx.P) (f:=50) (args:=[wO]) (L:=[]) (C:=C) (post:=fun u a=>∃ A n2 c,u=.slice A n2 c/\a=[.arr (.slice A n2 c) 3 1 t.others.length (t.others.map aN).flatten]) kr_ (eY b n t wB d wO wW wF) (fZ g) fun C' m hs=>O9 C' wO t.others (oG hs).1 i;rw [QA] at h;refine ⟨h.1,fun w j=>(h.2 w j).mono ?_⟩;rintro e w' ⟨v,C',a,k,l,o,rfl,A,n2,c,rfl,rfl⟩;exact ⟨_,C',_,k,St.perm l (List.perm_append_singleton _ _),A,n2,c,Z,Z⟩
theorem Nc {a:Value}(h:t.Ok N)(l:C a2=some (.cells ⟨[.int .i64 s]⟩ 3 (0,0)))(m:s<t.others.length) :
  Jog.Fn cx.P 175 [a,.func (.func 176) #[] #[.pointer (some ⟨a2,0,none⟩)]] C ((eY b n t wB a wO wW wF).map Lent.ent)
   fun u _ j=>(∃ o:Int,u=.int .i64 o/\FirstR (fun i=>¬ (t.line i).g s=0) t.basic.length o)/\j=(eY b n t wB a wO wW wF).map Lent.ent:=by
 refine Vg kr_ _ (fZ h) fun C' p q=>?_;obtain ⟨_,r,v⟩:=oG q;refine (Gv C' a (cN t wF) 176 [.pointer (some ⟨a2,0,none⟩)] (fun i=>¬ (t.line i).g s=0) r kr_ fun i x d D k=>?_).mono ?_
 ·have e:i<t.basic.length:=by rw [<- fB (wF:=wF)];exact (aF.1 d).1
  rw [nQ e] at d;cases d
  rw [decide_not];exact Mv D a2 s (t.line i).c (wF i) (t.line i).f ((v i e).mono k) ((p.trans k) _ _ l) (by rw [gZ h e];exact m)
 rintro u D j _ ⟨h1,o,rfl,h2⟩;rw [fB] at h2;exact ⟨h1,o,Z,h2⟩
theorem Nb {A:Option Addr}{c r M:Nat}(v:t.basic.length=M)(j:t.Ok N)(w:C a2=some (.cells ⟨[.int .i64 s]⟩ 3 (0,0)))(y:s<t.others.length)(I:r<t.basic.length)(z:M<=c) :
  Jog.Fn cx.P 175 [.slice (if c=r+1 then A else A.map (·.add ((r+1)*2))) (M-(r+1)) (c-(r+1)),.func (.func 178) #[] #[.pointer (some ⟨a2,0,none⟩)]] C ((eY b n t wB (.slice A M c) wO wW wF).map Lent.ent)
   fun u _ k=>(∃ o:Int,u=.int .i64 o/\FirstR (fun i=>¬ (t.line (r+1+i)).g s=0) (t.basic.length-(r+1)) o)/\k=(eY b n t wB (.slice A M c) wO wW wF).map Lent.ent:=by
 subst v;refine Vg kr_ _ (fZ j) fun C' B E=>?_;obtain ⟨_,F,G⟩:=oG E;have p:=Sl.sub (l:=r+1) (h:=t.basic.length) (m:=c) F om_ (by rw [al,fB];exact Qb _) z (Qb _);have e:((cN t wF).map bE).take t.basic.length=(cN t wF).map bE:=QE (by rw [al,fB];exact Qb _);rw [e,<- List.map_drop] at p;have H:((cN t wF).drop (r+1)).length=t.basic.length-(r+1):=by rw [Si,fB]
 refine (Gv C' _ ((cN t wF).drop (r+1)) 178 [.pointer (some ⟨a2,0,none⟩)] (fun i=>¬ (t.line (r+1+i)).g s=0) p kr_ fun i x a D q=>?_).mono ?_
 ·have d:r+1+i<t.basic.length:=by have:=(aF.1 a).1;omega
  rw [List.getElem?_drop,nQ d] at a;cases a
  rw [decide_not];exact Mu D a2 s (t.line (r+1+i)).c (wF (r+1+i)) (t.line (r+1+i)).f ((G _ d).mono q) ((B.trans q) _ _ w) (by rw [gZ j d];exact y)
 rintro u D k _ ⟨h1,o,rfl,h2⟩;rw [H] at h2;exact ⟨h1,o,Z,h2⟩
end
def P9 (p:Lp.Sys)(t:Lp.Tab)(s:Nat)(o:Int):Prop:=(o=-1/\∀ i,i<t.basic.length->p.n<=t.bas i->(t.line i).g s=0)∨∃ r:Nat,o=r/\r<t.basic.length/\¬ (t.line r).g s=0/\∀ i,i<r->p.n<=t.bas i->(t.line i).g s=0
theorem yM (h:FirstR q n o)(a:o<0):∀ i,i<n->¬ q i:=by
 cases h with
 | none h=>exact h
 | some r _ _ _=>omega
theorem yL (h:FirstR q n o)(a:¬ o<0):∃ r:Nat,o=r/\r<n/\q r/\∀ i,i<r->¬ q i:=by
 cases h with
 | none h=>exact absurd dc_ a
 | some r h1 h2 h3=>exact ⟨r,rfl,h1,h2,h3⟩
theorem CG (h:FirstR (fun i=>¬ (t.line i).g s=0) t.basic.length o):P9 p t s o:=by
 cases h with
 | none h=>exact .inl ⟨rfl,fun i a _=>Decidable.not_not.1 (h i a)⟩
 | some r h1 h2 h3=>exact .inr ⟨r,rfl,h1,h2,fun i a _=>Decidable.not_not.1 (h3 i a)⟩
theorem CV (C:Mem)(hT:Tabs C)(p:Lp.Sys)(M:Nat->Rat)(b:Nat)(a:Lp.Tab)(N O e l:Value)(B:Nat->Value)(q:Lp.Inv p M a)(ho:a.others=List.range p.n)(hl:Lp.Lim p M 16)(hm:p.m<=1000000)(hn:p.n<=1000000) :
  Jog.Fn cx.P 115 [.pointer (some ⟨b,0,none⟩)] C ((eY b p.n a N O e l B).map Lent.ent) fun u _ A=>u=.tuple #[]/\∃ t wF,Lp.Inv p M t/\Lp.Rel p.n t p.n/\A=(eY b p.n t N O e l wF).map Lent.ent:=by
 have aP:maxLen<=9223372036854775807:=by simp [maxLen]
 have au:a.others.length=p.n:=q.tab.lo;refine Ud func115 65 U3 fun w0=>?_;refine Um (L':=[.obj b (.cells ⟨[.int .i64 p.n,N,O,e,ah (qtx a.worth.c),l]⟩ 212 (0,0)),.arr N 3 1 a.basic.length ((a.basic).map aN).flatten,.arr O 209 2 a.basic.length ((cN a B).map bE).flatten,.arr e 3 1 a.others.length ((a.others).map aN).flatten,.arr l 56 1 a.others.length ((a.worth.f).map aW).flatten]++(List.range a.basic.length).map (stE a B 0 0 0)) (by rw [bg 0 0]) ?_;refine VO 1 Z (fun w y J S av _=>?_);rw [q.tab.lb] at J S av;subst J;refine VO 2 Z (fun z x J _ T _=>?_);rw [q.tab.lb] at J T;subst J;refine Um (L':=[.obj b (.cells ⟨[.int .i64 p.n,(.slice w p.m y),(.slice z p.m x),e,ah (qtx a.worth.c),l]⟩ 212 (0,0)),.arr (.slice w p.m y) 3 1 a.basic.length ((a.basic).map aN).flatten,.arr (.slice z p.m x) 209 2 a.basic.length ((cN a B).map bE).flatten,.arr e 3 1 a.others.length ((a.others).map aN).flatten,.arr l 56 1 a.others.length ((a.worth.f).map aW).flatten]++(List.range a.basic.length).map (stE a B 0 0 0)) Z ?_;refine Uv [(4,3)] Z (fun R d=>?_);refine Ua 3 Z ?_;refine Uc af U9 ?_;refine D.call (O8 q.tab.ok om_) Z (.inr dc_) U6 (show List.Perm _ (((eY b p.n a (.slice w p.m y) (.slice z p.m x) e l B).map Lent.ent)++[]) from List.Perm.of_eq (by rw [QA,bg 0 0] <;> rfl)) fl_ (fun aQ aw aR _ ax=>?_);obtain ⟨Ac,n2,c2,rfl,rfl⟩:=ax;refine C4 2 [0,10,11,12] d Z ?_;clear d R;refine G.freezeArr 0 (a.others.map aN) Z Z uD am (fun aw _ ao=>?_);have ay:n2=p.n:=by
  obtain ⟨A9,c9,az,_⟩:=id ao;injection az with e1 e2 e3;rw [e2,al,au]
 subst ay;refine Um (L':=[.obj b (.cells ⟨[.int .i64 p.n,(.slice w p.m y),(.slice z p.m x),e,ah (qtx a.worth.c),l]⟩ 212 (0,0)),.arr (.slice w p.m y) 3 1 a.basic.length ((a.basic).map aN).flatten,.arr (.slice z p.m x) 209 2 a.basic.length ((cN a B).map bE).flatten,.arr e 3 1 a.others.length ((a.others).map aN).flatten,.arr l 56 1 a.others.length ((a.worth.f).map aW).flatten]++(List.range a.basic.length).map (stE a B 0 0 0)) (by rw [bg 0 0,QA];rfl) ?_;refine G.loop (fun fr C' A U=>∃ (k:Nat)(t:Lp.Tab)(wF:Nat->Value),(k<=p.n/\Lp.Inv p M t/\Lp.Rel p.n t k)/\fr=[(0,[],.pointer (some ⟨b,0,none⟩)),(10,[],.slice Ac p.n c2),(11,[],.int .i64 p.n),(12,[],.int .i64 k)]/\A=[.obj b (.cells ⟨[.int .i64 p.n,(.slice w p.m y),(.slice z p.m x),e,ah (qtx t.worth.c),l]⟩ 212 (0,0)),.arr (.slice w p.m y) 3 1 t.basic.length ((t.basic).map aN).flatten,.arr (.slice z p.m x) 209 2 t.basic.length ((cN t wF).map bE).flatten,.arr e 3 1 t.others.length ((t.others).map aN).flatten,.arr l 56 1 t.others.length ((t.worth.f).map aW).flatten]++(List.range t.basic.length).map (stE t wF 0 0 0)/\U=p.n-k) (hn_ [0,10,11,12] Z) ⟨0,a,B,⟨Qf _,q,fun s hs=>absurd hs (Nat.not_lt_zero _)⟩,Z,Z,Z⟩ (fun fr aS aT m _ q=>?_);obtain ⟨k,t,wF,⟨hk,q,d⟩,rfl,rfl,rfl⟩:=q;refine TT 1 [0,10,11,12,13] Z ?_;refine TW (fun V=>?_) fun V=>?_
 ·have ap:k<p.n:=by
   have:=aJ V;omega
  have ok:=q.tab.ok;have aA:=q.tab.lb;have aB:t.basic.length<=1000000:=by rw [q.tab.lb];exact hm
  have aC:t.others.length<=1000000:=by rw [q.tab.lo];exact hn
  have hq:∀ i,i<t.basic.length->LineQ 16 (t.line i):=fun i W=>um q hl W;have K:k<t.others.length:=by rw [q.tab.lo];exact ap
  refine TU 1 Z fun R d=>?_;refine Ul ao.m_ U10 om_ (show (a.others.map aN)[k]?=some (aN k) from ug (by rw [ho,QR ap])) fl_ (fun aU aD=>?_);refine TV aD U8 ?_;refine Uo U5 (fun b2=>?_);refine Uf (j:=0) U12 ?_;refine C4 1 [0,2,3,10,11,12] d Z ?_;clear d R;refine G.freeze 0 Z (fun _ _ X=>?_);refine Uv [(5,3)] Z (fun R d=>?_);refine Ua 3 Z ?_;refine Uc af U9 ?_;refine TX U6 ?_;refine D.call (Nc ok (Mem.get X mup) K) Z (.inr dc_) U6 (show List.Perm _ (((eY b p.n t (.slice w p.m y) (.slice z p.m x) e l wF).map Lent.ent)++[]) from List.Perm.of_eq (by rw [QA,bg 0 0] <;> rfl)) fl_ (fun aV _ aX _ aE=>?_);refine C4 1 [0,2,3,4,10,11,12] d Z ?_;clear d R;obtain ⟨⟨o0,rfl,aF⟩,rfl⟩:=aE;refine Um (L':=[.obj b (.cells ⟨[.int .i64 p.n,(.slice w p.m y),(.slice z p.m x),e,ah (qtx t.worth.c),l]⟩ 212 (0,0)),.arr (.slice w p.m y) 3 1 t.basic.length ((t.basic).map aN).flatten,.arr (.slice z p.m x) 209 2 t.basic.length ((cN t wF).map bE).flatten,.arr e 3 1 t.others.length ((t.others).map aN).flatten,.arr l 56 1 t.others.length ((t.worth.f).map aW).flatten]++(List.range t.basic.length).map (stE t wF 0 0 0)) (by rw [QA,bg 0 0]) ?_;refine G.loop (fun fr C' A U=>∃ (o:Int),(P9 p t k o)/\fr=[(0,[],.pointer (some ⟨b,0,none⟩)),(2,[],.pointer (some ⟨b2,0,none⟩)),(3,[],.int .i64 k),(4,[],.int .i64 o),(10,[],.slice Ac p.n c2),(11,[],.int .i64 p.n),(12,[],.int .i64 k)]/\A=[.obj b (.cells ⟨[.int .i64 p.n,(.slice w p.m y),(.slice z p.m x),e,ah (qtx t.worth.c),l]⟩ 212 (0,0)),.arr (.slice w p.m y) 3 1 t.basic.length ((t.basic).map aN).flatten,.arr (.slice z p.m x) 209 2 t.basic.length ((cN t wF).map bE).flatten,.arr e 3 1 t.others.length ((t.others).map aN).flatten,.arr l 56 1 t.others.length ((t.worth.f).map aW).flatten]++(List.range t.basic.length).map (stE t wF 0 0 0)/\U=t.basic.length-o.toNat) (hn_ [0,2,3,4,10,11,12] Z) ⟨o0,CG aF,Z,Z,Z⟩ (fun fr aY aZ m _ q=>?_);obtain ⟨o,hS,rfl,rfl,rfl⟩:=q;refine TU 7 Z fun R d=>?_;refine Uc af U9 ?_;refine TX U6 ?_;refine V3 (w.getD ⟨0,0,none⟩).block (o.toNat*1) Z Z Z Z Z Z Z Z Z Z (fun Y=>by
   have h:decide (o ≥ 0)=true:=Y.1;have h2:=aJ h;obtain ⟨r,L,E,_⟩:=hS.resolve_left om_;exact ⟨S om_,by omega,by omega,Z⟩) Z Z ?_
  refine VZ (v:=.int .i64 (t.bas o.toNat)) ae Z Z Z Z Z Z (fun Y=>by
   have h:decide (o ≥ 0)=true:=Y.1;have h2:=aJ h;obtain ⟨r,L,E,_⟩:=hS.resolve_left om_;refine ⟨S om_, ?_⟩;rw [eB fk (show t.basic[o.toNat]?=some (t.bas o.toNat) from yr om_)];rfl) rfl rfl ?_
  refine VG af (fun _=>oO _ b p.n (t.bas o.toNat) _) U9 ?_;refine TX U6 ?_;refine Uu U8 ?_;refine TZ [0,2,3,4,10,11,12,36] d Z ?_;clear d R;refine TW (fun aa=>?_) fun aa=>?_
  ·have Q:o ≥ 0/\¬ p.n<=t.bas o.toNat:=by simpa using aa
   obtain ⟨a0,ab⟩:=Q;obtain ⟨r,L,E,ac,ad⟩:=hS.resolve_left om_;subst L;rw [RW] at ab;refine Uv [(8,3)] Z (fun R d=>?_);refine Ua 3 Z ?_;refine Uc af U9 ?_;refine TX U6 ?_;refine Ue _ U7 ?_;refine UR (r+1) p.m x U12 (fun _=>⟨.inr ⟨_,Z⟩,.inl ⟨Z,Z⟩,.inl ⟨Z,Z⟩,by omega,T,Qb _⟩) U2 ?_;refine TX U6 ?_;refine D.call (Nb aA ok (Mem.get X mup) K E T) Z (.inr dc_) U6 (show List.Perm _ (((eY b p.n t (.slice w p.m y) (.slice z p.m x) e l wF).map Lent.ent)++[]) from List.Perm.of_eq (by rw [QA,bg 0 0] <;> rfl)) fl_ (fun a1 _ a2 _ aG=>?_);refine C4 1 [0,2,3,4,5,10,11,12] d Z ?_;clear d R;obtain ⟨⟨o2,rfl,aq⟩,rfl⟩:=aG;refine Um (L':=[.obj b (.cells ⟨[.int .i64 p.n,(.slice w p.m y),(.slice z p.m x),e,ah (qtx t.worth.c),l]⟩ 212 (0,0)),.arr (.slice w p.m y) 3 1 t.basic.length ((t.basic).map aN).flatten,.arr (.slice z p.m x) 209 2 t.basic.length ((cN t wF).map bE).flatten,.arr e 3 1 t.others.length ((t.others).map aN).flatten,.arr l 56 1 t.others.length ((t.worth.f).map aW).flatten]++(List.range t.basic.length).map (stE t wF 0 0 0)) (by rw [QA,bg 0 0]) ?_;refine TT 2 [0,2,3,4,5,10,11,12,47] Z ?_;refine TW (fun ag=>?_) fun ag=>?_
   ·have ai:o2<0:=aJ ag;have hz:∀ i,i<t.basic.length->p.n<=t.bas i->(t.line i).g k=0:=fun i W F=>by
     rcases Nat.lt_trichotomy i r with h1 | h1 | h1
     ·exact ad i h1 F
     ·rw [h1] at F;exact absurd F ab
     have:=yM aq ai (i-(r+1)) om_;rw [show r+1+(i-(r+1))=i by omega] at this;exact Decidable.not_not.1 this
    refine TT 1 [0,2,3,4,10,11,12] Z ?_;refine TU 5 Z fun R d=>?_;refine VG af (fun _=>oO _ b p.n k _) U9 ?_;refine TX U6 ?_;refine Uu U8 ?_;refine TZ [0,2,4,10,11,12,59] d Z ?_;clear d R;refine TW (fun ar=>?_) fun ar=>?_
    ·exact absurd ar am
    refine TY fun R d=>?_;refine Ue _ U7 ?_;refine C4 1 [0,10,11,12] d Z ?_;clear d R;refine Ug (m':=p.n-(k+1)) om_ mup (hn_ [0,10,11,12] Z) ⟨k+1,t,wF,⟨by omega,q,Lp.rel_none d hz⟩,Z,Z,Z⟩
   have ai:¬ o2<0:=Qe ag;obtain ⟨H,rfl,a3,aH,aK⟩:=yL aq ai;have aL:P9 p t k ((r+(1+H):Nat):Int):=.inr ⟨r+(1+H),rfl,by omega,by rw [show r+(1+H)=r+1+H by omega];exact aH,fun i W F=>by
    rcases Nat.lt_trichotomy i r with h1 | h1 | h1
    ·exact ad i h1 F
    ·rw [h1] at F;exact absurd F ab
    have:=aK (i-(r+1)) om_;rw [show r+1+(i-(r+1))=i by omega] at this;exact Decidable.not_not.1 this⟩
   refine TU 2 Z fun R d=>?_;refine Ue _ U7 ?_;refine Ue _ U7 ?_;refine C4 1 [0,2,3,4,10,11,12] d Z ?_;clear d R;refine Ug (m':=t.basic.length-((r+(1+H):Nat):Int).toNat) om_ mup (hn_ [0,2,3,4,10,11,12] Z) ⟨((r+(1+H):Nat):Int),aL,Z,Z,Z⟩
  have Q:¬ (o ≥ 0/\¬ p.n<=t.bas o.toNat):=by simpa using aa
  refine TU 5 Z fun R d=>?_;refine VG af (fun _=>oO _ b p.n k _) U9 ?_;refine TX U6 ?_;refine Uu U8 ?_;refine TZ [0,2,4,10,11,12,59] d Z ?_;clear d R;refine TW (fun aj=>?_) fun aj=>?_
  ·have I:0<=o:=by
    have I:(decide (0<=o) && !decide (p.n<=k))=true:=aj;simp only [Qn,Qj] at I;exact I.1
   obtain ⟨r,L,E,ac,ad⟩:=hS.resolve_left om_;subst L;rw [RW] at Q;have aM:p.n<=t.bas r:=by
    apply Decidable.byContradiction;intro h;exact Q ⟨by omega,h⟩
   refine Uv [(3,3)] Z (fun R d=>?_);refine Ua 2 Z ?_;refine TV (bkT X 1) U8 ?_;refine D.call (tZ _ hT.m_ b p.n r k (p.n+p.m) t (.slice w p.m y) (.slice z p.m x) e l wF ok aB aC E K ac hq (ox q hl)) Z (.inr dc_) U6 (show List.Perm _ (((eY b p.n t (.slice w p.m y) (.slice z p.m x) e l wF).map Lent.ent)++[]) from List.Perm.of_eq (by rw [QA,bg 0 0] <;> rfl)) fl_ (fun a4 _ a5 _ aO=>?_);refine TZ [0,10,11,12] d Z ?_;clear d R;refine TY fun R d=>?_;refine Ue _ U7 ?_;refine C4 1 [0,10,11,12] d Z ?_;clear d R;obtain ⟨-,ak,rfl⟩:=aO;refine Um (L':=[.obj b (.cells ⟨[.int .i64 p.n,(.slice w p.m y),(.slice z p.m x),e,ah (qtx (t.pivot r k).worth.c),l]⟩ 212 (0,0)),.arr (.slice w p.m y) 3 1 (t.pivot r k).basic.length (((t.pivot r k).basic).map aN).flatten,.arr (.slice z p.m x) 209 2 (t.pivot r k).basic.length ((cN (t.pivot r k) ak).map bE).flatten,.arr e 3 1 (t.pivot r k).others.length (((t.pivot r k).others).map aN).flatten,.arr l 56 1 (t.pivot r k).others.length (((t.pivot r k).worth.f).map aW).flatten]++(List.range (t.pivot r k).basic.length).map (stE (t.pivot r k) ak 0 0 0)) (by rw [QA,bg 0 0]) ?_;refine Ug (m':=p.n-(k+1)) om_ mup (hn_ [0,10,11,12] Z) ⟨k+1,t.pivot r k,ak,⟨by omega,q.pivot E K ac,Lp.rel_next ok d E K aM⟩,Z,Z,Z⟩
  have I:¬ 0<=o:=by
   have I:(decide (0<=o) && !decide (p.n<=k))=false:=aj;have an:¬ p.n<=k:=by omega
   simpa [an] using I
  have hz:∀ i,i<t.basic.length->p.n<=t.bas i->(t.line i).g k=0:=by
   rcases hS with ⟨_,h2⟩ | ⟨r,h1,_⟩
   ·exact h2
   omega
  refine TY fun R d=>?_;refine Ue _ U7 ?_;refine C4 1 [0,10,11,12] d Z ?_;clear d R;refine Ug (m':=p.n-(k+1)) om_ mup (hn_ [0,10,11,12] Z) ⟨k+1,t,wF,⟨by omega,q,Lp.rel_none d hz⟩,Z,Z,Z⟩
 have an:k=p.n:=by
  have:=Qe V;omega
 refine Vh Z ?_;exact ⟨Z,t,wF,q,by rw [an] at d;exact d,by rw [bg 0 0]⟩
theorem O7 (C:Mem)(v:Value)(l:List Rat)(b:Sl C 1 v (l.map aW))(t:l.length<=1000000):Jog.Fn cx.P 173 [v] C [] fun u _w e=>∃ A n c,u=.slice A n c/\e=[.arr (.slice A n c) 56 1 l.length (l.map aW).flatten]:=by
 obtain ⟨f,c0,rfl,m,x,y,o⟩:=id b;have z:maxLen<=9223372036854775807:=by simp [maxLen]
 simp only [al] at b m ⊢;refine Ud func173 8 U3 fun w0=>TT 1 [0] Z<|TU 1 Z fun R d=>VK U9<|TZ [0,4] d Z<|TW (fun h4=>?_) fun h4=>?_
 ·have p:f=none:=by
   cases f with
   | none=>rfl
   | some a=>cases h4
  have s:l=[]:=by
   cases l with
   | nil=>rfl
   | cons q r =>
    obtain ⟨a,g,_⟩:=o 0 (aW q) rfl;rw [p] at g;cases g
  refine TT 1 [2] Z<|G.nilArr 56 1<|Ui (UK Z Z ?_);exact ⟨none,0,0,Z,by rw [s];rfl⟩
 refine TY fun R d=>Va [] U12 fl_ fun B=>TX U6<|Uy (j:=0) U11 b.m_ (by simp [aW,mD,ah]) (by simp only [al,Qu,maxLen];omega) (by simp only [al,Qu];omega) fl_ fun h i k=>C4 1 [2] d Z<|Um (L':=[.arr (.slice h i k) 56 1 l.length (l.map aW).flatten]) am<|Ui (UK Z Z ?_);exact ⟨h,i,k,Z,Z⟩
def eH (n:Nat)(rs:List (List Rat × Rat)):Lp.Sys:=⟨n,rs.length,fun r j=>(rs.getD r ([],0)).1.getD j 0,fun r=>(rs.getD r ([],0)).2⟩
abbrev sA (A:Option Addr)(n c:Nat):Value:=.slice A n c
abbrev sB (A:Option Addr)(n c:Nat):Value:=.slice A n c
abbrev sO (A:Option Addr)(n c:Nat):Value:=.slice A n c
abbrev sW (A:Option Addr)(n c:Nat):Value:=.slice A n c
abbrev sF (A:Option Addr)(n c:Nat):Value:=.slice A n c
def lbF (n i:Nat):List Nat:=(List.range i).map fun q=>n+q
def lvF (rs:List (List Rat × Rat))(wF:Nat->Value)(i:Nat):List (Rat × Value):=(List.range i).map fun q=>((rs.getD q ([],0)).2,wF q)
def opE (n:Nat)(rs:List (List Rat × Rat))(wF:Nat->Value)(q:Nat):Ent:=.arr (wF q) 56 1 n (((List.range n).map fun j=>-(rs.getD q ([],0)).1.getD j 0).map aW).flatten
def Ip (wF:Nat->Value)(i:Nat)(w:Value):Nat->Value:=fun q=>if q=i then w else wF q
theorem EF :Ip wF i w i=w:=aU rfl
theorem EE {q:Nat}(h:q≠i):Ip wF i w q=wF q:=az h
theorem JO :lbF n (i+1)=lbF n i++[n+i]:=by unfold lbF;rw [Re,QS];rfl
theorem JE {r:List Rat × Rat}(h:rs.getD i ([],0)=r):lvF rs (Ip wF i w) (i+1)=lvF rs wF i++[(r.2,w)]:=by
 unfold lvF;rw [Re,QS,List.map_singleton,h,EF];congr 1;refine List.map_congr_left fun q a=>?_;rw [EE (by have:=Qw.1 a;omega)]
theorem Jv {r:List Rat × Rat}(h:rs.getD i ([],0)=r):(List.range (i+1)).map (opE n rs (Ip wF i w))=(List.range i).map (opE n rs wF)++[.arr w 56 1 n (((List.range n).map fun j=>-r.1.getD j 0).map aW).flatten]:=by
 rw [Re,QS,List.map_singleton];congr 1
 ·refine List.map_congr_left fun q a=>?_;unfold opE;rw [EE (by have:=Qw.1 a;omega)]
 unfold opE;rw [h,EF]
theorem CX {l:List Rat}(h:l.length=n):(List.range n).map (fun j=>l.getD j 0)=l:=by
 refine List.ext_getElem? fun j=>?_;rw [Qg];by_cases a:j<n
 ·rw [QR a,aj om_];show some (l.getD j 0)=_;rw [aw,aj om_];rfl
 rw [Ql (show (List.range n).length<=j by simp;omega),Ql om_];rfl
theorem F0 (g:ob.length=n) :
  (eY b n (Lp.openT (eH n rs) fun j=>ob.getD j 0) wB wL wO wW wF).map Lent.ent=[.obj b (.cells ⟨[.int .i64 n,wB,wL,wO,ah [48],wW]⟩ 212 (0,0)),.arr wB 3 1 rs.length ((lbF n rs.length).map aN).flatten,.arr wL 209 2 rs.length ((lvF rs wF rs.length).map bE).flatten,.arr wO 3 1 n ((List.range n).map aN).flatten,.arr wW 56 1 n (ob.map aW).flatten]++(List.range rs.length).map (opE n rs wF):=by
 have d:(Lp.openT (eH n rs) fun j=>ob.getD j 0).basic.length=rs.length:=Lp.openT_lb;have e:(Lp.openT (eH n rs) fun j=>ob.getD j 0).others.length=n:=Lp.openT_lo;have h1:cN (Lp.openT (eH n rs) fun j=>ob.getD j 0) wF=lvF rs wF rs.length:=by
  unfold cN lvF;rw [d];refine List.map_congr_left fun q a=>?_;rw [Lp.openT_line (p:=eH n rs) (Qw.1 a)];rfl
 have h2:(List.range rs.length).map (Lent.ent ∘ K7 (Lp.openT (eH n rs) fun j=>ob.getD j 0) wF)=(List.range rs.length).map (opE n rs wF):=by
  refine List.map_congr_left fun q a=>?_;show Ent.arr _ _ 1 _ _=_;rw [Lp.openT_line (p:=eH n rs) (Qw.1 a),e];rfl
 have h3:(Lp.openT (eH n rs) fun j=>ob.getD j 0).worth.f=ob:=CX g;have h4:(Lp.openT (eH n rs) fun j=>ob.getD j 0).worth.c=0:=rfl;unfold eY;rw [h1,h3,h4,d,e,Pr];simp only [QO,Q1,h2];rfl
def Di (n:Nat)(rs:List (List Rat × Rat))(ob:List Rat)(b17:Nat)(Aw:Option Addr)(nw cw:Nat)(A1:Option Addr)(n1 c1:Nat)(i:Nat)(wF:Nat->Value)(r:List Rat × Rat)(A4:Option Addr)(n4 c4:Nat)(A71:Option Addr)(n71 c71:Nat)(A78:Option Addr)(n78 c78:Nat):List Ent:=[.arr (sA A71 n71 c71) 3 1 (i+1) (((lbF n i).map aN).flatten++[[.int .i64 ((n:Int)+(i:Int))]].flatten),.arr (sB A78 n78 c78) 209 2 (i+1) (((lvF rs wF i).map bE).flatten++[[ah (qtx r.2),.slice A4 n4 c4]].flatten),.obj b17 (.cells ⟨[.int .i64 n,.slice A71 n71 c71,.slice A78 n78 c78,.slice A1 n1 c1,ah [48],.slice Aw nw cw]⟩ 212 (0,0)),.arr (sO A1 n1 c1) 3 1 n (((List.range n)).map aN).flatten,.arr (sW Aw nw cw) 56 1 n (ob.map aW).flatten,.arr (sF A4 n4 c4) 56 1 n (((List.range n).map fun q=>-r.1.getD q 0).map aW).flatten]++(List.range i).map (opE n rs wF)
def opX1 (n:Nat)(rs:List (List Rat × Rat))(ob:List Rat)(b17:Nat)(Aw:Option Addr)(nw cw:Nat)(A1:Option Addr)(n1 c1:Nat)(i:Nat)(wF:Nat->Value)(A4:Option Addr)(n4 c4:Nat)(A71:Option Addr)(n71 c71:Nat)(A78:Option Addr)(n78 c78:Nat):List Ent:=[.arr (sA A71 n71 c71) 3 1 (i+1) ((lbF n (i+1)).map aN).flatten,.arr (sB A78 n78 c78) 209 2 (i+1) ((lvF rs (Ip wF i (.slice A4 n4 c4)) (i+1)).map bE).flatten,.obj b17 (.cells ⟨[.int .i64 n,.slice A71 n71 c71,.slice A78 n78 c78,.slice A1 n1 c1,ah [48],.slice Aw nw cw]⟩ 212 (0,0)),.arr (sO A1 n1 c1) 3 1 n (((List.range n)).map aN).flatten,.arr (sW Aw nw cw) 56 1 n (ob.map aW).flatten]++(List.range (i+1)).map (opE n rs (Ip wF i (.slice A4 n4 c4)))
theorem dA {a:Nat}{b:Option Addr}{c d:Nat}{e:Option Addr}{f g:Nat}{r:List Rat × Rat}{h:Option Addr}{j k:Nat}{l:Option Addr}{m o:Nat}{p:Option Addr}{q s:Nat}(t:rs.getD i ([],0)=r):(Di n rs ob a b c d e f g i wF r h j k l m o p q s).Perm (opX1 n rs ob a b c d e f g i wF h j k l m o p q s):=by
 unfold Di opX1;rw [JO,JE t,Jv t];simp only [QS,QW];exact List.Perm.append_left [_,_,_,_,_] (List.perm_append_singleton _ _).symm
theorem Jl (C:Mem)(_aR:Tabs C)(n:Nat)(rv ov:Value)(c:List (List Rat × Rat))(z:List Rat)(hr:RowsT C rv (c.map gN))(ho:Sl C 1 ov (z.map aW))(hq:RowsQ n c)(hn:n<=1000)(au:z.length=n) :
  Jog.Fn cx.P 114 [.agg ⟨[.int .i64 n,rv,ov]⟩] C [] fun u _aS x=>∃ b wB wL wO wW wF,u=.pointer (some ⟨b,0,none⟩)/\x=(eY b n (Lp.openT (eH n c) fun j=>z.getD j 0) wB wL wO wW wF).map Lent.ent:=by
 obtain ⟨vs,av,aC,V⟩:=hr;obtain ⟨Ar,cr,rfl,ay,aT,_⟩:=id V;have hm:=hq.m;have aU:maxLen<=9223372036854775807:=by simp [maxLen]
 rw [tm av] at V ay ⊢;simp only [al] at V ay av ⊢;refine Ud func114 85 U3 fun w0=>?_;refine TY fun R a=>?_;refine Up U6 (fun W=>?_);refine C4 1 [1] a Z ?_;clear a R;refine G.freeze 0 Z (fun _ _ U=>?_);refine Ur [0,1,2,3,4,5,6,7,8] [(4,3),(1,0)] Z kr_ (fun R I a=>?_);refine TX U6 ?_;refine U0 (fun _=>((PtrTo.blockT U _ 1).mono I)) U9 ?_;refine TX U6 ?_;refine TV (bkT U 1) U8 ?_;refine D.call (O7 _ ov z ho.m_ om_) Z (.inr dc_) U6 (Qh _) fl_ (fun aV _ aX _ aD=>?_);obtain ⟨d,e,f,rfl,rfl⟩:=aD;refine Un [ah [48],.slice d e f] U8 ?_;refine Un [.int .i64 n,.slice none 0 0,.slice none 0 0,.slice none 0 0,ah [48],.slice d e f] U8 ?_;refine Up U6 (fun y=>?_);refine TX U6 ?_;refine TZ [1,3] a Z ?_;clear a I R;refine TU 1 Z fun R a=>?_;refine TV (bkT U 1) U8 ?_;refine C4 1 [1,3,19,20] a Z ?_;clear a R;refine G.nilArr 3 1 ?_;refine Um (L':=[.arr (sO none 0 0) 3 1 0 (((List.range 0)).map aN).flatten,.obj y (.cells ⟨[.int .i64 n,.slice none 0 0,.slice none 0 0,.slice none 0 0,ah [48],.slice d e f]⟩ 212 (0,0)),.arr (sW d e f) 56 1 n (z.map aW).flatten]) (by rw [au];rfl) ?_;refine G.loop (fun fr C' x O=>∃ (i:Nat)(t:Option Addr)(n1 v:Nat),(i<=n)/\fr=[(1,[],.pointer (some ⟨W,0,none⟩)),(3,[],.pointer (some ⟨y,0,none⟩)),(19,[],.int .i64 n),(20,[],.int .i64 i)]/\x=[.arr (sO t n1 v) 3 1 i (((List.range i)).map aN).flatten,.obj y (.cells ⟨[.int .i64 n,.slice none 0 0,.slice none 0 0,.slice t n1 v,ah [48],.slice d e f]⟩ 212 (0,0)),.arr (sW d e f) 56 1 n (z.map aW).flatten]/\O=n-i) (hn_ [1,3,19,20] Z) ⟨0,none,0,0,Qf _,Z,Z,Z⟩ (fun fr aY aZ m _ Q=>?_);obtain ⟨i,t,n1,v,hi,rfl,rfl,rfl⟩:=Q;refine TT 1 [1,3,19,20,21] Z ?_;refine TW (fun ad=>?_) fun ad=>?_
 ·have az:i<n:=by
   have:=aJ ad;omega
  refine TT 2 [1,3,4,19,20] Z ?_;refine TU 4 Z fun R a=>?_;refine Uc ae U9 ?_;refine TX U6 ?_;refine Uq [[.int .i64 i]] U12 (fun a0 _ _ aE=>?_);refine Uy (j:=0) U11 aE Z ax (by show (i+1)*8<=_;omega) fl_ (fun af ag ai=>?_);refine Ua 2 Z ?_;refine Uf (j:=1) U12 ?_;refine TZ [1,3,19,20] a Z ?_;clear a R;refine TY fun R a=>?_;refine Ue _ U7 ?_;refine C4 1 [1,3,19,20] a Z ?_;clear a R;refine G.perm (L':=[.arr (sO af ag ai) 3 1 (i+1) (((List.range (i+1))).map aN).flatten,.obj y (.cells ⟨[.int .i64 n,.slice none 0 0,.slice none 0 0,.slice af ag ai,ah [48],.slice d e f]⟩ 212 (0,0)),.arr (sW d e f) 56 1 n (z.map aW).flatten]) (by rw [Re,QS,QW];exact List.Perm.swap _ _ _) ?_;refine Ug (m':=n-(i+1)) om_ mup (hn_ [1,3,19,20] Z) ⟨i+1,af,ag,ai,om_,Z,Z,Z⟩
 have ak:i=n:=by
  have:=Qe ad;omega
 rw [ak];refine TU 1 Z fun R a=>?_;refine TV (bkT U 1) U8 ?_;refine C4 2 [1,3,35,36,37] a Z ?_;clear a R;refine G.nilArr 209 2 ?_;refine G.nilArr 3 1 ?_;refine G.perm (L':=[.arr (sA none 0 0) 3 1 0 ((lbF n 0).map aN).flatten,.arr (sB none 0 0) 209 2 0 ((lvF c (fun _=>.slice none 0 0) 0).map bE).flatten,.obj y (.cells ⟨[.int .i64 n,.slice none 0 0,.slice none 0 0,.slice t n1 v,ah [48],.slice d e f]⟩ 212 (0,0)),.arr (sO t n1 v) 3 1 n (((List.range n)).map aN).flatten,.arr (sW d e f) 56 1 n (z.map aW).flatten]++(List.range 0).map (opE n c (fun _=>.slice none 0 0))) (by
  show List.Perm ([_,_,_,_,_]++[]) _
  (exact pkL [0,0,1,0,0] rfl)) ?_
 refine G.loop (fun fr C' x O=>∃ (i:Nat)(A2:Option Addr)(n2 c2:Nat)(K:Option Addr)(L M:Nat)(wF:Nat->Value),(i<=c.length)/\fr=[(1,[],.pointer (some ⟨W,0,none⟩)),(3,[],.pointer (some ⟨y,0,none⟩)),(35,[],.slice Ar c.length cr),(36,[],.int .i64 c.length),(37,[],.int .i64 i)]/\x=[.arr (sA A2 n2 c2) 3 1 i ((lbF n i).map aN).flatten,.arr (sB K L M) 209 2 i ((lvF c wF i).map bE).flatten,.obj y (.cells ⟨[.int .i64 n,.slice A2 n2 c2,.slice K L M,.slice t n1 v,ah [48],.slice d e f]⟩ 212 (0,0)),.arr (sO t n1 v) 3 1 n (((List.range n)).map aN).flatten,.arr (sW d e f) 56 1 n (z.map aW).flatten]++(List.range i).map (opE n c wF)/\O=c.length-i) (hn_ [1,3,35,36,37] Z) ⟨0,none,0,0,none,0,0,fun _=>.slice none 0 0,Qf _,Z,Z,Z⟩ (fun fr a1 a2 m _ Q=>?_);obtain ⟨i,A2,n2,c2,K,L,M,wF,hi,rfl,rfl,rfl⟩:=Q;refine TT 1 [1,3,35,36,37,38] Z ?_;refine TW (fun am=>?_) fun am=>?_
 ·have az:i<c.length:=by
   have:=aJ am;omega
  obtain ⟨r,X⟩:∃ r,c[i]?=some r:=⟨c[i],aj az⟩;have N:c.getD i ([],0)=r:=by rw [aw,X];rfl
  have a3:r.1.length=n:=hq.l r (Qc X);obtain ⟨aF,a4⟩:=hq.q r (Qc X);obtain ⟨w,hw⟩:∃ w,vs[i]?=some w:=⟨vs[i]'om_,aj om_⟩;have aA:(c.map gN)[i]?=some (gN r):=by rw [Qg,X];rfl
  have hx:=aC i w (gN r) hw aA;have an:Sl C 1 w (r.1.map aW):=by rw [BF];exact hx
  obtain ⟨Ax,aG,rfl,aH,a5,_⟩:=id an;simp only [al] at an aH hw;refine TU 1 Z fun R a=>?_;refine Ul V.m_ U10 om_ (Ep hw aA) fl_ (fun a6 aK=>?_);refine TV aK U8 ?_;refine Uo U5 (fun b6=>?_);refine TX U6 ?_;refine Uf (j:=0) U12 ?_;refine TZ [1,3,5,6,35,36,37] a Z ?_;clear a R;refine G.freeze 0 Z (fun _ _ aB=>?_);refine TU 1 Z fun R a=>?_;refine TV (bkT aB 1) U8 ?_;refine Un [ah (qtx r.2),.slice none 0 0] U8 ?_;refine Uo U5 (fun Y=>?_);refine Uf (j:=0) U12 ?_;refine TZ [1,3,5,6,7,35,36,37] a Z ?_;clear a R;refine TU 1 Z fun R a=>?_;refine TV (bkT aB 1) U8 ?_;refine C4 2 [1,3,5,7,35,36,37,46,47,48] a Z ?_;clear a R;refine G.nilArr 56 1 ?_;refine Um (L':=[.arr (sF none 0 0) 56 1 0 (((List.range 0).map fun q=>-r.1.getD q 0).map aW).flatten,.obj Y (.cells ⟨[ah (qtx r.2),.slice none 0 0]⟩ 209 (0,0)),.arr (sA A2 n2 c2) 3 1 i ((lbF n i).map aN).flatten,.arr (sB K L M) 209 2 i ((lvF c wF i).map bE).flatten,.obj y (.cells ⟨[.int .i64 n,.slice A2 n2 c2,.slice K L M,.slice t n1 v,ah [48],.slice d e f]⟩ 212 (0,0)),.arr (sO t n1 v) 3 1 n (((List.range n)).map aN).flatten,.arr (sW d e f) 56 1 n (z.map aW).flatten]++(List.range i).map (opE n c wF)) Z ?_;refine G.loop (fun fr C' x O=>∃ (j:Nat)(A:Option Addr)(B E:Nat),(j<=n)/\fr=[(1,[],.pointer (some ⟨W,0,none⟩)),(3,[],.pointer (some ⟨y,0,none⟩)),(5,[],.int .i64 i),(7,[],.pointer (some ⟨Y,0,none⟩)),(35,[],.slice Ar c.length cr),(36,[],.int .i64 c.length),(37,[],.int .i64 i),(46,[],.slice Ax r.1.length aG),(47,[],.int .i64 r.1.length),(48,[],.int .i64 j)]/\x=[.arr (sF A B E) 56 1 j (((List.range j).map fun q=>-r.1.getD q 0).map aW).flatten,.obj Y (.cells ⟨[ah (qtx r.2),.slice A B E]⟩ 209 (0,0)),.arr (sA A2 n2 c2) 3 1 i ((lbF n i).map aN).flatten,.arr (sB K L M) 209 2 i ((lvF c wF i).map bE).flatten,.obj y (.cells ⟨[.int .i64 n,.slice A2 n2 c2,.slice K L M,.slice t n1 v,ah [48],.slice d e f]⟩ 212 (0,0)),.arr (sO t n1 v) 3 1 n (((List.range n)).map aN).flatten,.arr (sW d e f) 56 1 n (z.map aW).flatten]++(List.range i).map (opE n c wF)/\O=n-j) (hn_ [1,3,5,7,35,36,37,46,47,48] Z) ⟨0,none,0,0,Qf _,Z,Z,Z⟩ (fun fr a7 a8 m _ Q=>?_);obtain ⟨j,A,B,E,hj,rfl,rfl,rfl⟩:=Q;refine TT 1 [1,3,5,7,35,36,37,46,47,48,49] Z ?_;refine TW (fun ao=>?_) fun ao=>?_
  ·have a9:j<n:=by
    have:=aJ ao;omega
   have aL:QB 23 (r.1.getD j 0):=OZ aF;refine TY fun R a=>?_;refine Ul an.m_ U10 om_ (dH om_) fl_ (fun ba aM=>?_);refine TV aM U8 ?_;refine C4 1 [1,3,5,7,9,35,36,37,46,47,48] a Z ?_;clear a R;refine Ur [0,1,2,3,4,5,6,7] [(3,1)] Z kr_ (fun R I a=>?_);refine TX U6 ?_;refine Uc ae U9 ?_;refine TX U6 ?_;refine Us (fun _=>(eL _ (r.1.getD j 0) (Qy (bJ aL dc_) dc_))) U9 ?_;refine Uq [[ah (qtx (-(r.1.getD j 0)))]] U12 (fun bb _ _ aO=>?_);refine Uy (j:=0) U11 aO Z ax (by show (j+1)*16<=_;omega) fl_ (fun ap aq ar=>?_);refine TX U6 ?_;refine Uf (j:=1) U12 ?_;refine TZ [1,3,5,7,35,36,37,46,47,48] a Z ?_;clear a I R;refine TY fun R a=>?_;refine Ue _ U7 ?_;refine C4 1 [1,3,5,7,35,36,37,46,47,48] a Z ?_;clear a R;refine G.perm (L':=[.arr (sF ap aq ar) 56 1 (j+1) (((List.range (j+1)).map fun q=>-r.1.getD q 0).map aW).flatten,.obj Y (.cells ⟨[ah (qtx r.2),.slice ap aq ar]⟩ 209 (0,0)),.arr (sA A2 n2 c2) 3 1 i ((lbF n i).map aN).flatten,.arr (sB K L M) 209 2 i ((lvF c wF i).map bE).flatten,.obj y (.cells ⟨[.int .i64 n,.slice A2 n2 c2,.slice K L M,.slice t n1 v,ah [48],.slice d e f]⟩ 212 (0,0)),.arr (sO t n1 v) 3 1 n (((List.range n)).map aN).flatten,.arr (sW d e f) 56 1 n (z.map aW).flatten]++(List.range i).map (opE n c wF)) (by rw [Re,QS,QS,QW];exact List.Perm.swap _ _ _) ?_;refine Ug (m':=n-(j+1)) om_ mup (hn_ [1,3,5,7,35,36,37,46,47,48] Z) ⟨j+1,ap,aq,ar,om_,Z,Z,Z⟩
  have aP:j=n:=by
   have:=Qe ao;omega
  rw [aP];refine G.freeze 1 Z (fun _ _ aQ=>?_);refine Um (L':=[.arr (sF A B E) 56 1 n (((List.range n).map fun q=>-r.1.getD q 0).map aW).flatten,.arr (sA A2 n2 c2) 3 1 i ((lbF n i).map aN).flatten,.arr (sB K L M) 209 2 i ((lvF c wF i).map bE).flatten,.obj y (.cells ⟨[.int .i64 n,.slice A2 n2 c2,.slice K L M,.slice t n1 v,ah [48],.slice d e f]⟩ 212 (0,0)),.arr (sO t n1 v) 3 1 n (((List.range n)).map aN).flatten,.arr (sW d e f) 56 1 n (z.map aW).flatten]++(List.range i).map (opE n c wF)) Z ?_;refine G.cut (fun fr C' x O=>∃ (A7:Option Addr)(n7 c7:Nat)(A8:Option Addr)(n8 c8:Nat),(True)/\fr=[(1,[],.pointer (some ⟨W,0,none⟩)),(3,[],.pointer (some ⟨y,0,none⟩)),(35,[],.slice Ar c.length cr),(36,[],.int .i64 c.length),(37,[],.int .i64 i)]/\x=[.arr (sA A7 n7 c7) 3 1 (i+1) ((lbF n (i+1)).map aN).flatten,.arr (sB A8 n8 c8) 209 2 (i+1) ((lvF c (Ip wF i (.slice A B E)) (i+1)).map bE).flatten,.obj y (.cells ⟨[.int .i64 n,.slice A7 n7 c7,.slice A8 n8 c8,.slice t n1 v,ah [48],.slice d e f]⟩ 212 (0,0)),.arr (sO t n1 v) 3 1 n (((List.range n)).map aN).flatten,.arr (sW d e f) 56 1 n (z.map aW).flatten]++(List.range (i+1)).map (opE n c (Ip wF i (.slice A B E)))) ?_ (fun fr bc bd O be Q=>?_)
  ·refine UP (.cut [0,1,2,3,4,5,6,7,8,9,12,13,14,16] (.alt 10 (.cut [] (.alt 11 (.fin [15,17,18,19,20,21,22,23,24]) (.alt 15 (.cut [] (.alt 11 (.fin [17,18,19,20,21,22,23,24]) (.alt 17 (.fin [11,18,19,20,21,22,23,24]) .stop))) (.alt 17 (.cut [] (.alt 11 (.fin [15,18,19,20,21,22,23,24]) (.alt 15 (.fin [11,18,19,20,21,22,23,24]) .stop))) .stop)))) (.alt 15 (.cut [] (.alt 10 (.cut [] (.alt 11 (.fin [17,18,19,20,21,22,23,24]) (.alt 17 (.fin [11,18,19,20,21,22,23,24]) .stop))) (.alt 17 (.fin [10,11,18,19,20,21,22,23,24]) .stop))) (.alt 17 (.cut [] (.alt 10 (.cut [] (.alt 11 (.fin [15,18,19,20,21,22,23,24]) (.alt 15 (.fin [11,18,19,20,21,22,23,24]) .stop))) (.alt 15 (.fin [10,11,18,19,20,21,22,23,24]) .stop))) .stop)))) [(16,0)] Z Z kr_ (fun R I a F=>?_);refine Ua 5 Z ?_;refine Uc aa U9 ?_;refine TX U6 ?_;refine TV (bkT U 1) U8 ?_;refine TX U6 ?_;refine Ue _ U7 ?_;refine Ua 3 Z ?_;refine U0 (fun _=>((bkT aQ 2).mono I)) U9 ?_;refine UE F Z ⟨?_, ?_, ?_,trivial⟩
   ·refine Uq [[.int .i64 ((n:Int)+(i:Int))]] U12 (fun ab ac _ J=>?_);refine UE F Z ⟨?_, ?_, ?_,trivial⟩
    ·refine Uy (j:=1) U11 J.m_ Z ax (by show (i+1)*8<=_;omega) fl_ (fun g h k=>?_);refine Uc aa U9 ?_;refine Uq [[ah (qtx r.2),.slice A B E]] U12 (fun S T _ H=>?_);refine Uy (j:=2) U11 H.m_ Z ax (by show (i+1)*40<=_;omega) fl_ (fun o p s=>?_);refine Ua 2 Z ?_;refine Uf (j:=3) U12 ?_;refine Ua 2 Z ?_;refine Uf (j:=0) U12 ?_;refine TZ [1,3,35,36,37] a Z ?_;clear a I F R;refine G.perm (L':=Di n c z y d e f t n1 v i wF r A B E g h k o p s) (pkL [2,1,0,1,1,0] Z) ?_;refine G.perm _ (dA N) ?_;exact Uj 0 mup (hn_ [1,3,35,36,37] Z) ⟨g,h,k,o,p,s,trivial,Z,Z⟩
    ·refine Uc aa U9 ?_;refine UE F Z ⟨?_, ?_,trivial⟩
     ·refine Uy (j:=1) U11 J.m_ Z ax (by show (i+1)*8<=_;omega) fl_ (fun g h k=>?_);refine Uq [[ah (qtx r.2),.slice A B E]] U12 (fun S T _ H=>?_);refine Uy (j:=2) U11 H.m_ Z ax (by show (i+1)*40<=_;omega) fl_ (fun o p s=>?_);refine Ua 2 Z ?_;refine Uf (j:=3) U12 ?_;refine Ua 2 Z ?_;refine Uf (j:=0) U12 ?_;refine TZ [1,3,35,36,37] a Z ?_;clear a I F R;refine G.perm (L':=Di n c z y d e f t n1 v i wF r A B E g h k o p s) (pkL [2,1,0,1,1,0] Z) ?_;refine G.perm _ (dA N) ?_;exact Uj 0 mup (hn_ [1,3,35,36,37] Z) ⟨g,h,k,o,p,s,trivial,Z,Z⟩
     refine Uq [[ah (qtx r.2),.slice A B E]] U12 (fun S T _ H=>?_);refine Uy (j:=1) U11 J.m_ Z ax (by show (i+1)*8<=_;omega) fl_ (fun g h k=>?_);refine Uy (j:=2) U11 H.m_ Z ax (by show (i+1)*40<=_;omega) fl_ (fun o p s=>?_);refine Ua 2 Z ?_;refine Uf (j:=3) U12 ?_;refine Ua 2 Z ?_;refine Uf (j:=0) U12 ?_;refine TZ [1,3,35,36,37] a Z ?_;clear a I F R;refine G.perm (L':=Di n c z y d e f t n1 v i wF r A B E g h k o p s) (pkL [2,1,0,1,1,0] Z) ?_;refine G.perm _ (dA N) ?_;exact Uj 0 mup (hn_ [1,3,35,36,37] Z) ⟨g,h,k,o,p,s,trivial,Z,Z⟩
    refine Uq [[ah (qtx r.2),.slice A B E]] U12 (fun S T _ H=>?_);refine UE F Z ⟨?_, ?_,trivial⟩
    ·refine Uy (j:=1) U11 J.m_ Z ax (by show (i+1)*8<=_;omega) fl_ (fun g h k=>?_);refine Uc aa U9 ?_;refine Uy (j:=2) U11 H.m_ Z ax (by show (i+1)*40<=_;omega) fl_ (fun o p s=>?_);refine Ua 2 Z ?_;refine Uf (j:=3) U12 ?_;refine Ua 2 Z ?_;refine Uf (j:=0) U12 ?_;refine TZ [1,3,35,36,37] a Z ?_;clear a I F R;refine G.perm (L':=Di n c z y d e f t n1 v i wF r A B E g h k o p s) (pkL [2,1,0,1,1,0] Z) ?_;refine G.perm _ (dA N) ?_;exact Uj 0 mup (hn_ [1,3,35,36,37] Z) ⟨g,h,k,o,p,s,trivial,Z,Z⟩
    refine Uc aa U9 ?_;refine Uy (j:=1) U11 J.m_ Z ax (by show (i+1)*8<=_;omega) fl_ (fun g h k=>?_);refine Uy (j:=2) U11 H.m_ Z ax (by show (i+1)*40<=_;omega) fl_ (fun o p s=>?_);refine Ua 2 Z ?_;refine Uf (j:=3) U12 ?_;refine Ua 2 Z ?_;refine Uf (j:=0) U12 ?_;refine TZ [1,3,35,36,37] a Z ?_;clear a I F R;refine G.perm (L':=Di n c z y d e f t n1 v i wF r A B E g h k o p s) (pkL [2,1,0,1,1,0] Z) ?_;refine G.perm _ (dA N) ?_;exact Uj 0 mup (hn_ [1,3,35,36,37] Z) ⟨g,h,k,o,p,s,trivial,Z,Z⟩
   ·refine Uc aa U9 ?_;refine UE F Z ⟨?_, ?_,trivial⟩
    ·refine Uq [[.int .i64 ((n:Int)+(i:Int))]] U12 (fun ab ac _ J=>?_);refine UE F Z ⟨?_, ?_,trivial⟩
     ·refine Uy (j:=1) U11 J.m_ Z ax (by show (i+1)*8<=_;omega) fl_ (fun g h k=>?_);refine Uq [[ah (qtx r.2),.slice A B E]] U12 (fun S T _ H=>?_);refine Uy (j:=2) U11 H.m_ Z ax (by show (i+1)*40<=_;omega) fl_ (fun o p s=>?_);refine Ua 2 Z ?_;refine Uf (j:=3) U12 ?_;refine Ua 2 Z ?_;refine Uf (j:=0) U12 ?_;refine TZ [1,3,35,36,37] a Z ?_;clear a I F R;refine G.perm (L':=Di n c z y d e f t n1 v i wF r A B E g h k o p s) (pkL [2,1,0,1,1,0] Z) ?_;refine G.perm _ (dA N) ?_;exact Uj 0 mup (hn_ [1,3,35,36,37] Z) ⟨g,h,k,o,p,s,trivial,Z,Z⟩
     refine Uq [[ah (qtx r.2),.slice A B E]] U12 (fun S T _ H=>?_);refine Uy (j:=1) U11 J.m_ Z ax (by show (i+1)*8<=_;omega) fl_ (fun g h k=>?_);refine Uy (j:=2) U11 H.m_ Z ax (by show (i+1)*40<=_;omega) fl_ (fun o p s=>?_);refine Ua 2 Z ?_;refine Uf (j:=3) U12 ?_;refine Ua 2 Z ?_;refine Uf (j:=0) U12 ?_;refine TZ [1,3,35,36,37] a Z ?_;clear a I F R;refine G.perm (L':=Di n c z y d e f t n1 v i wF r A B E g h k o p s) (pkL [2,1,0,1,1,0] Z) ?_;refine G.perm _ (dA N) ?_;exact Uj 0 mup (hn_ [1,3,35,36,37] Z) ⟨g,h,k,o,p,s,trivial,Z,Z⟩
    refine Uq [[ah (qtx r.2),.slice A B E]] U12 (fun S T _ H=>?_);refine Uq [[.int .i64 ((n:Int)+(i:Int))]] U12 (fun ab ac _ J=>?_);refine Uy (j:=1) U11 J.m_ Z ax (by show (i+1)*8<=_;omega) fl_ (fun g h k=>?_);refine Uy (j:=2) U11 H.m_ Z ax (by show (i+1)*40<=_;omega) fl_ (fun o p s=>?_);refine Ua 2 Z ?_;refine Uf (j:=3) U12 ?_;refine Ua 2 Z ?_;refine Uf (j:=0) U12 ?_;refine TZ [1,3,35,36,37] a Z ?_;clear a I F R;refine G.perm (L':=Di n c z y d e f t n1 v i wF r A B E g h k o p s) (pkL [2,1,0,1,1,0] Z) ?_;refine G.perm _ (dA N) ?_;exact Uj 0 mup (hn_ [1,3,35,36,37] Z) ⟨g,h,k,o,p,s,trivial,Z,Z⟩
   refine Uq [[ah (qtx r.2),.slice A B E]] U12 (fun S T _ H=>?_);refine UE F Z ⟨?_, ?_,trivial⟩
   ·refine Uq [[.int .i64 ((n:Int)+(i:Int))]] U12 (fun ab ac _ J=>?_);refine UE F Z ⟨?_, ?_,trivial⟩
    ·refine Uy (j:=1) U11 J.m_ Z ax (by show (i+1)*8<=_;omega) fl_ (fun g h k=>?_);refine Uc aa U9 ?_;refine Uy (j:=2) U11 H.m_ Z ax (by show (i+1)*40<=_;omega) fl_ (fun o p s=>?_);refine Ua 2 Z ?_;refine Uf (j:=3) U12 ?_;refine Ua 2 Z ?_;refine Uf (j:=0) U12 ?_;refine TZ [1,3,35,36,37] a Z ?_;clear a I F R;refine G.perm (L':=Di n c z y d e f t n1 v i wF r A B E g h k o p s) (pkL [2,1,0,1,1,0] Z) ?_;refine G.perm _ (dA N) ?_;exact Uj 0 mup (hn_ [1,3,35,36,37] Z) ⟨g,h,k,o,p,s,trivial,Z,Z⟩
    refine Uc aa U9 ?_;refine Uy (j:=1) U11 J.m_ Z ax (by show (i+1)*8<=_;omega) fl_ (fun g h k=>?_);refine Uy (j:=2) U11 H.m_ Z ax (by show (i+1)*40<=_;omega) fl_ (fun o p s=>?_);refine Ua 2 Z ?_;refine Uf (j:=3) U12 ?_;refine Ua 2 Z ?_;refine Uf (j:=0) U12 ?_;refine TZ [1,3,35,36,37] a Z ?_;clear a I F R;refine G.perm (L':=Di n c z y d e f t n1 v i wF r A B E g h k o p s) (pkL [2,1,0,1,1,0] Z) ?_;refine G.perm _ (dA N) ?_;exact Uj 0 mup (hn_ [1,3,35,36,37] Z) ⟨g,h,k,o,p,s,trivial,Z,Z⟩
   refine Uc aa U9 ?_;refine Uq [[.int .i64 ((n:Int)+(i:Int))]] U12 (fun ab ac _ J=>?_);refine Uy (j:=1) U11 J.m_ Z ax (by show (i+1)*8<=_;omega) fl_ (fun g h k=>?_);refine Uy (j:=2) U11 H.m_ Z ax (by show (i+1)*40<=_;omega) fl_ (fun o p s=>?_);refine Ua 2 Z ?_;refine Uf (j:=3) U12 ?_;refine Ua 2 Z ?_;refine Uf (j:=0) U12 ?_;refine TZ [1,3,35,36,37] a Z ?_;clear a I F R;refine G.perm (L':=Di n c z y d e f t n1 v i wF r A B E g h k o p s) (pkL [2,1,0,1,1,0] Z) ?_;refine G.perm _ (dA N) ?_;exact Uj 0 mup (hn_ [1,3,35,36,37] Z) ⟨g,h,k,o,p,s,trivial,Z,Z⟩
  obtain ⟨A7,n7,c7,A8,n8,c8,_,rfl,rfl⟩:=Q;refine TY fun R a=>?_;refine Ue _ U7 ?_;refine C4 1 [1,3,35,36,37] a Z ?_;clear a R;refine Ug (m':=c.length-(i+1)) om_ mup (hn_ [1,3,35,36,37] Z) ⟨i+1,A7,n7,c7,A8,n8,c8,(Ip wF i (.slice A B E)),om_,Z,Z,Z⟩
 have ak:i=c.length:=by
  have:=Qe am;omega
 refine TT 2 [2] Z ?_;rw [ak];refine G.perm (L':=(eY y n (Lp.openT (eH n c) fun j=>z.getD j 0) (.slice A2 n2 c2) (.slice K L M) (.slice t n1 v) (.slice d e f) wF).map Lent.ent) (by rw [F0 au];(exact pkL [2,0,0,0] Z)) ?_;refine Ui (UK Z Z ?_);exact ⟨y,.slice A2 n2 c2,.slice K L M,.slice t n1 v,.slice d e f,wF,Z,Z⟩
end Go.Proofs.YthnpijdjlddpmaaGreatDoor
