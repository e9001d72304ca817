/- Laws that the proofs of this seat share, part 12. -/
import Derived.Test.YthnpijdjlddpmaaGreatDoorG11
import Derived.Test.YthnpijdjlddpmaaGreatDoorShelf
set_option maxHeartbeats 4000000
namespace Go.Proofs.YthnpijdjlddpmaaGreatDoor
open Go.Proofs.Tryz
open Go Go.Jog
set_option maxRecDepth 100000
variable {C:Mem}{F N b:Nat}{cc:Nat->Rat}{i j:Nat}{k:Rat}{l:Lp.Line}{m n:Nat}{o:Int}{ob:List Rat}{p:Lp.Sys}{q:Nat->Prop}{r:Nat}{rs:List (List Rat × Rat)}{s:Nat}{t:Lp.Tab}{vs:List Nat}{w wB:Value}{wF:Nat->Value}{wL wO wW wy:Value}
def cN (t:Lp.Tab)(wF:Nat->Value):List (Rat × Value):=(List.range t.basic.length).map fun i=>((t.line i).c,wF i)
theorem fG :(cN t wF).length=t.basic.length:=by simp [cN]
theorem nU (h:i<t.basic.length):(cN t wF)[i]?=some ((t.line i).c,wF i):=by
 unfold cN;rw [Qn,QY h];rfl
def Le (t:Lp.Tab)(wF:Nat->Value)(i:Nat):Lent:=.arr (wF i) t.others.length 1 56 ((t.line i).f.map aY)
def fc (b n:Nat)(t:Lp.Tab)(wB wL wO wW:Value)(wF:Nat->Value):List Lent :=
 .obj b [.int .i64 n,wB,wL,wO,ah (qtx t.worth.c),wW] 212::.arr wB t.basic.length 1 3 (t.basic.map aO)::.arr wL t.basic.length 2 209 ((cN t wF).map bE)
  :: .arr wO t.others.length 1 3 (t.others.map aO)::.arr wW t.others.length 1 56 (t.worth.f.map aY)::(List.range t.basic.length).map (Le t wF)
theorem ia (a:t.Ok N)(h:i<t.basic.length):(t.line i).f.length=t.others.length:=a.fl _ (Lp.line_mem a h)
theorem dK {l:List Rat}:∀ r∈l.map aY,r.length=1:=fun r hr=>by
 obtain ⟨x,_,rfl⟩:=Qq.1 hr;rfl
theorem uG {l:List Nat}:∀ r∈l.map aO,r.length=1:=fun r hr=>by
 obtain ⟨x,_,rfl⟩:=Qq.1 hr;rfl
theorem gb (c:t.Ok N):∀ x∈fc b n t wB wL wO wW wF,x.wf:=by
 intro x a;unfold fc at a;simp only [Qw,Qq,QE] at a;rcases a with rfl | rfl | rfl | rfl | rfl | ⟨i,d,rfl⟩
 ·trivial
 ·exact ⟨by simp,uG⟩
 ·exact ⟨by simp [fG],fun r hr=>by obtain ⟨y,_,rfl⟩:=Qq.1 hr;rfl⟩
 ·exact ⟨by simp,uG⟩
 ·exact ⟨by simp [c.wl],dK⟩
 exact ⟨by simp [ia c d],dK⟩
theorem Ex {b:Type}{f:Lp.Line->Value->b}(a:t.Ok N):List.zipWith f t.lines ((List.range t.basic.length).map wF)=(List.range t.basic.length).map fun i=>f (t.line i) (wF i):=by
 refine List.ext_getElem? fun i=>?_;rw [List.getElem?_zipWith,Qn,Qn];by_cases h:i<t.basic.length
 ·have h2:t.lines[i]?=some (t.line i):=by
   unfold Lp.Tab.line;rw [ax,ak (by rw [a.ll];exact h)];rfl
  rw [h2,QY h];rfl
 rw [Qr (show (List.range t.basic.length).length<=i by simp;omega),Qr (show t.lines.length<=i by rw [a.ll];omega)];rfl
theorem eV (c:t.Ok N)(h:∀ x∈fc b n t wB wL wO wW wF,x.seen C):TabV C b n t wB wL wO wW ((List.range t.basic.length).map wF):=by
 have h1:=h _ (PH ..);have h2:=h _ (Qt _ (PH ..));have h3:=h _ (Qt _ (Qt _ (PH ..)));have h4:=h _ (Qt _ (Qt _ (Qt _ (PH ..))));have h5:=h _ (Qt _ (Qt _ (Qt _ (Qt _ (PH ..)))));have j:∀ i,i<t.basic.length->Sl C 1 (wF i) ((t.line i).f.map aY):=fun i a =>
  h (Le t wF i) (Qt _ (Qt _ (Qt _ (Qt _ (Qt _ (Qq.2 ⟨i,QE.2 a,rfl⟩))))))
 refine ⟨h1,h2,h4,h5, ?_,by simp [c.ll],fun i l w e g=>?_⟩
 ·rw [Ex c];have d:Sl C 2 wL ((cN t wF).map bE):=h3;unfold cN at d;rw [Q8] at d;exact d
 have a:i<t.lines.length:=(aE.1 e).1;rw [c.ll] at a;rw [Qn,QY a] at g;cases g
 have:t.line i=l:=by unfold Lp.Tab.line;rw [ax,e];rfl
 rw [<- this];exact j i a
theorem Jl (C:Mem)(o:Tabs C)(e m f i n s:Nat)(w g:Value)(d:List (Rat × Value))(a b:List Rat)(c h:Rat)(p:d.length=m)(q:d[i]?=some (c,w))(r:a.length=n)(k:b.length=n)(t:s<n)(v:QB 40 c)(y:∀ x∈a,QB 40 x)(z:QB 40 h)(A:∀ x∈b,QB 40 x) :
  Jog.Fn cx.P 237 [.pointer (some ⟨e,i*2,none⟩),.int .i64 s,.agg ⟨[ah (qtx h),g]⟩] C [.arr g 56 1 n (b.map aY).flatten,.arr (.slice (some ⟨e,0,none⟩) m f) 209 2 m (d.map bE).flatten,.arr w 56 1 n (a.map aY).flatten]
   fun u _ j=>u=.tuple #[]/\j=[.arr g 56 1 n (b.map aY).flatten,.arr (.slice (some ⟨e,0,none⟩) m f) 209 2 m ((d.set i (c+a.getD s 0*h,w)).map bE).flatten,.arr w 56 1 n ((kK a b s (a.getD s 0) n).map aY).flatten]:=by
 have l:Jog.Enters cx.P 237=true:=by kernel_rfl
 refine Fn.perm (L2:=[.arr w 56 1 n (a.map aY).flatten,.arr g 56 1 n (b.map aY).flatten,.arr (.slice (some ⟨e,0,none⟩) m f) 209 2 m (d.map bE).flatten]) (QV (l₁:=[_,_]) (l₂:=[_]))<|Fn.form l om_ fun D E F=>?_;subst F;refine Fn.perm (QV (l₁:=[_]) (l₂:=[_,_]))<|(VG (post:=fun u j=>u=.tuple #[]/\j=[.arr (.slice (some ⟨e,0,none⟩) m f) 209 2 m ((d.set i (c+a.getD s 0*h,_)).map bE).flatten,.arr _ 56 1 n ((kK a b s (a.getD s 0) n).map aY).flatten]) l dK (by simp [k]) fun C' G H=>MH C' (o.mono G) e m f i D E n s g d a b c h p q r k t H v y z A).mono ?_;rintro u C' j _ ⟨B,rfl,h1,rfl⟩;exact ⟨h1,Z⟩
theorem Jj (C:Mem)(o:Tabs C)(d n s:Nat)(e f g h w i:Value)(a b:List Rat)(c j:Rat)(p:a.length=n)(l:b.length=n)(q:s<n)(r:QB 40 c)(t:∀ x∈a,QB 40 x)(v:QB 40 j)(y:∀ x∈b,QB 40 x) :
  Jog.Fn cx.P 237 [.pointer (some ⟨d,4,none⟩),.int .i64 s,.agg ⟨[ah (qtx j),i]⟩] C [.arr i 56 1 n (b.map aY).flatten,.obj d (.cells ⟨[e,f,g,h,ah (qtx c),w]⟩ 212 (0,0)),.arr w 56 1 n (a.map aY).flatten]
   fun u _ k=>u=.tuple #[]/\k=[.arr i 56 1 n (b.map aY).flatten,.obj d (.cells ⟨[e,f,g,h,ah (qtx (c+a.getD s 0*j)),w]⟩ 212 (0,0)),.arr w 56 1 n ((kK a b s (a.getD s 0) n).map aY).flatten]:=by
 have m:Jog.Enters cx.P 237=true:=by kernel_rfl
 refine Fn.perm (L2:=[.arr w 56 1 n (a.map aY).flatten,.arr i 56 1 n (b.map aY).flatten,.obj d (.cells ⟨[e,f,g,h,ah (qtx c),w]⟩ 212 (0,0))]) (QV (l₁:=[_,_]) (l₂:=[_]))<|Fn.form m om_ fun A B D=>?_;subst D;refine Fn.perm (QV (l₁:=[_]) (l₂:=[_,_]))<|(VG (post:=fun u k=>u=.tuple #[]/\k=[.obj d (.cells ⟨[e,f,g,h,ah (qtx (c+a.getD s 0*j)),_]⟩ 212 (0,0)),.arr _ 56 1 n ((kK a b s (a.getD s 0) n).map aY).flatten]) m dK (by simp [l]) fun C' E F=>MG C' (o.mono E) d A B n s e f g h i a b c j p l q F r t v y).mono ?_;rintro u C' k _ ⟨z,rfl,h1,rfl⟩;exact ⟨h1,Z⟩
theorem nD (h:Lp.LeaveR F t s n o):o=-1∨∃ r:Nat,o=r/\r<n/\F<=t.bas r/\(t.line r).g s<0:=by
 cases h with
 | none _=>exact .inl rfl
 | some r h1 h2 h3 _=>exact .inr ⟨r,rfl,h1,h2,h3⟩
theorem FW (a b:Rat):decide (sR a b > 0)=decide (b<a):=by
 unfold sR;rw [Q4];split
 ·next h=>exact ⟨fun h2=>absurd h2 dc_,fun h2=>by grind⟩
 split
 ·next h=>exact ⟨fun _=>h,fun _=>by decide⟩
 next h=>exact ⟨fun h2=>absurd h2 dc_,fun h2=>absurd h2 h⟩
theorem FX (a b:Rat):(sR a b == 0)=decide (b=a):=by
 unfold sR;split
 ·next h=>rw [QJ (by grind)];rfl
 split
 ·next h=>rw [QJ (by grind)];rfl
 next h=>rw [QC (by grind)];rfl
theorem JT (C:Mem)(T:Tabs C)(b n s N:Nat)(t:Lp.Tab)(wB wL U V:Value)(k:List Value)(h:TabV C b n t wB wL U V k)(W:t.Ok N)(hs:s<t.others.length)(X:∀ i,i<t.basic.length->QB 16 (t.line i).c/\QB 16 ((t.line i).g s)) :
  Pur cx.P 185 [.pointer (some ⟨b,0,none⟩),.int .i64 s] C fun u _=>∃ o:Int,u=.int .i64 o/\Lp.LeaveR n t s t.basic.length o:=by
 obtain ⟨A1,c1,rfl,ax,ay,_⟩:=id h.B;obtain ⟨A2,c2,rfl,az,aA,_⟩:=id h.L;have E:=h.B;have aB:maxLen<=9223372036854775807:=by simp [maxLen]
 have aC:=W.ll;have ad:=h.fl;have aD:(List.zipWith (fun (l:Lp.Line) w=>[ah (qtx l.c),w]) t.lines k).length=t.basic.length:=by simp;omega
 refine Uk func185 85 U3 fun w0=>Ua 1 [0,1] Z<|Ua 1 [0,1,5] Z<|Ua 1 [0,1,5,6] Z<|Ub 3 Z fun R a=>Uc (PtrTo.blockT (h.m_.o) _ 1) U8<|C4 2 [0,1,5,6,15,16,17] a Z<|G.loop (fun fr C' L' μ=>∃ (i:Nat)(o:Int)(v:Str),(i<=t.basic.length/\Lp.LeaveR n t s i o/\∀ r:Nat,o=r->v=qtx ((t.line r).c / -(t.line r).g s))/\fr=[(0,[],.pointer (some ⟨b,0,none⟩)),(1,[],.int .i64 s),(5,[],.int .i64 o),(6,[],ah v),(15,[],.slice A2 (List.zipWith (fun (l:Lp.Line) w=>[ah (qtx l.c),w]) t.lines k).length c2),(16,[],.int .i64 (List.zipWith (fun (l:Lp.Line) w=>[ah (qtx l.c),w]) t.lines k).length),(17,[],.int .i64 i)]/\L'=[]/\μ=t.basic.length-i) (hn_ [0,1,5,6,15,16,17] Z) ⟨0, -1,[],⟨Qm _,.none fun j hj=>absurd hj (Nat.not_lt_zero _),fun r hr=>by omega⟩,Z,Z,Z⟩ (fun fr aE aF m _ hI=>?_);obtain ⟨i,o,v,⟨hi,f,F⟩,rfl,rfl,rfl⟩:=hI;refine Ua 1 [0,1,5,6,15,16,17,18] Z<|Ud (fun H=>?_) fun H=>?_
 ·have p:i<t.basic.length:=by
   have:=aK H;omega
  obtain ⟨z,aG⟩:=lQ h W p;obtain ⟨A3,c3,ae,aH,aI,_⟩:=id z;obtain ⟨Y,I⟩:=X i p;have aa:=jM (ls:=t.lines) (ws:=k) (i:=i) om_ ad;rw [ae] at aa z;have ab:(qtx ((t.line i).g s)).length<=1000000:=QG (bJ I dc_) dc_;refine Ub 1 Z fun R a=>Ur h.L.m_ U10 om_ aa fl_ fun aL af=>Uc af U8<|Uv U5 fun b8=>Ue U6<|Um (j:=0) U12<|Ug [0,1,5,6,7,8,15,16,17] a Z<|G.freeze 0 Z fun _ _ J=>Ub 4 Z fun R a=>Uc (PtrTo.blockT (h.m_.o) _ 1) U8<|Ue U6<|Ur E.m_ U10 om_ (fe p) fl_ fun aM ag=>Uc ag U8<|Uo (fk _ b n (t.bas i) t _ _ U V k h.m_) U7<|Uh 3 Z<|UE U6 (fun _=>PtrTo.blockT (Mem.get J mup) _ 1) U3<|Ue U6<|D.index U10 (fun hg=>⟨z.mono mup,by omega,dI om_⟩) fl_ Z fun aN ai=>UE U6 ai U3<|UJ (fun _=>(fU _ ((t.line i).g s) ab)) U9<|Ue U6<|UH U8<|Ug [0,1,5,6,7,8,15,16,17,40] a Z<|Ud (fun K=>?_) fun K=>?_
  ·have d:n<=t.bas i->0<=(t.line i).g s:=by
    intro h1;have d:(!decide (n<=t.bas i) || decide (eL ((t.line i).g s).num ≥ 0))=true:=K;rw [FM,QC h1] at d;simpa using d
   refine Uf fun R a=>Ul _ U7<|C4 1 [0,1,5,6,15,16,17] a Z<|Un (m':=t.basic.length-(i+1)) om_ mup (hn_ [0,1,5,6,15,16,17] Z) ⟨i+1,o,v,⟨by omega,f.no d,F⟩,Z,Z,Z⟩
  have d:n<=t.bas i/\(t.line i).g s<0:=by
   have d:(!decide (n<=t.bas i) || decide (eL ((t.line i).g s).num ≥ 0))=false:=K;rw [FM] at d;simp only [RQ,Bool.not_eq_false',Qs,QH] at d;exact ⟨d.1,by have:=d.2;grind⟩
  have ac:-(t.line i).g s≠0:=by have:=d.2;grind
  have aj:=js Y (eZ I) ac;refine Uy [0,1,2,3,4,5,6,7,8,9,10,11,12,13] [(7,1),(8,1)] Z kr_ fun R hB a=>Ue U6<|Uc (bkT J 1) U8<|Ue U6<|Uc (bkT J 1) U8<|Ue U6<|Ur z.m_ U10 om_ (dI om_) fl_ fun aO ak=>Uc ak U8<|UJ (fun _=>(eN _ ((t.line i).g s) ab)) U9<|Uz (fun _=>(gS _ T.m_ (t.line i).c (-(t.line i).g s) 16 dc_ dc_ Y (eZ I) ac)) U9<|C4 5 [0,1,5,6,7,9,15,16,17] a Z<|Ua 1 [0,1,5,6,7,9,15,16,17] Z<|Ua 2 [0,1,5,6,7,9,15,16,17,54] Z<|Ud (fun M=>?_) fun M=>?_
  ·have al:0<=o:=by simpa using aK M
   obtain ⟨r,O,aP,aQ,aR⟩:=(nD f).resolve_left om_;obtain ⟨am,an⟩:=X r om_;have ao:-(t.line r).g s≠0:=by grind
   have ap:=js am (eZ an) ao;have aq:=F r O;rw [O] at f;subst O;subst aq;obtain ⟨x,A⟩:∃ x,(t.line i).c / -(t.line i).g s=x:=⟨_,rfl⟩;obtain ⟨y,hy⟩:∃ y,(t.line r).c / -(t.line r).g s=y:=⟨_,rfl⟩;refine Ub 2 Z fun R a=>Us (gT _ T.m_ _ _ 32 dc_ dc_ aj ap) U7 fl_<|C4 1 [0,1,5,6,7,9,11,15,16,17] a Z<|Uy [0,1,2,3,4,5,6,7,8,9,10,11,12,13,14,15,16,17,18,19,20,21,22] [] Z kr_ fun R hB a=>Uh 9 Z<|UE U6 (fun _=>PtrTo.blockT (h.m_.o) _ 1) U3<|Ue U6<|D.index U10 (fun hg=>⟨E.mono mup,by omega,fe p⟩) fl_ Z fun aS ar=>UE U6 ar U3<|Uh 3 Z<|UE U6 (fun _=>PtrTo.blockT (h.m_.o) _ 1) U3<|Ue U6<|D.index U10 (fun hg=>⟨E.mono mup,by omega,by rw [R5];exact fe om_⟩) fl_ Z fun aT au=>UE U6 au U3<|Ue U6<|UB U8<|UH U8<|Ug [0,1,5,6,7,9,15,16,17,80] a Z<|Ud (fun Q=>?_) fun Q=>?_
   ·have e:y<x∨y=x/\t.bas r<t.bas i:=by
     have e:(decide (sR ((t.line i).c / -(t.line i).g s) ((t.line r).c / -(t.line r).g s) > 0) || (sR ((t.line i).c / -(t.line i).g s) ((t.line r).c / -(t.line r).g s) == 0 && decide ((t.bas i:Int) > (t.bas r:Int))))=true:=Q;rw [A,hy,FW,FX] at e;simp only [RN,Qu,Qs] at e;rcases e with h1 | ⟨h1,h2⟩
     ·exact .inl h1
     exact .inr ⟨h1,by omega⟩
    have q:=f.keep (by rw [A,hy];exact e.elim .inl (fun h1=>.inr ⟨h1.1,by have:=h1.2;omega⟩));refine Uf fun R a=>Ul _ U7<|C4 1 [0,1,5,6,15,16,17] a Z<|Un (m':=t.basic.length-(i+1)) om_ mup (hn_ [0,1,5,6,15,16,17] Z) ⟨i+1,(r:Int),qtx ((t.line r).c / -(t.line r).g s),⟨by omega,q,F⟩,Z,Z,Z⟩
   have e:x<y∨x=y/\t.bas i<=t.bas r:=by
    have e:(decide (sR ((t.line i).c / -(t.line i).g s) ((t.line r).c / -(t.line r).g s) > 0) || (sR ((t.line i).c / -(t.line i).g s) ((t.line r).c / -(t.line r).g s) == 0 && decide ((t.bas i:Int) > (t.bas r:Int))))=false:=Q;rw [A,hy,FW,FX] at e;simp only [RQ,S8,QH] at e;obtain ⟨h1,h2⟩:=e;by_cases h3:x<y
    ·exact .inl h3
    have h4:y=x:=by grind
    rcases h2 with h2 | h2
    ·exact absurd h4 h2
    exact .inr ⟨h4.symm,by omega⟩
   have q:=f.less d.1 d.2 (by rw [A,hy];exact e);refine Ua 4 [0,1,5,6,15,16,17] Z<|Uf fun R a=>Ul _ U7<|C4 1 [0,1,5,6,15,16,17] a Z<|Un (m':=t.basic.length-(i+1)) om_ mup (hn_ [0,1,5,6,15,16,17] Z) ⟨i+1,(i:Int),qtx ((t.line i).c / -(t.line i).g s),⟨by omega,q,fun S av=>by rw [show S=i by omega]⟩,Z,Z,Z⟩
  have al:¬ 0<=o:=by simpa using Ql M
  have aw:o=-1:=by
   rcases nD f with h1 | ⟨r,h1,_⟩
   ·exact h1
   omega
  subst aw;have q:=f.first d.1 d.2;refine Ua 4 [0,1,5,6,15,16,17] Z<|Uf fun R a=>Ul _ U7<|C4 1 [0,1,5,6,15,16,17] a Z<|Un (m':=t.basic.length-(i+1)) om_ mup (hn_ [0,1,5,6,15,16,17] Z) ⟨i+1,(i:Int),qtx ((t.line i).c / -(t.line i).g s),⟨by omega,q,fun S av=>by rw [show S=i by omega]⟩,Z,Z,Z⟩
 have p:i=t.basic.length:=by
  have:=Ql H;omega
 exact Ua 2 [4] Z<|Ui U2<|⟨Z,o,Z,by rw [<- p];exact f⟩
def ryF (t:Lp.Tab)(s n:Nat)(k:Rat)(i:Nat):List Rat:=(List.range n).map fun v=>if v∈t.basic.take i then k*t.dir s v else if v=t.oth s then k else 0
theorem kH :(ryF t s n k i).length=n:=by simp [ryF]
theorem AE {v:Nat}(h:v<n):(ryF t s n k i)[v]?=some (if v∈t.basic.take i then k*t.dir s v else if v=t.oth s then k else 0):=by
 unfold ryF;rw [Qn,QY h];rfl
theorem I6 (h:n<=t.oth s):List.replicate n 0=ryF t s n k 0:=by
 refine List.ext_getElem? fun v=>?_;by_cases a:v<n
 ·rw [AE a,R8,aV a,List.take_zero,aA Rk,aA om_]
 rw [Qr ap,Qr (by rw [kH];omega)]
theorem Mv (h:t.oth s<n):(List.replicate n 0).set (t.oth s) k=ryF t s n k 0:=by
 refine List.ext_getElem? fun v=>?_;rw [List.getElem?_set];by_cases a:v<n
 ·rw [AE a,R8,aV a,List.take_zero,aA Rk];by_cases e:t.oth s=v
  ·rw [aV e,aV (by simpa using h),aV e.symm]
  rw [aA e,aA (fun b=>e b.symm)]
 rw [aA om_,Qr ap,Qr (by rw [kH];omega)]
theorem Mu (b:Lp.TabOf p t)(c:s<t.others.length)(h:i<t.basic.length)(d:t.bas i<n):(ryF t s n k i).set (t.bas i) (k*(t.line i).g s)=ryF t s n k (i+1):=by
 refine List.ext_getElem? fun v=>?_;rw [List.getElem?_set,kH];by_cases a:v<n
 ·rw [AE a,AE a,ly h];by_cases e:t.bas i=v
  ·subst e;rw [aV rfl,aV a,aV am,Lp.dir_bas b c h]
  rw [aA e];by_cases hm:v∈t.basic.take i
  ·rw [aV hm,aV (by simp [hm])]
  rw [aA hm,aA (show ¬ v∈t.basic.take i++[t.bas i] by simp [hm];exact fun h2=>e h2.symm)]
 rw [aA om_,Qr (by rw [kH];omega),Qr (by rw [kH];omega)]
theorem I7 (h:i<t.basic.length)(a:n<=t.bas i):ryF t s n k i=ryF t s n k (i+1):=by
 refine List.map_congr_left fun v hm=>?_;have b:=QE.1 hm;rw [ly h];by_cases hm:v∈t.basic.take i
 ·rw [aV hm,aV (by simp [hm])]
 rw [aA hm,aA (show ¬ v∈t.basic.take i++[t.bas i] by simp [hm];omega)]
theorem Mw (a:Lp.TabOf p t):ryF t s n k t.basic.length=(List.range n).map fun v=>k*t.dir s v:=by
 refine List.map_congr_left fun v _=>?_;rw [Qv];split
 ·rfl
 next h =>
 rw [Lp.dir_oth a h];split <;> grind
def kY (t:Lp.Tab)(s:Nat):Rat:=if 0<t.worth.g s then -1 else 1
theorem OF:qtx (-1)=[45,49]:=by decide +kernel
theorem OE (C:Mem)(N:Tabs C)(p:Lp.Sys)(b s:Nat)(t:Lp.Tab)(Q S T U:Value)(r:List Value)(h:TabV C b p.n t Q S T U r)(x:Lp.TabOf p t)(I:s<t.others.length)(V:p.n<=1000000)(X:∀ i,i<t.basic.length->QB 16 ((t.line i).g s))(Y:QB 16 (t.worth.g s)) :
  Jog.Fn cx.P 120 [.pointer (some ⟨b,0,none⟩),.int .i64 s] C [] fun u _ c=>∃ g,u=.slice (some ⟨g,0,none⟩) p.n p.n/\c=[.arr u 56 1 p.n (((List.range p.n).map fun v=>kY t s*t.dir s v).map aY).flatten]:=by
 have ok:=x.ok;obtain ⟨A1,J,rfl,aa,aq,_⟩:=id h.B;obtain ⟨A2,c2,rfl,ar,au,_⟩:=id h.L;obtain ⟨A3,c3,rfl,av,aw,_⟩:=id h.O;obtain ⟨A4,c4,rfl,ax,ay,_⟩:=id h.W;have ab:=h.B;have az:t.basic.length<=J:=by rwa [al] at aa
 have aB:maxLen<=9223372036854775807:=by simp [maxLen]
 have aC:=ok.ll;have ac:=h.fl;have aD:=ok.wl;have ad:QB 16 (kY t s):=by unfold kY;split <;> exact ⟨by decide,by decide⟩
 refine Uk func120 72 U3 fun w0=>Ua 1 [0,1] Z<|Ua 1 [0,1,5] Z<|Ub 4 Z fun R a=>Uc (PtrTo.blockT (h.m_.o) _ 1) U8<|Ue U6<|Ur h.W.m_ U10 om_ (dI om_) fl_ fun aE ae=>Uc ae U8<|Us (fU _ (t.worth.g s) (QG (bJ Y dc_) dc_)) U7 fl_<|C4 1 [0,1,5,19] a Z<|G.cut (fun fr C' c f=>(True)/\fr=[(0,[],.pointer (some ⟨b,0,none⟩)),(1,[],.int .i64 s),(5,[],ah (qtx (kY t s)))]/\c=[]) ?_ (fun fr _ aF f _ l=>?_)
 ·refine Ud (fun y=>?_) fun y=>?_
  ·have z:kY t s=-1:=by
    have d:0<t.worth.g s:=by
     have d:decide (0<eL (t.worth.g s).num)=true:=y;rw [ua] at d;exact aK d
    unfold kY;rw [aV d]
   refine Ua 1 [0,1,5] Z<|Uq 0 (Mem.le.refl _) (hn_ [0,1,5] Z) ⟨trivial,by rw [z,OF];rfl,Z⟩
  have z:kY t s=1:=by
   have d:¬ 0<t.worth.g s:=by
    have d:decide (0<eL (t.worth.g s).num)=false:=y;rw [ua] at d;exact Ql d
   unfold kY;rw [aA d]
  refine Uq 0 (Mem.le.refl _) (hn_ [0,1,5] Z) ⟨trivial,by rw [z,qtx1];rfl,Z⟩
 obtain ⟨af,rfl,rfl⟩:=l;refine UC [(4,3)] Z fun R a=>Uh 3 Z<|Uc (PtrTo.blockT (h.m_.o) _ 1) U8<|D.call (iW _ p.n V) Z (.inr dc_) U6 (Qo _) fl_ fun aG _ aH _ ag=>C4 1 [0,1,5,6] a Z ?_;obtain ⟨g,rfl,rfl⟩:=ag;refine Ut (L':=[.arr (.slice (some ⟨g,0,none⟩) p.n p.n) 56 1 p.n ((List.replicate p.n (0:Rat)).map aY).flatten]) (by rw [<- tR];rfl)<|Ub 3 Z fun R a=>Uc (PtrTo.blockT (h.m_.o) _ 1) U8<|Ue U6<|Ur h.O.m_ U10 om_ (show (t.others.map aO)[s]?=some (aO (t.oth s)) from fe I) fl_ fun aI aj=>Uc aj U8<|C4 1 [0,1,5,6,7] a Z<|Ub 2 Z fun R a=>Uo (fk _ b p.n (t.oth s) t _ _ _ _ r h.m_) U7<|C4 1 [0,1,5,6,7,35] a Z<|G.cut (fun fr C' c f=>(True)/\fr=[(0,[],.pointer (some ⟨b,0,none⟩)),(1,[],.int .i64 s),(5,[],ah (qtx (kY t s))),(6,[],.slice (some ⟨g,0,none⟩) p.n p.n)]/\c=[.arr (.slice (some ⟨g,0,none⟩) p.n p.n) 56 1 p.n ((ryF t s p.n (kY t s) 0).map aY).flatten]) ?_ (fun fr _ aL f _ l=>?_)
 ·refine Ud (fun A=>?_) fun A=>?_
  ·have q:t.oth s<p.n:=by
    have q:¬ p.n<=t.oth s:=by simpa using A
    omega
   refine Ub 3 Z fun R a=>UI (t.oth s*1) U10 ai U2<|UL (j:=0) U11 (by show t.oth s*1+1<=_;rw [bR bK,RK];omega)<|Ug [0,1,5,6] a Z<|Ut (L':=[.arr (.slice (some ⟨g,0,none⟩) p.n p.n) 56 1 p.n ((ryF t s p.n (kY t s) 0).map aY).flatten]) (by rw [<- Mv q,<- bN bK _ (by rw [RK];exact q)];rfl)<|Uq 0 (Mem.le.refl _) (hn_ [0,1,5,6] Z) ⟨trivial,Z,Z⟩
  have q:p.n<=t.oth s:=by simpa using A
  rw [I6 (k:=kY t s) q];refine Uq 0 (Mem.le.refl _) (hn_ [0,1,5,6] Z) ⟨trivial,Z,Z⟩
 obtain ⟨af,rfl,rfl⟩:=l;refine Ub 3 Z fun R a=>Uc (PtrTo.blockT (h.m_.o) _ 1) U8<|C4 2 [0,1,5,6,43,44,45] a Z<|G.loop (fun fr C' c f=>∃ (i:Nat),(i<=t.basic.length)/\fr=[(0,[],.pointer (some ⟨b,0,none⟩)),(1,[],.int .i64 s),(5,[],ah (qtx (kY t s))),(6,[],.slice (some ⟨g,0,none⟩) p.n p.n),(43,[],.slice A1 (t.basic.map aO).length J),(44,[],.int .i64 (t.basic.map aO).length),(45,[],.int .i64 i)]/\c=[.arr (.slice (some ⟨g,0,none⟩) p.n p.n) 56 1 p.n ((ryF t s p.n (kY t s) i).map aY).flatten]/\f=t.basic.length-i) (hn_ [0,1,5,6,43,44,45] Z) ⟨0,Qm _,Z,Z,Z⟩ (fun fr aM aN m K l=>?_);obtain ⟨i,hi,rfl,rfl,rfl⟩:=l;refine Ua 1 [0,1,5,6,43,44,45,46] Z<|Ud (fun E=>?_) fun E=>?_
 ·have e:i<t.basic.length:=by
   have:=aK E;rw [al] at this;omega
  obtain ⟨F,aP⟩:=lQ h ok e;obtain ⟨A5,c5,ak,aQ,aR,_⟩:=id F;have M:=jM (ls:=t.lines) (ws:=r) (i:=i) om_ ac;rw [ak] at M F;refine Ub 1 Z fun R a=>Ur ab.m_ U10 om_ (show (t.basic.map aO)[i]?=some (aO (t.bas i)) from fe e) fl_ fun aS am=>Uc am U8<|C4 2 [0,1,5,6,8,9,43,44,45] a Z<|Ub 2 Z fun R a=>Uo (fk _ b p.n (t.bas i) t _ _ _ _ r h.m_) U7<|C4 1 [0,1,5,6,8,9,43,44,45,53] a Z<|Ud (fun H=>?_) fun H=>?_
  ·have w:t.bas i<p.n:=by
    have aT:¬ p.n<=t.bas i:=by simpa using H
    omega
   refine Ub 6 Z fun R a=>Uc (PtrTo.blockT (h.m_.o) _ 1) U8<|Ue U6<|Ur h.L.m_ U10 om_ M fl_ fun aU an=>Vy an U10 fl_ fun aW ao=>Uc ao U8<|Ue U6<|Ur F.m_ U10 om_ (dI om_) fl_ fun aX ap=>Uc ap U8<|Us (dS _ N.m_ (kY t s) ((t.line i).g s) 16 dc_ dc_ ad (X i e)) U7 fl_<|UI (t.bas i*1) U10 ai U2<|UL (j:=0) U11 (by show t.bas i*1+1<=_;rw [bR bK,kH];omega)<|Ug [0,1,5,6,43,44,45] a Z<|Uf fun R a=>Ul _ U7<|C4 1 [0,1,5,6,43,44,45] a Z<|Ut (L':=[.arr (.slice (some ⟨g,0,none⟩) p.n p.n) 56 1 p.n ((ryF t s p.n (kY t s) (i+1)).map aY).flatten]) (by rw [<- Mu x I e w,<- bN bK _ (by rw [kH];exact w)];rfl)<|Un (m':=t.basic.length-(i+1)) om_ K (hn_ [0,1,5,6,43,44,45] Z) ⟨i+1,om_,Z,Z,Z⟩
  have w:p.n<=t.bas i:=by simpa using H
  rw [I7 e w];refine Uf fun R a=>Ul _ U7<|C4 1 [0,1,5,6,43,44,45] a Z<|Un (m':=t.basic.length-(i+1)) om_ K (hn_ [0,1,5,6,43,44,45] Z) ⟨i+1,om_,Z,Z,Z⟩
 have e:i=t.basic.length:=by
  have:=Ql E;rw [al] at this;omega
 refine Ua 2 [4] Z<|Up (UR Z Z ?_);exact ⟨g,Z,by rw [e,Mw x]⟩
theorem wq {y:Lp.Line}(a:s<l.f.length):kK l.f y.f s (l.f.getD s 0) l.f.length=(Lp.putL l s y).f/\l.c+l.f.getD s 0*y.c=(Lp.putL l s y).c:=by
 have h:=FJ (c:=l.c) (bc:=y.c) (bf:=y.f) a;exact ⟨(congrArg Lp.Line.f h).symm,(congrArg Lp.Line.c h).symm⟩
theorem Jk (C:Mem)(k:Tabs C)(b m e i n s:Nat)(w d:Value)(a:List (Rat × Value))(l y:Lp.Line)(o:a.length=m)(p:a[i]?=some (l.c,w))(g:l.f.length=n)(q:y.f.length=n)(r:s<n)(h:QB 40 l.c/\∀ x∈l.f,QB 40 x)(j:QB 40 y.c/\∀ x∈y.f,QB 40 x) :
  Jog.Fn cx.P 237 [.pointer (some ⟨b,i*2,none⟩),.int .i64 s,.agg ⟨[ah (qtx y.c),d]⟩] C [.arr d 56 1 n (y.f.map aY).flatten,.arr (.slice (some ⟨b,0,none⟩) m e) 209 2 m (a.map bE).flatten,.arr w 56 1 n (l.f.map aY).flatten]
   fun u _ t=>u=.tuple #[]/\t=[.arr d 56 1 n (y.f.map aY).flatten,.arr (.slice (some ⟨b,0,none⟩) m e) 209 2 m ((a.set i ((Lp.putL l s y).c,w)).map bE).flatten,.arr w 56 1 n ((Lp.putL l s y).f.map aY).flatten]:=by
 obtain ⟨h1,h2⟩:=wq (l:=l) (y:=y) (s:=s) om_;rw [<- h1,<- h2,g];exact Jl C k b m e i n s w d a l.f y.f l.c y.c o p g q r h.1 h.2 j.1 j.2
theorem Ji (C:Mem)(m:Tabs C)(a n s:Nat)(d e g h w b:Value)(l y:Lp.Line)(i:l.f.length=n)(o:y.f.length=n)(p:s<n)(j:QB 40 l.c/\∀ x∈l.f,QB 40 x)(k:QB 40 y.c/\∀ x∈y.f,QB 40 x) :
  Jog.Fn cx.P 237 [.pointer (some ⟨a,4,none⟩),.int .i64 s,.agg ⟨[ah (qtx y.c),b]⟩] C [.arr b 56 1 n (y.f.map aY).flatten,.obj a (.cells ⟨[d,e,g,h,ah (qtx l.c),w]⟩ 212 (0,0)),.arr w 56 1 n (l.f.map aY).flatten]
   fun u _ q=>u=.tuple #[]/\q=[.arr b 56 1 n (y.f.map aY).flatten,.obj a (.cells ⟨[d,e,g,h,ah (qtx (Lp.putL l s y).c),w]⟩ 212 (0,0)),.arr w 56 1 n ((Lp.putL l s y).f.map aY).flatten]:=by
 obtain ⟨h1,h2⟩:=wq (l:=l) (y:=y) (s:=s) om_;rw [<- h1,<- h2,i];exact Jj C m a n s d e g h w b l.f y.f l.c y.c i o p j.1 j.2 k.1 k.2
def byF (l:Lp.Line)(s j:Nat):List Rat:=(List.range l.f.length).map fun q=>if q<j then (Lp.byL l s).g q else 0
theorem kV :(byF l s j).length=l.f.length:=by simp [byF]
theorem Ca {q:Nat}(h:q<l.f.length):(byF l s j)[q]?=some (if q<j then (Lp.byL l s).g q else 0):=by
 unfold byF;rw [Qn,QY h];rfl
theorem KL :List.replicate l.f.length 0=byF l s 0:=by
 refine List.ext_getElem? fun v=>?_;by_cases a:v<l.f.length
 ·rw [Ca a,R8,aV a,aA (Nat.not_lt_zero _)]
 rw [Qr ap,Qr (by rw [kV];omega)]
theorem NO (h:j<l.f.length):(byF l s j).set j (-(if j=s then -1 else l.g j) / l.g s)=byF l s (j+1):=by
 refine List.ext_getElem? fun q=>?_;rw [List.getElem?_set,kV];by_cases a:q<l.f.length
 ·rw [Ca a,Ca a];by_cases e:j=q
  ·subst e;rw [aV rfl,aV a,aV (Nat.lt_succ_self j),Lp.byL_g a];congr 1;split <;> grind
  rw [aA e];by_cases h1:q<j
  ·rw [aV h1,aV om_]
  rw [aA h1,aA om_]
 rw [aA om_,Qr (by rw [kV];omega),Qr (by rw [kV];omega)]
theorem vc :(Lp.byL l s).f.length=l.f.length:=by simp [Lp.byL]
theorem NP :byF l s l.f.length=(Lp.byL l s).f:=by
 refine List.ext_getElem? fun q=>?_;by_cases a:q<l.f.length
 ·rw [Ca a,aV a];unfold Lp.Line.g;rw [ax,ak (by rw [vc];exact a)];rfl
 rw [Qr (by rw [kV];omega),Qr (by rw [vc];omega)]
def stL (t:Lp.Tab)(r s i q:Nat):Lp.Line:=if q<i/\q≠r then Lp.putL (t.line q) s (Lp.byL (t.line r) s) else t.line q
def stV (t:Lp.Tab)(wF:Nat->Value)(r s i:Nat):List (Rat × Value):=(List.range t.basic.length).map fun q=>((stL t r s i q).c,wF q)
def stE (t:Lp.Tab)(wF:Nat->Value)(r s i q:Nat):Ent:=.arr (wF q) 56 1 t.others.length ((stL t r s i q).f.map aY).flatten
theorem iQ :(stV t wF r s i).length=t.basic.length:=by simp [stV]
theorem Aq {q:Nat}(h:q<t.basic.length):(stV t wF r s i)[q]?=some ((stL t r s i q).c,wF q):=by
 unfold stV;rw [Qn,QY h];rfl
theorem tH {q:Nat}:stL t r s 0 q=t.line q:=aA fun h=>Nat.not_lt_zero _ h.1
theorem oQ {q:Nat}(h:q≠i):stL t r s (i+1) q=stL t r s i q:=by
 unfold stL;by_cases h1:q<i/\q≠r
 ·rw [aV h1,aV ⟨by omega,h1.2⟩]
 rw [aA h1,aA fun h2=>h1 ⟨by omega,h2.2⟩]
theorem nS (h:i≠r):stL t r s i i=t.line i/\stL t r s (i+1) i=Lp.putL (t.line i) s (Lp.byL (t.line r) s) :=
 ⟨aA fun h2=>Nat.lt_irrefl _ h2.1,aV ⟨Nat.lt_succ_self _,h⟩⟩
theorem Av {q:Nat}:stL t r s (r+1) q=stL t r s r q:=by
 by_cases h:q=r
 ·subst h;unfold stL;rw [aA fun h=>h.2 rfl,aA fun h=>h.2 rfl]
 exact oQ h
theorem Mk (b:i<t.basic.length)(h:i≠r):(stV t wF r s i).set i ((Lp.putL (t.line i) s (Lp.byL (t.line r) s)).c,wF i)=stV t wF r s (i+1):=by
 refine List.ext_getElem? fun q=>?_;rw [List.getElem?_set,iQ];by_cases a:q<t.basic.length
 ·rw [Aq a,Aq a];by_cases e:i=q
  ·subst e;rw [aV rfl,aV a,(nS h).2]
  rw [aA e,oQ (Ne.symm e)]
 rw [aA om_,Qr (by rw [iQ];omega),Qr (by rw [iQ];omega)]
theorem IJ :stV t wF r s (r+1)=stV t wF r s r:=by
 unfold stV;simp only [Av]
theorem II :stV t wF r s 0=cN t wF:=by
 unfold stV cN;simp only [tH]
theorem Ml (d:t.Ok N)(f:r<t.basic.length):(stV t wF r s t.basic.length).set r ((Lp.byL (t.line r) s).c,wy)=cN (t.pivot r s) fun q=>if q=r then wy else wF q:=by
 have b:(t.pivot r s).basic.length=t.basic.length:=Rb;refine List.ext_getElem? fun q=>?_;rw [List.getElem?_set,iQ];by_cases a:q<t.basic.length
 ·rw [Aq a,nU (by rw [b];exact a),Lp.pivot_line (by rw [d.ll];exact a)];by_cases e:r=q
  ·subst e;rw [aV rfl,aV a,aV rfl,aV rfl]
  rw [aA e,aA (Ne.symm e),aA (Ne.symm e)];unfold stL;rw [aV ⟨a,Ne.symm e⟩]
 rw [aA om_,Qr (by rw [iQ];omega),Qr (by rw [fG,b];omega)]
theorem range_nd :(List.range m).Nodup:=List.nodup_range
theorem Mm (b:t.Ok N)(c:r<t.basic.length) :
  (.arr wy 56 1 t.others.length ((Lp.byL (t.line r) s).f.map aY).flatten::((List.range t.basic.length).erase r).map (stE t wF r s t.basic.length)).Perm (((List.range (t.pivot r s).basic.length).map (Le (t.pivot r s) fun q=>if q=r then wy else wF q)).map Lent.ent):=by
 have g:(t.pivot r s).basic.length=t.basic.length:=Rb;have d:(t.pivot r s).others.length=t.others.length:=Rb;rw [g,Q8];have h0:(Lent.ent ∘ Le (t.pivot r s) fun q=>if q=r then wy else wF q) r=.arr wy 56 1 t.others.length ((Lp.byL (t.line r) s).f.map aY).flatten:=by
  show Ent.arr (if r=r then wy else wF r) _ 1 (t.pivot r s).others.length _=_;rw [aV rfl,d,Lp.pivot_line (by rw [b.ll];exact c),aV rfl]
 have h1:=lN range_nd (QE.2 c) (Lent.ent ∘ Le (t.pivot r s) fun q=>if q=r then wy else wF q) (stE t wF r s t.basic.length) (fun q h a=>by
  have e:=QE.1 h;show Ent.arr (if q=r then wy else wF q) _ 1 (t.pivot r s).others.length _=_;rw [aA a,d,Lp.pivot_line (by rw [b.ll];exact e),aA a];unfold stE stL;rw [aV ⟨e,a⟩])
 rw [h0] at h1;exact h1.symm
theorem Mj (a:t.Ok N)(d:r<t.basic.length) :
  (([.obj b (.cells ⟨[.int .i64 n,wB,wL,wO,ah (qtx (Lp.putL t.worth s (Lp.byL (t.line r) s)).c),wW]⟩ 212 (0,0)),.arr wB 3 1 t.basic.length ((t.basic.set r (t.oth s)).map aO).flatten,.arr wL 209 2 t.basic.length (((stV t wF r s t.basic.length).set r ((Lp.byL (t.line r) s).c,wy)).map bE).flatten,.arr wO 3 1 t.others.length ((t.others.set s (t.bas r)).map aO).flatten,.arr wW 56 1 t.others.length (((Lp.putL t.worth s (Lp.byL (t.line r) s)).f).map aY).flatten]:List Ent)++(.arr wy 56 1 t.others.length ((Lp.byL (t.line r) s).f.map aY).flatten::((List.range t.basic.length).erase r).map (stE t wF r s t.basic.length))).Perm ((fc b n (t.pivot r s) wB wL wO wW fun q=>if q=r then wy else wF q).map Lent.ent):=by
 have e:(t.pivot r s).basic.length=t.basic.length:=Rb;have g:(t.pivot r s).others.length=t.others.length:=Rb;rw [Ml a d];refine (List.Perm.append_left _ (Mm a d)).trans (List.Perm.of_eq ?_);unfold fc;simp only [QX,Lent.ent,e,g];rfl
theorem yt {l:List Nat}(h:i<l.length):l[i]?=some (l.getD i 0):=by
 rw [ax,ak h];rfl
theorem bh (r s:Nat):(fc b n t wB wL wO wW wF).map Lent.ent=[.obj b (.cells ⟨[.int .i64 n,wB,wL,wO,ah (qtx t.worth.c),wW]⟩ 212 (0,0)),.arr wB 3 1 t.basic.length ((t.basic).map aO).flatten,.arr wL 209 2 t.basic.length ((cN t wF).map bE).flatten,.arr wO 3 1 t.others.length ((t.others).map aO).flatten,.arr wW 56 1 t.others.length ((t.worth.f).map aY).flatten]++(List.range t.basic.length).map (stE t wF r s 0):=by
 have e:stE t wF r s 0=Lent.ent ∘ Le t wF:=funext fun q=>by
  unfold stE;rw [tH];rfl
 rw [e,<- Q8];rfl
def LineQ (k:Nat)(l:Lp.Line):Prop:=QB k l.c/\∀ x∈l.f,QB k x
theorem LineQ.le {k m:Nat}{l:Lp.Line}(h:LineQ k l)(a:k<=m):LineQ m l:=⟨h.1.le a,fun x b=>(h.2 x b).le a⟩
theorem LineQ.g {k:Nat}{l:Lp.Line}(h:LineQ k l){j:Nat}(a:j<l.f.length):QB k (l.g j):=by
 unfold Lp.Line.g;rw [ax,ak a];exact h.2 _ (Rh _)
theorem Qc (h:LineQ 16 l)(c:s<l.f.length)(a:l.g s≠0):LineQ 32 (Lp.byL l s):=by
 have b:=h.g c;refine ⟨js (eZ h.1) b a,fun x d=>?_⟩;obtain ⟨q,e,rfl⟩:=Qq.1 d;have i:=QE.1 e;split
 ·exact js ⟨by decide,by decide⟩ b a
 exact js (eZ (h.g i)) b a
theorem ud (C:Mem)(Q:Tabs C)(b n r s N:Nat)(t:Lp.Tab)(S T U d:Value)(a:Nat->Value)(V:t.Ok N)(hm:t.basic.length<=1000000)(aQ:t.others.length<=1000000)(B:r<t.basic.length)(W:s<t.others.length)(hk:(t.line r).g s≠0)(hq:∀ i,i<t.basic.length->LineQ 16 (t.line i))(az:LineQ 16 t.worth) :
  Jog.Fn cx.P 179 [.pointer (some ⟨b,0,none⟩),.int .i64 r,.int .i64 s] C ((fc b n t S T U d a).map Lent.ent) fun u _ A=>u=.tuple #[]/\∃ aB,A=(fc b n (t.pivot r s) S T U d aB).map Lent.ent:=by
 have aR:maxLen<=9223372036854775807:=by simp [maxLen]
 have X:=ia V B;have aC:=V.wl;have J:=hq r B;have ag:s<(t.line r).f.length:=by omega
 have ar:=J.g ag;have au:=Qc J ag hk;refine Uk func179 123 U3 fun w0=>?_;rw [bh r s];refine Ut (L':=[.obj b (.cells ⟨[.int .i64 n,S,T,U,ah (qtx t.worth.c),d]⟩ 212 (0,0)),.arr S 3 1 t.basic.length ((t.basic).map aO).flatten,.arr T 209 2 t.basic.length ((cN t a).map bE).flatten,.arr U 3 1 t.others.length ((t.others).map aO).flatten,.arr d 56 1 t.others.length ((t.worth.f).map aY).flatten]++(List.range t.basic.length).map (stE t a r s 0)) Z<|VU 1 Z om_ (fun o p K=>?_);subst K;refine VU 2 Z om_ (fun k l K=>?_);subst K;refine VU 3 Z om_ (fun w x K=>?_);subst K;refine G.perm (L':=[.arr (a r) 56 1 t.others.length ((t.line r).f.map aY).flatten,.obj b (.cells ⟨[.int .i64 n,.slice (some ⟨o,0,none⟩) t.basic.length p,.slice (some ⟨k,0,none⟩) t.basic.length l,.slice (some ⟨w,0,none⟩) t.others.length x,ah (qtx t.worth.c),d]⟩ 212 (0,0)),.arr (.slice (some ⟨o,0,none⟩) t.basic.length p) 3 1 t.basic.length ((t.basic).map aO).flatten,.arr (.slice (some ⟨k,0,none⟩) t.basic.length l) 209 2 t.basic.length ((cN t a).map bE).flatten,.arr (.slice (some ⟨w,0,none⟩) t.others.length x) 3 1 t.others.length ((t.others).map aO).flatten,.arr d 56 1 t.others.length ((t.worth.f).map aY).flatten]++((List.range t.basic.length).erase r).map (stE t a r s 0)) (by
  have h1:=lN range_nd (QE.2 B) (stE t a r s 0) (stE t a r s 0) (fun _ _ _=>rfl);refine (List.Perm.append_left _ h1).trans ?_;have e:stE t a r s 0 r=.arr (a r) 56 1 t.others.length ((t.line r).f.map aY).flatten:=by unfold stE;rw [tH]
  rw [e]
  (exact pkL [5] rfl)) ?_
 refine G.freezeArr 0 ((t.line r).f.map aY) Z Z dK (by simp [X]) (fun _ _ L=>?_);obtain ⟨Y,c3,av,aD,aS,_⟩:=id L;rw [av] at L;simp only [al] at L aD;have aE:(cN t a)[r]?=some ((t.line r).c,.slice Y (t.line r).f.length c3):=by rw [nU B,av,al]
 refine Ub 3 Z fun R y=>Uj af U9<|Ue U6<|UI (r*2) U10 ai U2<|UW (v:=.agg ⟨[ah (qtx (t.line r).c),.slice Y (t.line r).f.length c3]⟩) ac U6 (fun _=>(by rw [od aE];rfl)) U2<|Uv U5 fun b6=>Um (j:=0) U12<|Ug [0,1,2,6] y Z<|G.freeze 0 Z fun _ _ aj=>Ub 1 Z fun R y=>Uc (bkT aj 1) U8<|Ue U6<|Ur L.m_ U10 om_ (dI ag) fl_ fun aT aF=>Uc aF U8<|C4 1 [0,1,2,6,7] y Z<|UC [(5,3)] Z fun R y=>Uh 3 Z<|Uj af U9<|Ue U6<|D.call (iW _ t.others.length om_) Z (.inr dc_) U6 (Qo _) fl_ (fun aU _ aW _ aG=>?_);obtain ⟨z,rfl,rfl⟩:=aG;refine Uu [ah [],.slice (some ⟨z,0,none⟩) t.others.length t.others.length] U8<|Uv U5 fun E=>Um (j:=0) U12<|Ug [0,1,2,6,7,8] y Z<|Ub 1 Z fun R y=>Uc (bkT aj 1) U8<|Us (eN _ (t.line r).c (QG (bJ J.1 dc_) dc_)) U7 fl_<|Ue U6<|Us (gS _ Q.m_ (-(t.line r).c) ((t.line r).g s) 16 dc_ dc_ (eZ J.1) ar hk) U7 fl_<|Uh 4 Z<|Um (j:=0) U12<|Ug [0,1,2,6,7,8] y Z<|Ub 1 Z fun R y=>Uc (bkT aj 1) U8<|C4 2 [0,1,2,7,8,41,42,43] y Z<|Ut (L':=[.obj E (.cells ⟨[ah (qtx (Lp.byL (t.line r) s).c),.slice (some ⟨z,0,none⟩) t.others.length t.others.length]⟩ 209 (0,0)),.arr (.slice (some ⟨z,0,none⟩) t.others.length t.others.length) 56 1 t.others.length ((byF (t.line r) s 0).map aY).flatten,.obj b (.cells ⟨[.int .i64 n,.slice (some ⟨o,0,none⟩) t.basic.length p,.slice (some ⟨k,0,none⟩) t.basic.length l,.slice (some ⟨w,0,none⟩) t.others.length x,ah (qtx t.worth.c),d]⟩ 212 (0,0)),.arr (.slice (some ⟨o,0,none⟩) t.basic.length p) 3 1 t.basic.length ((t.basic).map aO).flatten,.arr (.slice (some ⟨k,0,none⟩) t.basic.length l) 209 2 t.basic.length ((cN t a).map bE).flatten,.arr (.slice (some ⟨w,0,none⟩) t.others.length x) 3 1 t.others.length ((t.others).map aO).flatten,.arr d 56 1 t.others.length ((t.worth.f).map aY).flatten]++((List.range t.basic.length).erase r).map (stE t a r s 0)) (by rw [<- KL,X,<- tR];rfl)<|G.loop (fun fr C' A M=>∃ (j:Nat),(j<=(t.line r).f.length)/\fr=[(0,[],.pointer (some ⟨b,0,none⟩)),(1,[],.int .i64 r),(2,[],.int .i64 s),(7,[],ah (qtx ((t.line r).g s))),(8,[],.pointer (some ⟨E,0,none⟩)),(41,[],.slice Y (t.line r).f.length c3),(42,[],.int .i64 (t.line r).f.length),(43,[],.int .i64 j)]/\A=[.obj E (.cells ⟨[ah (qtx (Lp.byL (t.line r) s).c),.slice (some ⟨z,0,none⟩) t.others.length t.others.length]⟩ 209 (0,0)),.arr (.slice (some ⟨z,0,none⟩) t.others.length t.others.length) 56 1 t.others.length ((byF (t.line r) s j).map aY).flatten,.obj b (.cells ⟨[.int .i64 n,.slice (some ⟨o,0,none⟩) t.basic.length p,.slice (some ⟨k,0,none⟩) t.basic.length l,.slice (some ⟨w,0,none⟩) t.others.length x,ah (qtx t.worth.c),d]⟩ 212 (0,0)),.arr (.slice (some ⟨o,0,none⟩) t.basic.length p) 3 1 t.basic.length ((t.basic).map aO).flatten,.arr (.slice (some ⟨k,0,none⟩) t.basic.length l) 209 2 t.basic.length ((cN t a).map bE).flatten,.arr (.slice (some ⟨w,0,none⟩) t.others.length x) 3 1 t.others.length ((t.others).map aO).flatten,.arr d 56 1 t.others.length ((t.worth.f).map aY).flatten]++((List.range t.basic.length).erase r).map (stE t a r s 0)/\M=(t.line r).f.length-j) (hn_ [0,1,2,7,8,41,42,43] Z) ⟨0,Qm _,Z,Z,Z⟩ (fun fr aX aZ m _ O=>?_);obtain ⟨j,hj,rfl,rfl,rfl⟩:=O;refine Ua 1 [0,1,2,7,8,41,42,43,44] Z<|Ud (fun ak=>?_) fun ak=>?_
 ·have I:j<(t.line r).f.length:=by
   have:=aK ak;omega
  have aw:QB 16 (if j=s then (-1:Rat) else (t.line r).g j):=by
   split
   ·exact ⟨by decide,by decide⟩
   exact J.g I
  refine Ub 1 Z fun R y=>Ur L.m_ U10 om_ (show ((t.line r).f.map aY)[j]?=some (aY ((t.line r).g j)) from dI I) fl_ fun a0 aH=>Uc aH U8<|C4 2 [0,1,2,7,8,9,10,41,42,43] y Z<|Ua 3 [0,1,2,7,8,9,10,41,42,43,50] Z<|G.cut (fun fr C' A M=>(True)/\fr=[(0,[],.pointer (some ⟨b,0,none⟩)),(1,[],.int .i64 r),(2,[],.int .i64 s),(7,[],ah (qtx ((t.line r).g s))),(8,[],.pointer (some ⟨E,0,none⟩)),(9,[],.int .i64 j),(10,[],ah (qtx (if j=s then (-1:Rat) else (t.line r).g j))),(41,[],.slice Y (t.line r).f.length c3),(42,[],.int .i64 (t.line r).f.length),(43,[],.int .i64 j)]/\A=[.obj E (.cells ⟨[ah (qtx (Lp.byL (t.line r) s).c),.slice (some ⟨z,0,none⟩) t.others.length t.others.length]⟩ 209 (0,0)),.arr (.slice (some ⟨z,0,none⟩) t.others.length t.others.length) 56 1 t.others.length ((byF (t.line r) s j).map aY).flatten,.obj b (.cells ⟨[.int .i64 n,.slice (some ⟨o,0,none⟩) t.basic.length p,.slice (some ⟨k,0,none⟩) t.basic.length l,.slice (some ⟨w,0,none⟩) t.others.length x,ah (qtx t.worth.c),d]⟩ 212 (0,0)),.arr (.slice (some ⟨o,0,none⟩) t.basic.length p) 3 1 t.basic.length ((t.basic).map aO).flatten,.arr (.slice (some ⟨k,0,none⟩) t.basic.length l) 209 2 t.basic.length ((cN t a).map bE).flatten,.arr (.slice (some ⟨w,0,none⟩) t.others.length x) 3 1 t.others.length ((t.others).map aO).flatten,.arr d 56 1 t.others.length ((t.worth.f).map aY).flatten]++((List.range t.basic.length).erase r).map (stE t a r s 0)) ?_ (fun fr _ a1 M _ O=>?_)
  ·refine Ud (fun am=>?_) fun am=>?_
   ·have an:j=s:=by
     have ab:((j:Int) == (s:Int))=true:=am;have:=eq_of_beq ab;omega
    refine Ua 1 [0,1,2,7,8,9,10,41,42,43] Z<|Uq 0 (Mem.le.refl _) (hn_ [0,1,2,7,8,9,10,41,42,43] Z) ⟨trivial,by rw [aV an,OF];rfl,Z⟩
   have an:¬ j=s:=by
    have ab:((j:Int) == (s:Int))=false:=am;intro h;rw [h] at ab;simp at ab
   refine Uq 0 (Mem.le.refl _) (hn_ [0,1,2,7,8,9,10,41,42,43] Z) ⟨trivial,by rw [aA an],Z⟩
  obtain ⟨a2,rfl,rfl⟩:=O;refine Uy [0,1,2,3,4,5,6,7,8,9,10,11] [(4,1),(6,1)] Z kr_ fun R hB y=>Ue U6<|Uj af U9<|Uh 2 Z<|Uz (fun _=>(eN _ (if j=s then (-1:Rat) else (t.line r).g j) (QG (bJ aw dc_) dc_))) U9<|Ue U6<|Uz (fun _=>(gS _ Q.m_ (-(if j=s then (-1:Rat) else (t.line r).g j)) ((t.line r).g s) 16 dc_ dc_ (eZ aw) ar hk)) U9<|Uh 3 Z<|UI (j*1) U10 ai U2<|UL (j:=1) U11 (by show j*1+1<=_;rw [bR bK,kV];omega)<|Ug [0,1,2,7,8,41,42,43] y Z<|Uf fun R y=>Ul _ U7<|C4 1 [0,1,2,7,8,41,42,43] y Z<|G.perm (L':=[.obj E (.cells ⟨[ah (qtx (Lp.byL (t.line r) s).c),.slice (some ⟨z,0,none⟩) t.others.length t.others.length]⟩ 209 (0,0)),.arr (.slice (some ⟨z,0,none⟩) t.others.length t.others.length) 56 1 t.others.length ((byF (t.line r) s (j+1)).map aY).flatten,.obj b (.cells ⟨[.int .i64 n,.slice (some ⟨o,0,none⟩) t.basic.length p,.slice (some ⟨k,0,none⟩) t.basic.length l,.slice (some ⟨w,0,none⟩) t.others.length x,ah (qtx t.worth.c),d]⟩ 212 (0,0)),.arr (.slice (some ⟨o,0,none⟩) t.basic.length p) 3 1 t.basic.length ((t.basic).map aO).flatten,.arr (.slice (some ⟨k,0,none⟩) t.basic.length l) 209 2 t.basic.length ((cN t a).map bE).flatten,.arr (.slice (some ⟨w,0,none⟩) t.others.length x) 3 1 t.others.length ((t.others).map aO).flatten,.arr d 56 1 t.others.length ((t.worth.f).map aY).flatten]++((List.range t.basic.length).erase r).map (stE t a r s 0)) (by rw [<- NO I,<- bN bK _ (by rw [kV];exact I)];exact List.Perm.swap _ _ _)<|Un (m':=(t.line r).f.length-(j+1)) om_ mup (hn_ [0,1,2,7,8,41,42,43] Z) ⟨j+1,om_,Z,Z,Z⟩
 have I:j=(t.line r).f.length:=by
  have:=Ql ak;omega
 rw [I,NP];refine G.freeze 0 Z fun _ _ ao=>Ub 3 Z fun R y=>Uj ae U9<|C4 2 [0,1,2,8,67,68] y Z<|G.perm (L':=[.arr (.slice (some ⟨z,0,none⟩) t.others.length t.others.length) 56 1 t.others.length (((Lp.byL (t.line r) s).f).map aY).flatten,.arr (.slice (some ⟨k,0,none⟩) t.basic.length l) 209 2 t.basic.length ((stV t a r s 0).map bE).flatten,.obj b (.cells ⟨[.int .i64 n,.slice (some ⟨o,0,none⟩) t.basic.length p,.slice (some ⟨k,0,none⟩) t.basic.length l,.slice (some ⟨w,0,none⟩) t.others.length x,ah (qtx t.worth.c),d]⟩ 212 (0,0)),.arr (.slice (some ⟨o,0,none⟩) t.basic.length p) 3 1 t.basic.length ((t.basic).map aO).flatten,.arr (.slice (some ⟨w,0,none⟩) t.others.length x) 3 1 t.others.length ((t.others).map aO).flatten,.arr d 56 1 t.others.length ((t.worth.f).map aY).flatten]++((List.range t.basic.length).erase r).map (stE t a r s 0)) (by rw [II];(exact pkL [0,2] Z))<|G.loop (fun fr C' A M=>∃ (i:Nat),(i<=t.basic.length)/\fr=[(0,[],.pointer (some ⟨b,0,none⟩)),(1,[],.int .i64 r),(2,[],.int .i64 s),(8,[],.pointer (some ⟨E,0,none⟩)),(67,[],.int .i64 t.basic.length),(68,[],.int .i64 i)]/\A=[.arr (.slice (some ⟨z,0,none⟩) t.others.length t.others.length) 56 1 t.others.length (((Lp.byL (t.line r) s).f).map aY).flatten,.arr (.slice (some ⟨k,0,none⟩) t.basic.length l) 209 2 t.basic.length ((stV t a r s i).map bE).flatten,.obj b (.cells ⟨[.int .i64 n,.slice (some ⟨o,0,none⟩) t.basic.length p,.slice (some ⟨k,0,none⟩) t.basic.length l,.slice (some ⟨w,0,none⟩) t.others.length x,ah (qtx t.worth.c),d]⟩ 212 (0,0)),.arr (.slice (some ⟨o,0,none⟩) t.basic.length p) 3 1 t.basic.length ((t.basic).map aO).flatten,.arr (.slice (some ⟨w,0,none⟩) t.others.length x) 3 1 t.others.length ((t.others).map aO).flatten,.arr d 56 1 t.others.length ((t.worth.f).map aY).flatten]++((List.range t.basic.length).erase r).map (stE t a r s i)/\M=t.basic.length-i) (hn_ [0,1,2,8,67,68] Z) ⟨0,Qm _,Z,Z,Z⟩ (fun fr a3 a4 m _ O=>?_);obtain ⟨i,hi,rfl,rfl,rfl⟩:=O;refine Ua 1 [0,1,2,8,67,68,69] Z<|Ud (fun ap=>?_) fun ap=>?_
 ·have F:i<t.basic.length:=by
   have:=aK ap;omega
  refine Ua 2 [0,1,2,8,11,67,68] Z<|Ua 3 [0,1,2,8,11,67,68,73] Z<|Ud (fun aq=>?_) fun aq=>?_
  ·have H:i≠r:=by
    have ad:(!((i:Int) == (r:Int)))=true:=aq;intro h;rw [h] at ad;simp at ad
   have ax:i∈(List.range t.basic.length).erase r:=(List.Nodup.mem_erase_iff range_nd).2 ⟨H,QE.2 F⟩;have ay:=lN (range_nd.erase r) ax (stE t a r s i) (stE t a r s (i+1)) (fun q _ aI=>by unfold stE;rw [oQ aI]);have he:stE t a r s i i=.arr (a i) 56 1 t.others.length ((t.line i).f.map aY).flatten:=by unfold stE;rw [(nS H).1]
   have aL:stE t a r s (i+1) i=.arr (a i) 56 1 t.others.length ((Lp.putL (t.line i) s (Lp.byL (t.line r) s)).f.map aY).flatten:=by unfold stE;rw [(nS H).2]
   have aM:(stV t a r s i)[i]?=some ((t.line i).c,a i):=by rw [Aq F,(nS H).1]
   rw [he] at ay;refine G.perm (L':=[.arr (.slice (some ⟨z,0,none⟩) t.others.length t.others.length) 56 1 t.others.length (((Lp.byL (t.line r) s).f).map aY).flatten,.arr (.slice (some ⟨k,0,none⟩) t.basic.length l) 209 2 t.basic.length ((stV t a r s i).map bE).flatten,.arr (a i) 56 1 t.others.length ((t.line i).f.map aY).flatten,.obj b (.cells ⟨[.int .i64 n,.slice (some ⟨o,0,none⟩) t.basic.length p,.slice (some ⟨k,0,none⟩) t.basic.length l,.slice (some ⟨w,0,none⟩) t.others.length x,ah (qtx t.worth.c),d]⟩ 212 (0,0)),.arr (.slice (some ⟨o,0,none⟩) t.basic.length p) 3 1 t.basic.length ((t.basic).map aO).flatten,.arr (.slice (some ⟨w,0,none⟩) t.others.length x) 3 1 t.others.length ((t.others).map aO).flatten,.arr d 56 1 t.others.length ((t.worth.f).map aY).flatten]++(((List.range t.basic.length).erase r).erase i).map (stE t a r s (i+1))) ((List.Perm.append_left _ ay).trans (pkL [0,0,4] Z))<|Uy [0,1,2,3,4,5,6,7,8] [(8,3)] Z kr_ fun R hB y=>Uh 3 Z<|Uj aa U9<|Ue U6<|UI (i*2) U10 ai U2<|Ue U6<|Uc (bkT ao 2) U8<|D.call (Jk _ Q.m_ k t.basic.length l i t.others.length s (a i) (.slice (some ⟨z,0,none⟩) t.others.length t.others.length) (stV t a r s i) (t.line i) (Lp.byL (t.line r) s) iQ aM (ia V F) (by rw [vc];exact X) W ((hq i F).le dc_) (au.le dc_)) Z (.inr dc_) U6 (pkL [0,0,0] Z) fl_ fun a5 _ a6 _ aN=>Ug [0,1,2,8,67,68] y Z ?_;obtain ⟨-,rfl⟩:=aN;refine G.perm (L':=[.arr (.slice (some ⟨z,0,none⟩) t.others.length t.others.length) 56 1 t.others.length (((Lp.byL (t.line r) s).f).map aY).flatten,.arr (.slice (some ⟨k,0,none⟩) t.basic.length l) 209 2 t.basic.length ((stV t a r s (i+1)).map bE).flatten,.obj b (.cells ⟨[.int .i64 n,.slice (some ⟨o,0,none⟩) t.basic.length p,.slice (some ⟨k,0,none⟩) t.basic.length l,.slice (some ⟨w,0,none⟩) t.others.length x,ah (qtx t.worth.c),d]⟩ 212 (0,0)),.arr (.slice (some ⟨o,0,none⟩) t.basic.length p) 3 1 t.basic.length ((t.basic).map aO).flatten,.arr (.slice (some ⟨w,0,none⟩) t.others.length x) 3 1 t.others.length ((t.others).map aO).flatten,.arr d 56 1 t.others.length ((t.worth.f).map aY).flatten]++((List.range t.basic.length).erase r).map (stE t a r s (i+1))) (by
    rw [<- Mk F H];refine List.Perm.trans (l₂:=[.arr (.slice (some ⟨z,0,none⟩) t.others.length t.others.length) 56 1 t.others.length (((Lp.byL (t.line r) s).f).map aY).flatten,.arr (.slice (some ⟨k,0,none⟩) t.basic.length l) 209 2 t.basic.length (((stV t a r s i).set i ((Lp.putL (t.line i) s (Lp.byL (t.line r) s)).c,a i)).map bE).flatten,.obj b (.cells ⟨[.int .i64 n,.slice (some ⟨o,0,none⟩) t.basic.length p,.slice (some ⟨k,0,none⟩) t.basic.length l,.slice (some ⟨w,0,none⟩) t.others.length x,ah (qtx t.worth.c),d]⟩ 212 (0,0)),.arr (.slice (some ⟨o,0,none⟩) t.basic.length p) 3 1 t.basic.length ((t.basic).map aO).flatten,.arr (.slice (some ⟨w,0,none⟩) t.others.length x) 3 1 t.others.length ((t.others).map aO).flatten,.arr d 56 1 t.others.length ((t.worth.f).map aY).flatten]++(.arr (a i) 56 1 t.others.length ((Lp.putL (t.line i) s (Lp.byL (t.line r) s)).f.map aY).flatten::(((List.range t.basic.length).erase r).erase i).map (stE t a r s (i+1)))) (pkL [0,0,1,1,1,1] Z) (List.Perm.append_left _ ?_);rw [<- aL];exact (lN (range_nd.erase r) ax (stE t a r s (i+1)) (stE t a r s (i+1)) (fun _ _ _=>rfl)).symm) ?_
   refine Uf fun R y=>Ul _ U7<|C4 1 [0,1,2,8,67,68] y Z<|Un (m':=t.basic.length-(i+1)) om_ mup (hn_ [0,1,2,8,67,68] Z) ⟨i+1,om_,Z,Z,Z⟩
  have H:i=r:=by
   have ad:(!((i:Int) == (r:Int)))=false:=aq;simp at ad;omega
  refine Ut (L':=[.arr (.slice (some ⟨z,0,none⟩) t.others.length t.others.length) 56 1 t.others.length (((Lp.byL (t.line r) s).f).map aY).flatten,.arr (.slice (some ⟨k,0,none⟩) t.basic.length l) 209 2 t.basic.length ((stV t a r s (i+1)).map bE).flatten,.obj b (.cells ⟨[.int .i64 n,.slice (some ⟨o,0,none⟩) t.basic.length p,.slice (some ⟨k,0,none⟩) t.basic.length l,.slice (some ⟨w,0,none⟩) t.others.length x,ah (qtx t.worth.c),d]⟩ 212 (0,0)),.arr (.slice (some ⟨o,0,none⟩) t.basic.length p) 3 1 t.basic.length ((t.basic).map aO).flatten,.arr (.slice (some ⟨w,0,none⟩) t.others.length x) 3 1 t.others.length ((t.others).map aO).flatten,.arr d 56 1 t.others.length ((t.worth.f).map aY).flatten]++((List.range t.basic.length).erase r).map (stE t a r s (i+1))) (by
   have e:stE t a r s (r+1)=stE t a r s r:=funext fun q=>by unfold stE;rw [Av]
   rw [H,IJ,e]) ?_
  refine Uf fun R y=>Ul _ U7<|C4 1 [0,1,2,8,67,68] y Z<|Un (m':=t.basic.length-(i+1)) om_ mup (hn_ [0,1,2,8,67,68] Z) ⟨i+1,om_,Z,Z,Z⟩
 have F:i=t.basic.length:=by
  have:=Ql ap;omega
 rw [F];refine G.perm (L':=[.arr (.slice (some ⟨z,0,none⟩) t.others.length t.others.length) 56 1 t.others.length (((Lp.byL (t.line r) s).f).map aY).flatten,.obj b (.cells ⟨[.int .i64 n,.slice (some ⟨o,0,none⟩) t.basic.length p,.slice (some ⟨k,0,none⟩) t.basic.length l,.slice (some ⟨w,0,none⟩) t.others.length x,ah (qtx t.worth.c),d]⟩ 212 (0,0)),.arr d 56 1 t.others.length ((t.worth.f).map aY).flatten,.arr (.slice (some ⟨k,0,none⟩) t.basic.length l) 209 2 t.basic.length ((stV t a r s t.basic.length).map bE).flatten,.arr (.slice (some ⟨o,0,none⟩) t.basic.length p) 3 1 t.basic.length ((t.basic).map aO).flatten,.arr (.slice (some ⟨w,0,none⟩) t.others.length x) 3 1 t.others.length ((t.others).map aO).flatten]++((List.range t.basic.length).erase r).map (stE t a r s t.basic.length)) (pkL [0,1,3,0,0,0] Z)<|Uy [0,1,2,3,4,5] [(5,3)] Z kr_ fun R hB y=>Uh 4 Z<|Uc (bkT ao 2) U8<|D.call (Ji _ Q.m_ b t.others.length s (.int .i64 n) (.slice (some ⟨o,0,none⟩) t.basic.length p) (.slice (some ⟨k,0,none⟩) t.basic.length l) (.slice (some ⟨w,0,none⟩) t.others.length x) d (.slice (some ⟨z,0,none⟩) t.others.length t.others.length) t.worth (Lp.byL (t.line r) s) aC (by rw [vc];exact X) W (az.le dc_) (au.le dc_)) Z (.inr dc_) U6 (pkL [0,0,0] Z) fl_ fun a7 _ a8 _ aP=>Ug [0,1,2,8] y Z ?_;obtain ⟨-,rfl⟩:=aP;refine G.perm (L':=[.obj b (.cells ⟨[.int .i64 n,.slice (some ⟨o,0,none⟩) t.basic.length p,.slice (some ⟨k,0,none⟩) t.basic.length l,.slice (some ⟨w,0,none⟩) t.others.length x,ah (qtx (Lp.putL t.worth s (Lp.byL (t.line r) s)).c),d]⟩ 212 (0,0)),.arr (.slice (some ⟨o,0,none⟩) t.basic.length p) 3 1 t.basic.length ((t.basic).map aO).flatten,.arr (.slice (some ⟨k,0,none⟩) t.basic.length l) 209 2 t.basic.length ((stV t a r s t.basic.length).map bE).flatten,.arr (.slice (some ⟨w,0,none⟩) t.others.length x) 3 1 t.others.length ((t.others).map aO).flatten,.arr d 56 1 t.others.length (((Lp.putL t.worth s (Lp.byL (t.line r) s)).f).map aY).flatten,.arr (.slice (some ⟨z,0,none⟩) t.others.length t.others.length) 56 1 t.others.length (((Lp.byL (t.line r) s).f).map aY).flatten]++((List.range t.basic.length).erase r).map (stE t a r s t.basic.length)) (pkL [1,3,2,2,1] Z)<|Uy [0,1,2,3,4,5,6,7] [] Z kr_ fun R hB y=>Uh 3 Z<|Uj af U9<|Ue U6<|Uc (bkT ao 2) U8<|UI (r*2) U10 ai U2<|UL (j:=2) U11 (by show r*2+2<=_;rw [bR gE,iQ];omega)<|Ug [0,1,2] y Z<|Ut (L':=[.arr (.slice (some ⟨k,0,none⟩) t.basic.length l) 209 2 t.basic.length (((stV t a r s t.basic.length).set r ((Lp.byL (t.line r) s).c,.slice (some ⟨z,0,none⟩) t.others.length t.others.length)).map bE).flatten,.obj b (.cells ⟨[.int .i64 n,.slice (some ⟨o,0,none⟩) t.basic.length p,.slice (some ⟨k,0,none⟩) t.basic.length l,.slice (some ⟨w,0,none⟩) t.others.length x,ah (qtx (Lp.putL t.worth s (Lp.byL (t.line r) s)).c),d]⟩ 212 (0,0)),.arr (.slice (some ⟨o,0,none⟩) t.basic.length p) 3 1 t.basic.length ((t.basic).map aO).flatten,.arr (.slice (some ⟨w,0,none⟩) t.others.length x) 3 1 t.others.length ((t.others).map aO).flatten,.arr d 56 1 t.others.length (((Lp.putL t.worth s (Lp.byL (t.line r) s)).f).map aY).flatten,.arr (.slice (some ⟨z,0,none⟩) t.others.length t.others.length) 56 1 t.others.length (((Lp.byL (t.line r) s).f).map aY).flatten]++((List.range t.basic.length).erase r).map (stE t a r s t.basic.length)) (by rw [<- bN gE _ (by rw [iQ];exact B)];rfl)<|Uy [0,1,2,3,4,5,6,7,8,9,10,11,12,13,14,15,16,17,18,19,20,21,22,23,24,25,26,27] [] Z kr_ fun R hB y=>Uh 3 Z<|Uj ae U9<|Uh 4 Z<|Uj ae U9<|Uh 4 Z<|Uj ae U9<|Ue U6<|UI (s*1) U10 ai U2<|UW aa U6 (fun _=>(by rw [eC ft (show t.others[s]?=some (t.oth s) from yt W)];rfl)) U2<|Uh 3 Z<|Uj ae U9<|Ue U6<|UI (r*1) U10 ai U2<|UW ac U6 (fun _=>(by rw [eC ft (show t.basic[r]?=some (t.bas r) from yt B)];rfl)) U2<|UI (r*1) U10 ai U2<|UL (j:=2) U11 (by show r*1+1<=_;rw [bR ft];omega)<|UI (s*1) U10 ai U2<|UL (j:=3) U11 (by show s*1+1<=_;rw [bR ft];omega)<|Ve [] trivial (y _ _ _ Z ?_);refine G.perm (L':=(fc b n (t.pivot r s) (.slice (some ⟨o,0,none⟩) t.basic.length p) (.slice (some ⟨k,0,none⟩) t.basic.length l) (.slice (some ⟨w,0,none⟩) t.others.length x) d (fun q=>if q=r then (.slice (some ⟨z,0,none⟩) t.others.length t.others.length) else a q)).map Lent.ent) (by
  refine List.Perm.trans ?_ (Mj V B);rw [<- bN ft _ B,<- bN ft _ W]
  (exact pkL [3,1,1,0,0,0] rfl)) ?_
 exact Vo Z<|⟨Z,_,Z⟩
theorem ur (h:Lp.Inv p cc t)(b:Lp.Lim p cc 16)(a:i<t.basic.length):LineQ 16 (t.line i):=by
 refine ⟨h.con b a,fun x c=>?_⟩;obtain ⟨s,hs,rfl⟩:=List.mem_iff_getElem.1 c;have d:=ia h.tab.ok a;have h1:=h.fac b a (s:=s) om_;unfold Lp.Line.g at h1;rw [ax,ak hs] at h1;exact h1
theorem oD (h:Lp.Inv p cc t)(a:Lp.Lim p cc 16):LineQ 16 t.worth:=by
 refine ⟨h.wcon a,fun x b=>?_⟩;obtain ⟨s,hs,rfl⟩:=List.mem_iff_getElem.1 b;have c:=h.tab.ok.wl;have h1:=h.wfac a (s:=s) om_;unfold Lp.Line.g at h1;rw [ax,ak hs] at h1;exact h1
theorem LineQ.g0 {k:Nat}(h:LineQ k l)(a:k<=m)(b:1<=m)(j:Nat):QB m (l.g j):=by
 unfold Lp.Line.g;rw [ax];by_cases c:j<l.f.length
 ·rw [ak c];exact (h.2 _ (Rh _)).le a
 rw [Qr om_];exact Lp.qb_zero b
theorem mC {c:Nat->Prop}(h:Lp.LeastR vs q n o)(e:∀ i,i<n->(q i ↔ c i)):Lp.LeastR vs c n o:=by
 cases h with
 | none h=>exact .none fun i a b=>h i a ((e i a).2 b)
 | some i a b hm=>exact .some i a ((e i a).1 b) fun j d f=>hm j d ((e j d).2 f)
theorem ic (h:Lp.LeastR vs q n o)(a:¬ o<0):∃ i:Nat,o=i/\i<n/\q i/\∀ j,j<n->q j->vs.getD i 0<=vs.getD j 0:=by
 cases h with
 | none h=>exact absurd dc_ a
 | some i b c hm=>exact ⟨i,rfl,b,c,hm⟩
theorem ie (h:Lp.LeastR vs q n o)(a:o<0):∀ i,i<n->¬ q i:=by
 cases h with
 | none h=>exact h
 | some i b c hm=>omega
section
variable {C:Mem} {a a2 b n N:Nat} {r:Int} {t:Lp.Tab} {wB wL wO wW:Value} {wF:Nat->Value}
theorem Ai (c:t.Ok N):∀ x∈.obj a2 [.int .i64 r] 3::fc b n t wB wL wO wW wF,x.wf:=fun x a=>by
 rcases Qw.1 a with rfl | a
 ·trivial
 exact gb c x a
theorem GM (d:t.Ok N)(j:C a=some (.cells ⟨[.pointer (some ⟨b,0,none⟩)]⟩ 202 (0,0)))(k:∀ i,i<t.basic.length->LineQ 16 (t.line i)) :
  Jog.Fn cx.P 180 [wB,.func (.func 181) #[] #[.pointer (some ⟨a,0,none⟩)]] C ((.obj a2 [.int .i64 r] 3::fc b n t wB wL wO wW wF).map Lent.ent)
   fun u _ e=>(∃ o:Int,u=.int .i64 o/\Lp.LeastR t.basic (fun i=>n<=t.bas i/\(t.line i).c<0) t.basic.length o)/\e=(.obj a2 [.int .i64 r] 3::fc b n t wB wL wO wW wF).map Lent.ent:=by
 refine Vn kr_ _ (Ai d) fun C' l hs=>?_;have f:=eV d fun x m=>hs x (Qt _ m);refine (og C' wB t.basic 181 [.pointer (some ⟨a,0,none⟩)] (fun i=>decide (n<=t.bas i) && decide ((t.line i).c<0)) f.B kr_ fun i g D h =>
  Kg D a b n i N t wB wL wO wW _ (f.mono h) d ((l.trans h) _ _ j) g ((k i g).1.le dc_)).mono ?_
 rintro u D e _ ⟨h1,o,rfl,h2⟩;exact ⟨h1,o,Z,mC h2 fun i _=>by simp⟩
theorem GK {r:Nat}(c:t.Ok N)(h:C a=some (.cells ⟨[.pointer (some ⟨b,0,none⟩)]⟩ 202 (0,0)))(j:r<t.basic.length)(k:LineQ 16 (t.line r)) :
  Jog.Fn cx.P 180 [wO,.func (.func 182) #[] #[.pointer (some ⟨a,0,none⟩),.pointer (some ⟨a2,0,none⟩)]] C ((.obj a2 [.int .i64 r] 3::fc b n t wB wL wO wW wF).map Lent.ent)
   fun u _ e=>(∃ o:Int,u=.int .i64 o/\Lp.LeastR t.others (fun i=>n<=t.oth i/\0<(t.line r).g i) t.others.length o)/\e=(.obj a2 [.int .i64 r] 3::fc b n t wB wL wO wW wF).map Lent.ent:=by
 refine Vn kr_ _ (Ai c) fun C' l hs=>?_;have f:=eV c fun x m=>hs x (Qt _ m);have h2:=hs _ (PH ..);refine (og C' wO t.others 182 [.pointer (some ⟨a,0,none⟩),.pointer (some ⟨a2,0,none⟩)] (fun i=>decide (n<=t.oth i) && decide (0<(t.line r).g i)) f.O kr_ fun i p D d =>
  Kf D a a2 b n i r N t wB wL wO wW _ (f.mono d) c ((l.trans d) _ _ h) (d _ _ h2) j p (k.g0 dc_ dc_ i)).mono ?_
 rintro u D e _ ⟨h1,o,rfl,h2⟩;exact ⟨h1,o,Z,mC h2 fun i _=>by simp⟩
end
inductive FeasO (p:Lp.Sys) (t:Lp.Tab):Value->Prop where
 | yes:t.Feas p.n->FeasO p t (.tuple #[.int .i64 0,.bool true])
 | no (r:Nat):r<t.basic.length->p.n<=t.bas r->(t.line r).c<0->(∀ s,s<t.others.length->p.n<=t.oth s->(t.line r).g s<=0)->FeasO p t (.tuple #[.int .i64 r,.bool false])
theorem yP (C:Mem)(X:Tabs C)(p:Lp.Sys)(A:Nat->Rat)(b:Nat)(d:Lp.Tab)(e h k l:Value)(B:Nat->Value)(q:Lp.Inv p A d)(a:Lp.Rel p.n d p.n)(S:Lp.Lim p A 16)(Y:p.m<=1000000)(hn:p.n<=1000000) :
  Jog.Fn cx.P 116 [.pointer (some ⟨b,0,none⟩)] C ((fc b p.n d e h k l B).map Lent.ent) fun u _ w=>∃ t wF,Lp.Inv p A t/\Lp.Rel p.n t p.n/\FeasO p t u/\w=(fc b p.n t e h k l wF).map Lent.ent:=by
 have an:maxLen<=9223372036854775807:=by simp [maxLen]
 refine Uk func116 26 U3 fun w0=>?_;refine Uf fun R a=>?_;refine Uw U6 (fun b1=>?_);refine Uv U5 (fun v=>?_);refine C4 1 [1,2] a Z ?_;clear a R;refine G.freeze 1 Z (fun _ _ x=>?_);refine Ut (L':=[.obj v (.cells ⟨[.int .i64 0]⟩ 3 (0,0)),.obj b (.cells ⟨[.int .i64 p.n,e,h,k,ah (qtx d.worth.c),l]⟩ 212 (0,0)),.arr e 3 1 d.basic.length ((d.basic).map aO).flatten,.arr h 209 2 d.basic.length ((cN d B).map bE).flatten,.arr k 3 1 d.others.length ((d.others).map aO).flatten,.arr l 56 1 d.others.length ((d.worth.f).map aY).flatten]++(List.range d.basic.length).map (stE d B 0 0 0)) (by rw [bh 0 0];rfl) ?_;refine G.loop (fun fr C' w μ=>∃ (t:Lp.Tab)(wF:Nat->Value)(o:Int)(E:Nat),(Lp.Inv p A t/\Lp.Rel p.n t p.n/\∀ K,Lp.Reach (Lp.FeasP p.n) t K->K<=E)/\fr=[(1,[],.pointer (some ⟨b1,0,none⟩)),(2,[],.pointer (some ⟨v,0,none⟩))]/\w=[.obj v (.cells ⟨[.int .i64 o]⟩ 3 (0,0)),.obj b (.cells ⟨[.int .i64 p.n,e,h,k,ah (qtx t.worth.c),l]⟩ 212 (0,0)),.arr e 3 1 t.basic.length ((t.basic).map aO).flatten,.arr h 209 2 t.basic.length ((cN t wF).map bE).flatten,.arr k 3 1 t.others.length ((t.others).map aO).flatten,.arr l 56 1 t.others.length ((t.worth.f).map aY).flatten]++(List.range t.basic.length).map (stE t wF 0 0 0)/\μ=E) (hn_ [1,2] Z) ⟨d,B,0,2 ^ (p.n+p.m),⟨q,a,fun K F=>Lp.feas_len q.tab.ok F⟩,Z,Z,Z⟩ (fun fr ao ap m _ q=>?_);obtain ⟨t,wF,o,E,⟨q,a,F⟩,rfl,rfl,rfl⟩:=q;have ok:=q.tab.ok;have aa:t.basic.length<=1000000:=by rw [q.tab.lb];exact Y
 have ab:t.others.length<=1000000:=by rw [q.tab.lo];exact hn
 have H:∀ i,i<t.basic.length->LineQ 16 (t.line i):=fun i y=>ur q S y;refine UC [(5,3)] Z (fun R a=>?_);refine Uc (bkT x 1) U8 ?_;refine Uh 2 Z ?_;refine Uj ae U9 ?_;refine Ue U6 ?_;refine D.call (GM ok (Mem.get x mup) H) Z (.inr dc_) U6 (show List.Perm _ (((.obj v [.int .i64 o] 3::fc b p.n t e h k l wF).map Lent.ent)++[]) from List.Perm.of_eq (by rw [QM,QX,bh 0 0];rfl)) fl_ (fun aq _ ar _ ac=>?_);obtain ⟨⟨o1,rfl,T⟩,rfl⟩:=ac;refine Um (j:=0) U12 ?_;refine Ug [1,2] a Z ?_;clear a R;refine Ut (L':=[.obj v (.cells ⟨[.int .i64 o1]⟩ 3 (0,0)),.obj b (.cells ⟨[.int .i64 p.n,e,h,k,ah (qtx t.worth.c),l]⟩ 212 (0,0)),.arr e 3 1 t.basic.length ((t.basic).map aO).flatten,.arr h 209 2 t.basic.length ((cN t wF).map bE).flatten,.arr k 3 1 t.others.length ((t.others).map aO).flatten,.arr l 56 1 t.others.length ((t.worth.f).map aY).flatten]++(List.range t.basic.length).map (stE t wF 0 0 0)) (by rw [QM,QX,bh 0 0];rfl) ?_;refine Uf fun R a=>?_;refine Uj af U9 ?_;refine C4 1 [1,2,12] a Z ?_;clear a R;refine Ud (fun I=>?_) fun I=>?_
 ·have J:o1<0:=aK I;have L:=ie T J;refine Uf fun R a=>?_;refine Um (j:=0) U12 ?_;refine C4 1 [2,3] a Z ?_;clear a R;refine Up (Wb 0 Z Z Z Z Z Z ?_);exact ⟨t,wF,q,a,.yes (fun i y z=>by have:=L i y;grind),by rw [bh 0 0];rfl⟩
 have J:¬ o1<0:=Ql I;obtain ⟨r,rfl,hr,⟨M,U⟩,ad⟩:=ic T J;refine UC [(5,3)] Z (fun R a=>?_);refine Uc (bkT x 1) U8 ?_;refine Uh 2 Z ?_;refine Uj ae U9 ?_;refine Ue U6 ?_;refine D.call (GK ok (Mem.get x mup) hr (H r hr)) Z (.inr dc_) U6 (show List.Perm _ (((.obj v [.int .i64 (r:Nat)] 3::fc b p.n t e h k l wF).map Lent.ent)++[]) from List.Perm.of_eq (by rw [QM,QX,bh 0 0];rfl)) fl_ (fun au _ av _ ag=>?_);refine C4 1 [1,2,4] a Z ?_;clear a R;obtain ⟨⟨o2,rfl,V⟩,rfl⟩:=ag;refine Ut (L':=[.obj v (.cells ⟨[.int .i64 (r:Nat)]⟩ 3 (0,0)),.obj b (.cells ⟨[.int .i64 p.n,e,h,k,ah (qtx t.worth.c),l]⟩ 212 (0,0)),.arr e 3 1 t.basic.length ((t.basic).map aO).flatten,.arr h 209 2 t.basic.length ((cN t wF).map bE).flatten,.arr k 3 1 t.others.length ((t.others).map aO).flatten,.arr l 56 1 t.others.length ((t.worth.f).map aY).flatten]++(List.range t.basic.length).map (stE t wF 0 0 0)) (by rw [QM,QX,bh 0 0];rfl) ?_;refine Ua 2 [1,2,4,20] Z ?_;refine Ud (fun N=>?_) fun N=>?_
 ·have O:o2<0:=aK N;have L:=ie V O;refine Uf fun R a=>?_;refine Uj af U9 ?_;refine Um (j:=0) U12 ?_;refine C4 1 [2,3] a Z ?_;clear a R;refine Up (Wb 0 Z Z Z Z Z Z ?_);exact ⟨t,wF,q,a,.no r hr M U (fun s hs z=>by have:=L s hs;grind),by rw [bh 0 0];rfl⟩
 have O:¬ o2<0:=Ql N;obtain ⟨s,rfl,hs,⟨ai,aj⟩,ak⟩:=ic V O;have hP:Lp.FeasP p.n t r s:=⟨hr,hs,M,ai,U,fun i y z hc=>ad i y ⟨z,hc⟩,aj,fun j hj z hg=>ak j hj ⟨z,hg⟩⟩;have W:(t.line r).g s≠0:=by grind
 obtain ⟨aw,al⟩:=Lp.Reach.fall hP F;refine UC [(3,3)] Z (fun R a=>?_);refine Uc (bkT x 1) U8 ?_;refine Uj af U9 ?_;refine Ue U6 ?_;refine D.call (ud _ X.m_ b p.n r s (p.n+p.m) t e h k l wF ok aa ab hr hs W H (oD q S)) Z (.inr dc_) U6 (by rw [bh 0 0];exact (List.perm_append_singleton _ _).symm) fl_ (fun ax _ ay _ am=>?_);refine Ug [1,2] a Z ?_;clear a R;obtain ⟨-,Q,rfl⟩:=am;refine G.perm (L':=[.obj v (.cells ⟨[.int .i64 (r:Nat)]⟩ 3 (0,0)),.obj b (.cells ⟨[.int .i64 p.n,e,h,k,ah (qtx (t.pivot r s).worth.c),l]⟩ 212 (0,0)),.arr e 3 1 (t.pivot r s).basic.length (((t.pivot r s).basic).map aO).flatten,.arr h 209 2 (t.pivot r s).basic.length ((cN (t.pivot r s) Q).map bE).flatten,.arr k 3 1 (t.pivot r s).others.length (((t.pivot r s).others).map aO).flatten,.arr l 56 1 (t.pivot r s).others.length (((t.pivot r s).worth.f).map aY).flatten]++(List.range (t.pivot r s).basic.length).map (stE (t.pivot r s) Q 0 0 0)) (by rw [bh 0 0];exact List.perm_append_singleton _ _) ?_;refine Un (m':=m-1) om_ mup (hn_ [1,2] Z) ⟨t.pivot r s,Q,(r:Int),m-1,⟨q.pivot hr hs W,Lp.rel_pivot ok a hr hs M,al⟩,Z,Z,Z⟩
section
variable {C:Mem} {a b n N:Nat} {t:Lp.Tab} {wB wL wO wW:Value} {wF:Nat->Value}
theorem GJ (c:t.Ok N)(h:C a=some (.cells ⟨[.pointer (some ⟨b,0,none⟩)]⟩ 202 (0,0))) :
  Jog.Fn cx.P 180 [wO,.func (.func 183) #[] #[.pointer (some ⟨a,0,none⟩)]] C ((fc b n t wB wL wO wW wF).map Lent.ent)
   fun u _ d=>(∃ o:Int,u=.int .i64 o/\Lp.LeastR t.others (fun i=>¬ n<=t.oth i/\¬ t.worth.g i=0) t.others.length o)/\d=(fc b n t wB wL wO wW wF).map Lent.ent:=by
 refine Vn kr_ _ (gb c) fun C' j hs=>?_;have e:=eV c hs;refine (og C' wO t.others 183 [.pointer (some ⟨a,0,none⟩)] (fun i=>!decide (n<=t.oth i) && !decide (t.worth.g i=0)) e.O kr_ fun i k D f =>
  Nc D a b n i N t wB wL wO wW _ (e.mono f) c ((j.trans f) _ _ h) k).mono ?_
 rintro u D d _ ⟨h1,o,rfl,h2⟩;exact ⟨h1,o,Z,mC h2 fun i _=>by simp⟩
theorem GI (c:t.Ok N)(h:C a=some (.cells ⟨[.pointer (some ⟨b,0,none⟩)]⟩ 202 (0,0)))(j:LineQ 16 t.worth) :
  Jog.Fn cx.P 180 [wO,.func (.func 184) #[] #[.pointer (some ⟨a,0,none⟩)]] C ((fc b n t wB wL wO wW wF).map Lent.ent)
   fun u _ d=>(∃ o:Int,u=.int .i64 o/\Lp.LeastR t.others (fun i=>n<=t.oth i/\t.worth.g i<0) t.others.length o)/\d=(fc b n t wB wL wO wW wF).map Lent.ent:=by
 refine Vn kr_ _ (gb c) fun C' k hs=>?_;have e:=eV c hs;refine (og C' wO t.others 184 [.pointer (some ⟨a,0,none⟩)] (fun i=>decide (n<=t.oth i) && decide (t.worth.g i<0)) e.O kr_ fun i l D f =>
  Nb D a b n i N t wB wL wO wW _ (e.mono f) c ((k.trans f) _ _ h) l (j.g0 dc_ dc_ i)).mono ?_
 rintro u D d _ ⟨h1,o,rfl,h2⟩;exact ⟨h1,o,Z,mC h2 fun i _=>by simp⟩
theorem GG {s:Nat}(f:Tabs C)(a:t.Ok N)(d:s<t.others.length)(e:∀ i,i<t.basic.length->LineQ 16 (t.line i)) :
  Jog.Fn cx.P 185 [.pointer (some ⟨b,0,none⟩),.int .i64 s] C ((fc b n t wB wL wO wW wF).map Lent.ent)
   fun u _ h=>(∃ o:Int,u=.int .i64 o/\Lp.LeaveR n t s t.basic.length o)/\h=(fc b n t wB wL wO wW wF).map Lent.ent :=
 Vn kr_ _ (gb a) fun C' j k=>JT C' (f.mono j) b n s N t wB wL wO wW _ (eV a k) a d fun i c=>⟨(e i c).1,(e i c).g (by rw [ia a c];exact d)⟩
end
theorem yB (h:Lp.LeaveR F t s n o)(a:o<0):∀ i,i<n->F<=t.bas i->0<=(t.line i).g s:=by
 cases h with
 | none h=>exact h
 | some r _ _ _ _=>omega
theorem yA (h:Lp.LeaveR F t s n o)(a:¬ o<0):∃ r:Nat,o=r/\r<n/\F<=t.bas r/\(t.line r).g s<0 /\
  ∀ i,i<n->F<=t.bas i->(t.line i).g s<0->(t.line r).c / -(t.line r).g s<(t.line i).c / -(t.line i).g s∨(t.line r).c / -(t.line r).g s=(t.line i).c / -(t.line i).g s/\t.bas r<=t.bas i:=by
 cases h with
 | none h=>exact absurd dc_ a
 | some r h1 h2 h3 h4=>exact ⟨r,rfl,h1,h2,h3,h4⟩
inductive MinO (p:Lp.Sys) (t:Lp.Tab):Value->Prop where
 | yes:Lp.RelW p.n t->(∀ s,s<t.others.length->p.n<=t.oth s->0<=t.worth.g s)->MinO p t (.tuple #[.int .i64 0,.bool true])
 | no (s:Nat):s<t.others.length->kY t s*t.worth.g s<0->(∀ i,i<t.basic.length->p.n<=t.bas i->0<=kY t s*(t.line i).g s)->(p.n<=t.oth s->0<=kY t s)->MinO p t (.tuple #[.int .i64 s,.bool false])
theorem yv (C:Mem)(U:Tabs C)(p:Lp.Sys)(F:Nat->Rat)(b:Nat)(a:Lp.Tab)(e k l o:Value)(v:Nat->Value)(q:Lp.Inv p F a)(d:Lp.Rel p.n a p.n)(A:a.Feas p.n)(V:Lp.Lim p F 16)(hm:p.m<=1000000)(hn:p.n<=1000000) :
  Jog.Fn cx.P 118 [.pointer (some ⟨b,0,none⟩)] C ((fc b p.n a e k l o v).map Lent.ent) fun u _ w=>∃ t wF,Lp.Inv p F t/\t.Feas p.n/\MinO p t u/\w=(fc b p.n t e k l o wF).map Lent.ent:=by
 have aw:maxLen<=9223372036854775807:=by simp [maxLen]
 refine Uk func118 32 U3 fun w0=>?_;refine Uf fun R d=>?_;refine Uw U6 (fun b1=>?_);refine C4 2 [1] d Z ?_;clear d R;refine G.freeze 0 Z (fun _ _ B=>?_);refine Ut (L':=[.obj b (.cells ⟨[.int .i64 p.n,e,k,l,ah (qtx a.worth.c),o]⟩ 212 (0,0)),.arr e 3 1 a.basic.length ((a.basic).map aO).flatten,.arr k 209 2 a.basic.length ((cN a v).map bE).flatten,.arr l 3 1 a.others.length ((a.others).map aO).flatten,.arr o 56 1 a.others.length ((a.worth.f).map aY).flatten]++(List.range a.basic.length).map (stE a v 0 0 0)) (by rw [bh 0 0];rfl) ?_;refine UC [(5,3)] Z (fun R d=>?_);refine Uc (bkT B 1) U8 ?_;refine Uh 2 Z ?_;refine Uj af U9 ?_;refine Ue U6 ?_;refine D.call (GJ q.tab.ok (Mem.get B mup)) Z (.inr dc_) U6 (show List.Perm _ (((fc b p.n a e k l o v).map Lent.ent)++[]) from List.Perm.of_eq (by rw [QM,bh 0 0])) fl_ (fun ax _ ay _ ag=>?_);refine C4 1 [1,2] d Z ?_;clear d R;obtain ⟨⟨W,rfl,X⟩,rfl⟩:=ag;refine Ut (L':=[.obj b (.cells ⟨[.int .i64 p.n,e,k,l,ah (qtx a.worth.c),o]⟩ 212 (0,0)),.arr e 3 1 a.basic.length ((a.basic).map aO).flatten,.arr k 209 2 a.basic.length ((cN a v).map bE).flatten,.arr l 3 1 a.others.length ((a.others).map aO).flatten,.arr o 56 1 a.others.length ((a.worth.f).map aY).flatten]++(List.range a.basic.length).map (stE a v 0 0 0)) (by rw [QM,bh 0 0]) ?_;refine Ua 2 [1,2,12] Z ?_;refine Ud (fun H=>?_) fun H=>?_
 ·have y:¬ W<0:=by
   have:=aK H;omega
  obtain ⟨s,rfl,hs,⟨I,Y⟩,_⟩:=ic X y;have ai:kY a s*a.worth.g s<0:=by
   unfold kY;split <;> grind
  refine Ua 3 [2,3] Z ?_;refine Up (UD U3 ?_);refine ⟨a,v,q,A,.no s hs ai (fun i z x=>?_) (fun h=>absurd h I),by rw [bh 0 0]⟩;rw [d s (by rw [<- q.tab.lo];exact hs) hs om_ i z x,Rat.mul_zero];exact Rat.le_refl
 have y:W<0:=by
  have:=Ql H;omega
 have E:=ie X y;have aj:Lp.RelW p.n a:=fun s hs az=>by
  have:=E s hs;have h2:¬ p.n<=a.oth s:=by omega
  grind
 refine G.loop (fun fr C' w μ=>∃ (t:Lp.Tab)(wF:Nat->Value)(J:Nat),(Lp.Inv p F t/\Lp.Rel p.n t p.n/\t.Feas p.n/\Lp.RelW p.n t/\∀ K,Lp.Reach (Lp.MinP p.n) t K->K<=J)/\fr=[(1,[],.pointer (some ⟨b1,0,none⟩))]/\w=[.obj b (.cells ⟨[.int .i64 p.n,e,k,l,ah (qtx t.worth.c),o]⟩ 212 (0,0)),.arr e 3 1 t.basic.length ((t.basic).map aO).flatten,.arr k 209 2 t.basic.length ((cN t wF).map bE).flatten,.arr l 3 1 t.others.length ((t.others).map aO).flatten,.arr o 56 1 t.others.length ((t.worth.f).map aY).flatten]++(List.range t.basic.length).map (stE t wF 0 0 0)/\μ=J) (hn_ [1] Z) ⟨a,v,2 ^ (p.n+p.m),⟨q,d,A,aj,fun K L=>Lp.min_len q.tab.ok L⟩,Z,Z,Z⟩ (fun fr aB aC m _ q=>?_);obtain ⟨t,wF,J,⟨q,d,A,hW,L⟩,rfl,rfl,rfl⟩:=q;have ok:=q.tab.ok;have ak:t.basic.length<=1000000:=by rw [q.tab.lb];exact hm
 have al:t.others.length<=1000000:=by rw [q.tab.lo];exact hn
 have hq:∀ i,i<t.basic.length->LineQ 16 (t.line i):=fun i z=>ur q V z;have aa:=oD q V;refine UC [(5,3)] Z (fun R d=>?_);refine Uc (bkT B 1) U8 ?_;refine Uh 2 Z ?_;refine Uj af U9 ?_;refine Ue U6 ?_;refine D.call (GI ok (Mem.get B mup) aa) Z (.inr dc_) U6 (show List.Perm _ (((fc b p.n t e k l o wF).map Lent.ent)++[]) from List.Perm.of_eq (by rw [QM,bh 0 0])) fl_ (fun aD _ aE _ am=>?_);refine C4 1 [1,2] d Z ?_;clear d R;obtain ⟨⟨o1,rfl,ab⟩,rfl⟩:=am;refine Ut (L':=[.obj b (.cells ⟨[.int .i64 p.n,e,k,l,ah (qtx t.worth.c),o]⟩ 212 (0,0)),.arr e 3 1 t.basic.length ((t.basic).map aO).flatten,.arr k 209 2 t.basic.length ((cN t wF).map bE).flatten,.arr l 3 1 t.others.length ((t.others).map aO).flatten,.arr o 56 1 t.others.length ((t.worth.f).map aY).flatten]++(List.range t.basic.length).map (stE t wF 0 0 0)) (by rw [QM,bh 0 0]) ?_;refine Ua 2 [1,2,21] Z ?_;refine Ud (fun M=>?_) fun M=>?_
 ·have y:o1<0:=aK M;have E:=ie ab y;refine Ua 2 [2,3] Z ?_;refine Up (UD U3 ?_);exact ⟨t,wF,q,A,.yes hW (fun s hs x=>by have:=E s hs;grind),by rw [bh 0 0]⟩
 have y:¬ o1<0:=Ql M;obtain ⟨s,rfl,hs,⟨I,Y⟩,an⟩:=ic ab y;refine UC [(2,3)] Z (fun R d=>?_);refine Uc (bkT B 1) U8 ?_;refine Ue U6 ?_;refine D.call (GG U.m_ ok hs hq) Z (.inr dc_) U6 (show List.Perm _ (((fc b p.n t e k l o wF).map Lent.ent)++[]) from List.Perm.of_eq (by rw [QM,bh 0 0])) fl_ (fun aF _ aG _ ao=>?_);refine C4 1 [1,2,4] d Z ?_;clear d R;obtain ⟨⟨o2,rfl,ac⟩,rfl⟩:=ao;refine Ut (L':=[.obj b (.cells ⟨[.int .i64 p.n,e,k,l,ah (qtx t.worth.c),o]⟩ 212 (0,0)),.arr e 3 1 t.basic.length ((t.basic).map aO).flatten,.arr k 209 2 t.basic.length ((cN t wF).map bE).flatten,.arr l 3 1 t.others.length ((t.others).map aO).flatten,.arr o 56 1 t.others.length ((t.worth.f).map aY).flatten]++(List.range t.basic.length).map (stE t wF 0 0 0)) (by rw [QM,bh 0 0]) ?_;refine Ua 2 [1,2,4,26] Z ?_;refine Ud (fun N=>?_) fun N=>?_
 ·have O:o2<0:=aK N;have E:=yB ac O;have Q:kY t s=1:=by
   unfold kY;rw [aA (by grind)]
  refine Ua 3 [2,3] Z ?_;refine Up (UD U3 ?_);refine ⟨t,wF,q,A,.no s hs (by rw [Q];grind) (fun i z x=>?_) (fun _=>by rw [Q];decide),by rw [bh 0 0]⟩;rw [Q];have:=E i z x;grind
 have O:¬ o2<0:=Ql N;obtain ⟨r,rfl,hr,S,ap,aq⟩:=yA ac O;have hP:Lp.MinP p.n t r s:=⟨hr,hs,S,I,Y,fun j hj x hg=>an j hj ⟨x,hg⟩,ap,aq,A⟩;have ad:(t.line r).g s≠0:=by grind
 obtain ⟨aH,ar⟩:=Lp.Reach.fall hP L;refine UC [(3,3)] Z (fun R d=>?_);refine Uc (bkT B 1) U8 ?_;refine Uh 2 Z ?_;refine D.call (ud _ U.m_ b p.n r s (p.n+p.m) t e k l o wF ok ak al hr hs ad hq aa) Z (.inr dc_) U6 (show List.Perm _ (((fc b p.n t e k l o wF).map Lent.ent)++[]) from List.Perm.of_eq (by rw [QM,bh 0 0])) fl_ (fun aI _ aL _ au=>?_);refine Ug [1] d Z ?_;clear d R;obtain ⟨-,T,rfl⟩:=au;refine Ut (L':=[.obj b (.cells ⟨[.int .i64 p.n,e,k,l,ah (qtx (t.pivot r s).worth.c),o]⟩ 212 (0,0)),.arr e 3 1 (t.pivot r s).basic.length (((t.pivot r s).basic).map aO).flatten,.arr k 209 2 (t.pivot r s).basic.length ((cN (t.pivot r s) T).map bE).flatten,.arr l 3 1 (t.pivot r s).others.length (((t.pivot r s).others).map aO).flatten,.arr o 56 1 (t.pivot r s).others.length (((t.pivot r s).worth.f).map aY).flatten]++(List.range (t.pivot r s).basic.length).map (stE (t.pivot r s) T 0 0 0)) (by rw [QM,bh 0 0]) ?_;refine Un (m':=m-1) om_ mup (hn_ [1] Z) ⟨t.pivot r s,T,m-1,⟨q.pivot hr hs ad,Lp.rel_pivot ok d hr hs S,Lp.min_feas ok hP,Lp.relw_pivot ok (fun s' ae av i z x=>d s' (by rw [<- q.tab.lo];exact ae) ae av i z x) hW hr hs S,ar⟩,Z,Z,Z⟩
theorem Pf (C:Mem)(v:Value)(l:List Nat)(b:Sl C 1 v (l.map aO))(t:l.length<=1000000):Jog.Fn cx.P 50 [v] C [] fun u _w e=>∃ A n c,u=.slice A n c/\e=[.arr (.slice A n c) 3 1 l.length (l.map aO).flatten]:=by
 obtain ⟨f,c0,rfl,m,x,y,o⟩:=id b;have z:maxLen<=9223372036854775807:=by simp [maxLen]
 simp only [al] at b m ⊢;refine Uk func50 8 U3 fun w0=>Ua 1 [0] Z<|Ub 1 Z fun R d=>VP U9<|Ug [0,4] d Z<|Ud (fun h4=>?_) fun h4=>?_
 ·have p:f=none:=by
   cases f with
   | none=>rfl
   | some a=>cases h4
  have s:l=[]:=by
   cases l with
   | nil=>rfl
   | cons q r =>
    obtain ⟨a,g,_⟩:=o 0 (aO q) rfl;rw [p] at g;cases g
  refine Ua 1 [2] Z<|G.nilArr 3 1<|Up (UR Z Z ?_);exact ⟨none,0,0,Z,by rw [s];rfl⟩
 refine Uf fun R d=>Vi [] U12 fl_ fun B=>Ue U6<|UF (j:=0) U11 b.m_ (by simp [aO,mG]) (by simp only [al,Qy,maxLen];omega) (by simp only [al,Qy];omega) fl_ fun h i k=>C4 1 [2] d Z<|Ut (L':=[.arr (.slice h i k) 3 1 l.length (l.map aO).flatten]) am<|Up (UR Z Z ?_);exact ⟨h,i,k,Z,Z⟩
theorem MC (C:Mem)(b s:Nat)(q:Rat)(w:Value)(l:List Rat)(c:Sl C 1 w (l.map aY))(d:C b=some (.cells ⟨[.int .i64 s]⟩ 3 (0,0)))(e:s<l.length) :
  Gives cx.P 176 [.agg ⟨[ah (qtx q),w]⟩,.pointer (some ⟨b,0,none⟩)] C (.bool (!decide (l.getD s 0=0))):=by
 obtain ⟨h,i,rfl,j,k,_⟩:=id c;have m:maxLen<=9223372036854775807:=by simp [maxLen]
 refine Uk func176 10 U3 fun w0=>Uf fun R a=>Uw U6 fun n=>C4 1 [1,2] a Z<|G.freeze 0 Z fun _ _ f=>Ub 1 Z fun R a=>Uc (bkT f 1) U8<|Uc (bkT d 1) U8<|Ur c.m_ U10 om_ (dI e) fl_ fun o g=>Uc g U8<|C4 2 [3] a Z<|Ui U2<|⟨?_,Z⟩;show Value.bool _=Value.bool _;congr 1;show (!((⟨(qtx (l.getD s 0)).toArray⟩:ByteArray).data.toList == (⟨#[48]⟩:ByteArray).data.toList))=_;rw [fV]
theorem MB (C:Mem)(b s:Nat)(q:Rat)(w:Value)(l:List Rat)(c:Sl C 1 w (l.map aY))(d:C b=some (.cells ⟨[.int .i64 s]⟩ 3 (0,0)))(e:s<l.length) :
  Gives cx.P 178 [.agg ⟨[ah (qtx q),w]⟩,.pointer (some ⟨b,0,none⟩)] C (.bool (!decide (l.getD s 0=0))):=by
 obtain ⟨h,i,rfl,j,k,_⟩:=id c;have m:maxLen<=9223372036854775807:=by simp [maxLen]
 refine Uk func178 10 U3 fun w0=>Uf fun R a=>Uw U6 fun n=>C4 1 [1,2] a Z<|G.freeze 0 Z fun _ _ f=>Ub 1 Z fun R a=>Uc (bkT f 1) U8<|Uc (bkT d 1) U8<|Ur c.m_ U10 om_ (dI e) fl_ fun o g=>Uc g U8<|C4 2 [3] a Z<|Ui U2<|⟨?_,Z⟩;show Value.bool _=Value.bool _;congr 1;show (!((⟨(qtx (l.getD s 0)).toArray⟩:ByteArray).data.toList == (⟨#[48]⟩:ByteArray).data.toList))=_;rw [fV]
inductive FirstR (q:Nat->Prop) (n:Nat):Int->Prop where
 | none:(∀ i,i<n->¬ q i)->FirstR q n (-1)
 | some (r:Nat):r<n->q r->(∀ i,i<r->¬ q i)->FirstR q n r
theorem GC (C:Mem)(v:Value)(a:List (Rat × Value))(g:Nat)(c:List Value)(q:Nat->Prop)[DecidablePred q](d:Sl C 2 v (a.map bE))(_E:Jog.Enters cx.P g=true)
  (p:∀ i x,a[i]?=some x->∀ D:Mem,C.le D->Gives cx.P g (.agg ⟨bE x⟩::c) D (.bool (decide (q i)))) :
  Pur cx.P 175 [v,.func (.func g) #[] ⟨c⟩] C fun u _=>∃ o:Int,u=.int .i64 o/\FirstR q a.length o:=by
 obtain ⟨r,c0,rfl,s,F,_⟩:=id d;have H:maxLen<=9223372036854775807:=by simp [maxLen]
 simp only [al] at d s ⊢;refine Uk func175 19 U3 fun w0=>Ua 1 [0,1] Z<|Ua 3 [0,1,7,8] Z<|G.loop (fun fr C' t w=>∃ (i:Nat),(i<=a.length/\∀ j,j<i->¬ q j)/\fr=[(0,[],.slice r a.length c0),(1,[],.func (.func g) #[] ⟨c⟩),(7,[],.int .i64 a.length),(8,[],.int .i64 i)]/\t=[]/\w=a.length-i) (hn_ [0,1,7,8] Z) ⟨0,⟨Qm _,fun j e=>absurd e (Nat.not_lt_zero _)⟩,Z,Z,Z⟩ (fun fr I J m _ y=>?_);obtain ⟨i,⟨K,f⟩,rfl,rfl,rfl⟩:=y;refine Ua 1 [0,1,7,8,9] Z<|Ud (fun h=>?_) fun h=>?_
 ·have b:i<a.length:=by simpa using h
  obtain ⟨x,n⟩:∃ x,a[i]?=some x:=⟨a[i],ak b⟩;refine Ua 2 [0,1,5,7,8] Z<|Ub 3 Z fun R k=>Ur d.m_ U10 om_ (show (a.map bE)[i]?=some [ah (qtx x.1),x.2] from gd n) fl_ fun L z=>Uc z U8<|Uo (p i x n _ mup) U7<|Ug [0,1,5,7,8,16] k Z<|Ud (fun l=>?_) fun l=>?_
  ·have A:q i:=aK l;exact Ua 2 [4] Z<|Ui U2<|⟨Z,(i:Int),Z,.some i b A f⟩
  have B:¬ q i:=Ql l;refine Uf fun R k=>Ul _ U7<|C4 1 [0,1,7,8] k Z<|Un (m':=a.length-(i+1)) om_ mup (hn_ [0,1,7,8] Z) ⟨i+1,⟨by omega,fun j e=>by
   rcases Nat.lt_or_eq_of_le (Nat.le_of_lt_succ e) with h1 | h1
   ·exact f j h1
   rw [h1];exact B⟩,rfl,rfl,rfl⟩
 have b:i=a.length:=by
  have:¬ i<a.length:=by simpa using h
  omega
 exact Ua 1 [4] Z<|Ui U2<|⟨Z, -1,Z,.none (by rw [<- b];exact f)⟩
theorem E9 (C:Mem)(b n v:Nat)(a:List Value)(c:C b=some (.cells ⟨.int .i64 n::a⟩ 212 (0,0))) :
  Gives cx.P 177 [.pointer (some ⟨b,0,none⟩),.int .i64 v] C (.bool (decide (n<=v))):=by
 refine Uk func177 11 U3 fun w0=>Ua 1 [0,1] Z<|Ub 4 Z fun R d=>Uc (bkT c 1) U8<|C4 2 [4] d Z<|Ui U2<|⟨?_,Z⟩;congr 1;rw [Q4];omega
theorem oU (C:Mem)(b n v:Nat)(a:List Value):Jog.Fn cx.P 177 [.pointer (some ⟨b,0,none⟩),.int .i64 v] C [.obj b (.cells ⟨.int .i64 n::a⟩ 212 (0,0))]
   fun u _ d=>u=.bool (decide (n<=v))/\d=[.obj b (.cells ⟨.int .i64 n::a⟩ 212 (0,0))]:=by
 have h:=Vn (P:=cx.P) (f:=177) (args:=[.pointer (some ⟨b,0,none⟩),.int .i64 v]) (C:=C) (q:=fun u=>u=.bool (decide (n<=v))) kr_ [.obj b (.int .i64 n::a) 212] (fun x c=>by
  rcases Qw.1 c with rfl | c
  ·trivial
  cases c) fun C' e hs=>(E9 C' b n v a (hs _ (PH ..))).mono fun u _ g _ ⟨h1,h2⟩=>⟨h2,h1⟩
 exact h
theorem oM (h:∀ x∈fc b n t wB wL wO wW wF,x.seen C):Sl C 1 wO (t.others.map aO)/\Sl C 2 wL ((cN t wF).map bE)/\∀ i,i<t.basic.length->Sl C 1 (wF i) ((t.line i).f.map aY) :=
 ⟨h _ (Qt _ (Qt _ (Qt _ (PH ..)))),h _ (Qt _ (Qt _ (PH ..))),fun i a =>
  h (Le t wF i) (Qt _ (Qt _ (Qt _ (Qt _ (Qt _ (Qq.2 ⟨i,QE.2 a,rfl⟩))))))⟩
section
variable {C:Mem} {a2 b n N s:Nat} {t:Lp.Tab} {wB wO wW:Value} {wF:Nat->Value}
theorem Pe {d:Value}(g:t.Ok N)(i:t.others.length<=1000000):Jog.Fn cx.P 50 [wO] C ((fc b n t wB d wO wW wF).map Lent.ent)
   fun u _ a=>∃ A n2 c,u=.slice A n2 c/\a=.arr (.slice A n2 c) 3 1 t.others.length (t.others.map aO).flatten::(fc b n t wB d wO wW wF).map Lent.ent:=by
 have h:=VF (P:=cx.P) (f:=50) (args:=[wO]) (L:=[]) (C:=C) (post:=fun u a=>∃ A n2 c,u=.slice A n2 c/\a=[.arr (.slice A n2 c) 3 1 t.others.length (t.others.map aO).flatten]) kr_ (fc b n t wB d wO wW wF) (gb g) fun C' m hs=>Pf C' wO t.others (oM hs).1 i;rw [QM] at h;refine ⟨h.1,fun w j=>(h.2 w j).mono ?_⟩;rintro e w' ⟨v,C',a,k,l,o,rfl,A,n2,c,rfl,rfl⟩;exact ⟨_,C',_,k,St.perm l (List.perm_append_singleton _ _),A,n2,c,Z,Z⟩
theorem Nk {a:Value}(h:t.Ok N)(l:C a2=some (.cells ⟨[.int .i64 s]⟩ 3 (0,0)))(m:s<t.others.length) :
  Jog.Fn cx.P 175 [a,.func (.func 176) #[] #[.pointer (some ⟨a2,0,none⟩)]] C ((fc b n t wB a wO wW wF).map Lent.ent)
   fun u _ j=>(∃ o:Int,u=.int .i64 o/\FirstR (fun i=>¬ (t.line i).g s=0) t.basic.length o)/\j=(fc b n t wB a wO wW wF).map Lent.ent:=by
 refine Vn kr_ _ (gb h) fun C' p q=>?_;obtain ⟨_,r,v⟩:=oM q;refine (GC C' a (cN t wF) 176 [.pointer (some ⟨a2,0,none⟩)] (fun i=>¬ (t.line i).g s=0) r kr_ fun i x d D k=>?_).mono ?_
 ·have e:i<t.basic.length:=by rw [<- fG (wF:=wF)];exact (aE.1 d).1
  rw [nU e] at d;cases d
  rw [decide_not];exact MC D a2 s (t.line i).c (wF i) (t.line i).f ((v i e).mono k) ((p.trans k) _ _ l) (by rw [ia h e];exact m)
 rintro u D j _ ⟨h1,o,rfl,h2⟩;rw [fG] at h2;exact ⟨h1,o,Z,h2⟩
theorem Nj {A:Option Addr}{c r M:Nat}(v:t.basic.length=M)(j:t.Ok N)(w:C a2=some (.cells ⟨[.int .i64 s]⟩ 3 (0,0)))(y:s<t.others.length)(I:r<t.basic.length)(z:M<=c) :
  Jog.Fn cx.P 175 [.slice (if c=r+1 then A else A.map (·.add ((r+1)*2))) (M-(r+1)) (c-(r+1)),.func (.func 178) #[] #[.pointer (some ⟨a2,0,none⟩)]] C ((fc b n t wB (.slice A M c) wO wW wF).map Lent.ent)
   fun u _ k=>(∃ o:Int,u=.int .i64 o/\FirstR (fun i=>¬ (t.line (r+1+i)).g s=0) (t.basic.length-(r+1)) o)/\k=(fc b n t wB (.slice A M c) wO wW wF).map Lent.ent:=by
 subst v;refine Vn kr_ _ (gb j) fun C' B E=>?_;obtain ⟨_,F,G⟩:=oM E;have p:=Sl.sub (l:=r+1) (h:=t.basic.length) (m:=c) F om_ (by rw [al,fG];exact Qi _) z (Qi _);have e:((cN t wF).map bE).take t.basic.length=(cN t wF).map bE:=QI (by rw [al,fG];exact Qi _);rw [e,<- List.map_drop] at p;have H:((cN t wF).drop (r+1)).length=t.basic.length-(r+1):=by rw [Sq,fG]
 refine (GC C' _ ((cN t wF).drop (r+1)) 178 [.pointer (some ⟨a2,0,none⟩)] (fun i=>¬ (t.line (r+1+i)).g s=0) p kr_ fun i x a D q=>?_).mono ?_
 ·have d:r+1+i<t.basic.length:=by have:=(aE.1 a).1;omega
  rw [List.getElem?_drop,nU d] at a;cases a
  rw [decide_not];exact MB D a2 s (t.line (r+1+i)).c (wF (r+1+i)) (t.line (r+1+i)).f ((G _ d).mono q) ((B.trans q) _ _ w) (by rw [ia j d];exact y)
 rintro u D k _ ⟨h1,o,rfl,h2⟩;rw [H] at h2;exact ⟨h1,o,Z,h2⟩
end
def Qg (p:Lp.Sys)(t:Lp.Tab)(s:Nat)(o:Int):Prop:=(o=-1/\∀ i,i<t.basic.length->p.n<=t.bas i->(t.line i).g s=0)∨∃ r:Nat,o=r/\r<t.basic.length/\¬ (t.line r).g s=0/\∀ i,i<r->p.n<=t.bas i->(t.line i).g s=0
theorem yN (h:FirstR q n o)(a:o<0):∀ i,i<n->¬ q i:=by
 cases h with
 | none h=>exact h
 | some r _ _ _=>omega
theorem yM (h:FirstR q n o)(a:¬ o<0):∃ r:Nat,o=r/\r<n/\q r/\∀ i,i<r->¬ q i:=by
 cases h with
 | none h=>exact absurd dc_ a
 | some r h1 h2 h3=>exact ⟨r,rfl,h1,h2,h3⟩
theorem CL (h:FirstR (fun i=>¬ (t.line i).g s=0) t.basic.length o):Qg p t s o:=by
 cases h with
 | none h=>exact .inl ⟨rfl,fun i a _=>Decidable.not_not.1 (h i a)⟩
 | some r h1 h2 h3=>exact .inr ⟨r,rfl,h1,h2,fun i a _=>Decidable.not_not.1 (h3 i a)⟩
theorem Da (C:Mem)(hT:Tabs C)(p:Lp.Sys)(M:Nat->Rat)(b:Nat)(a:Lp.Tab)(N O e l:Value)(B:Nat->Value)(q:Lp.Inv p M a)(ho:a.others=List.range p.n)(hl:Lp.Lim p M 16)(hm:p.m<=1000000)(hn:p.n<=1000000) :
  Jog.Fn cx.P 115 [.pointer (some ⟨b,0,none⟩)] C ((fc b p.n a N O e l B).map Lent.ent) fun u _ A=>u=.tuple #[]/\∃ t wF,Lp.Inv p M t/\Lp.Rel p.n t p.n/\A=(fc b p.n t N O e l wF).map Lent.ent:=by
 have aP:maxLen<=9223372036854775807:=by simp [maxLen]
 have au:a.others.length=p.n:=q.tab.lo;refine Uk func115 65 U3 fun w0=>?_;refine Ut (L':=[.obj b (.cells ⟨[.int .i64 p.n,N,O,e,ah (qtx a.worth.c),l]⟩ 212 (0,0)),.arr N 3 1 a.basic.length ((a.basic).map aO).flatten,.arr O 209 2 a.basic.length ((cN a B).map bE).flatten,.arr e 3 1 a.others.length ((a.others).map aO).flatten,.arr l 56 1 a.others.length ((a.worth.f).map aY).flatten]++(List.range a.basic.length).map (stE a B 0 0 0)) (by rw [bh 0 0]) ?_;refine VK 1 Z (fun w y J S av _=>?_);rw [q.tab.lb] at J S av;subst J;refine VK 2 Z (fun z x J _ T _=>?_);rw [q.tab.lb] at J T;subst J;refine Ut (L':=[.obj b (.cells ⟨[.int .i64 p.n,(.slice w p.m y),(.slice z p.m x),e,ah (qtx a.worth.c),l]⟩ 212 (0,0)),.arr (.slice w p.m y) 3 1 a.basic.length ((a.basic).map aO).flatten,.arr (.slice z p.m x) 209 2 a.basic.length ((cN a B).map bE).flatten,.arr e 3 1 a.others.length ((a.others).map aO).flatten,.arr l 56 1 a.others.length ((a.worth.f).map aY).flatten]++(List.range a.basic.length).map (stE a B 0 0 0)) Z ?_;refine UC [(4,3)] Z (fun R d=>?_);refine Uh 3 Z ?_;refine Uj af U9 ?_;refine D.call (Pe q.tab.ok om_) Z (.inr dc_) U6 (show List.Perm _ (((fc b p.n a (.slice w p.m y) (.slice z p.m x) e l B).map Lent.ent)++[]) from List.Perm.of_eq (by rw [QM,bh 0 0] <;> rfl)) fl_ (fun aQ aw aR _ ax=>?_);obtain ⟨Ac,n2,c2,rfl,rfl⟩:=ax;refine C4 2 [0,10,11,12] d Z ?_;clear d R;refine G.freezeArr 0 (a.others.map aO) Z Z uG am (fun aw _ ao=>?_);have ay:n2=p.n:=by
  obtain ⟨A9,c9,az,_⟩:=id ao;injection az with e1 e2 e3;rw [e2,al,au]
 subst ay;refine Ut (L':=[.obj b (.cells ⟨[.int .i64 p.n,(.slice w p.m y),(.slice z p.m x),e,ah (qtx a.worth.c),l]⟩ 212 (0,0)),.arr (.slice w p.m y) 3 1 a.basic.length ((a.basic).map aO).flatten,.arr (.slice z p.m x) 209 2 a.basic.length ((cN a B).map bE).flatten,.arr e 3 1 a.others.length ((a.others).map aO).flatten,.arr l 56 1 a.others.length ((a.worth.f).map aY).flatten]++(List.range a.basic.length).map (stE a B 0 0 0)) (by rw [bh 0 0,QM];rfl) ?_;refine G.loop (fun fr C' A U=>∃ (k:Nat)(t:Lp.Tab)(wF:Nat->Value),(k<=p.n/\Lp.Inv p M t/\Lp.Rel p.n t k)/\fr=[(0,[],.pointer (some ⟨b,0,none⟩)),(10,[],.slice Ac p.n c2),(11,[],.int .i64 p.n),(12,[],.int .i64 k)]/\A=[.obj b (.cells ⟨[.int .i64 p.n,(.slice w p.m y),(.slice z p.m x),e,ah (qtx t.worth.c),l]⟩ 212 (0,0)),.arr (.slice w p.m y) 3 1 t.basic.length ((t.basic).map aO).flatten,.arr (.slice z p.m x) 209 2 t.basic.length ((cN t wF).map bE).flatten,.arr e 3 1 t.others.length ((t.others).map aO).flatten,.arr l 56 1 t.others.length ((t.worth.f).map aY).flatten]++(List.range t.basic.length).map (stE t wF 0 0 0)/\U=p.n-k) (hn_ [0,10,11,12] Z) ⟨0,a,B,⟨Qm _,q,fun s hs=>absurd hs (Nat.not_lt_zero _)⟩,Z,Z,Z⟩ (fun fr aS aT m _ q=>?_);obtain ⟨k,t,wF,⟨hk,q,d⟩,rfl,rfl,rfl⟩:=q;refine Ua 1 [0,10,11,12,13] Z ?_;refine Ud (fun V=>?_) fun V=>?_
 ·have ap:k<p.n:=by
   have:=aK V;omega
  have ok:=q.tab.ok;have aA:=q.tab.lb;have aB:t.basic.length<=1000000:=by rw [q.tab.lb];exact hm
  have aC:t.others.length<=1000000:=by rw [q.tab.lo];exact hn
  have hq:∀ i,i<t.basic.length->LineQ 16 (t.line i):=fun i W=>ur q hl W;have K:k<t.others.length:=by rw [q.tab.lo];exact ap
  refine Ub 1 Z fun R d=>?_;refine Ur ao.m_ U10 om_ (show (a.others.map aO)[k]?=some (aO k) from uj (by rw [ho,QY ap])) fl_ (fun aU aD=>?_);refine Uc aD U8 ?_;refine Uv U5 (fun b2=>?_);refine Um (j:=0) U12 ?_;refine C4 1 [0,2,3,10,11,12] d Z ?_;clear d R;refine G.freeze 0 Z (fun _ _ X=>?_);refine UC [(5,3)] Z (fun R d=>?_);refine Uh 3 Z ?_;refine Uj af U9 ?_;refine Ue U6 ?_;refine D.call (Nk ok (Mem.get X mup) K) Z (.inr dc_) U6 (show List.Perm _ (((fc b p.n t (.slice w p.m y) (.slice z p.m x) e l wF).map Lent.ent)++[]) from List.Perm.of_eq (by rw [QM,bh 0 0] <;> rfl)) fl_ (fun aV _ aW _ aE=>?_);refine C4 1 [0,2,3,4,10,11,12] d Z ?_;clear d R;obtain ⟨⟨o0,rfl,aF⟩,rfl⟩:=aE;refine Ut (L':=[.obj b (.cells ⟨[.int .i64 p.n,(.slice w p.m y),(.slice z p.m x),e,ah (qtx t.worth.c),l]⟩ 212 (0,0)),.arr (.slice w p.m y) 3 1 t.basic.length ((t.basic).map aO).flatten,.arr (.slice z p.m x) 209 2 t.basic.length ((cN t wF).map bE).flatten,.arr e 3 1 t.others.length ((t.others).map aO).flatten,.arr l 56 1 t.others.length ((t.worth.f).map aY).flatten]++(List.range t.basic.length).map (stE t wF 0 0 0)) (by rw [QM,bh 0 0]) ?_;refine G.loop (fun fr C' A U=>∃ (o:Int),(Qg p t k o)/\fr=[(0,[],.pointer (some ⟨b,0,none⟩)),(2,[],.pointer (some ⟨b2,0,none⟩)),(3,[],.int .i64 k),(4,[],.int .i64 o),(10,[],.slice Ac p.n c2),(11,[],.int .i64 p.n),(12,[],.int .i64 k)]/\A=[.obj b (.cells ⟨[.int .i64 p.n,(.slice w p.m y),(.slice z p.m x),e,ah (qtx t.worth.c),l]⟩ 212 (0,0)),.arr (.slice w p.m y) 3 1 t.basic.length ((t.basic).map aO).flatten,.arr (.slice z p.m x) 209 2 t.basic.length ((cN t wF).map bE).flatten,.arr e 3 1 t.others.length ((t.others).map aO).flatten,.arr l 56 1 t.others.length ((t.worth.f).map aY).flatten]++(List.range t.basic.length).map (stE t wF 0 0 0)/\U=t.basic.length-o.toNat) (hn_ [0,2,3,4,10,11,12] Z) ⟨o0,CL aF,Z,Z,Z⟩ (fun fr aX aZ m _ q=>?_);obtain ⟨o,hS,rfl,rfl,rfl⟩:=q;refine Ub 7 Z fun R d=>?_;refine Uj af U9 ?_;refine Ue U6 ?_;refine Ww (w.getD ⟨0,0,none⟩).block (o.toNat*1) Z Z Z Z Z Z Z Z Z Z (fun Y=>by
   have h:decide (o ≥ 0)=true:=Y.1;have h2:=aK h;obtain ⟨r,L,E,_⟩:=hS.resolve_left om_;exact ⟨S om_,by omega,by omega,Z⟩) Z Z ?_
  refine Wr (v:=.int .i64 (t.bas o.toNat)) ae Z Z Z Z Z Z (fun Y=>by
   have h:decide (o ≥ 0)=true:=Y.1;have h2:=aK h;obtain ⟨r,L,E,_⟩:=hS.resolve_left om_;refine ⟨S om_, ?_⟩;rw [eC ft (show t.basic[o.toNat]?=some (t.bas o.toNat) from yt om_)];rfl) rfl rfl ?_
  refine VN af (fun _=>oU _ b p.n (t.bas o.toNat) _) U9 ?_;refine Ue U6 ?_;refine UB U8 ?_;refine Ug [0,2,3,4,10,11,12,36] d Z ?_;clear d R;refine Ud (fun aa=>?_) fun aa=>?_
  ·have Q:o ≥ 0/\¬ p.n<=t.bas o.toNat:=by simpa using aa
   obtain ⟨a0,ab⟩:=Q;obtain ⟨r,L,E,ac,ad⟩:=hS.resolve_left om_;subst L;rw [R5] at ab;refine UC [(8,3)] Z (fun R d=>?_);refine Uh 3 Z ?_;refine Uj af U9 ?_;refine Ue U6 ?_;refine Ul _ U7 ?_;refine UY (r+1) p.m x U12 (fun _=>⟨.inr ⟨_,Z⟩,.inl ⟨Z,Z⟩,.inl ⟨Z,Z⟩,by omega,T,Qi _⟩) U2 ?_;refine Ue U6 ?_;refine D.call (Nj aA ok (Mem.get X mup) K E T) Z (.inr dc_) U6 (show List.Perm _ (((fc b p.n t (.slice w p.m y) (.slice z p.m x) e l wF).map Lent.ent)++[]) from List.Perm.of_eq (by rw [QM,bh 0 0] <;> rfl)) fl_ (fun a1 _ a2 _ aG=>?_);refine C4 1 [0,2,3,4,5,10,11,12] d Z ?_;clear d R;obtain ⟨⟨o2,rfl,aq⟩,rfl⟩:=aG;refine Ut (L':=[.obj b (.cells ⟨[.int .i64 p.n,(.slice w p.m y),(.slice z p.m x),e,ah (qtx t.worth.c),l]⟩ 212 (0,0)),.arr (.slice w p.m y) 3 1 t.basic.length ((t.basic).map aO).flatten,.arr (.slice z p.m x) 209 2 t.basic.length ((cN t wF).map bE).flatten,.arr e 3 1 t.others.length ((t.others).map aO).flatten,.arr l 56 1 t.others.length ((t.worth.f).map aY).flatten]++(List.range t.basic.length).map (stE t wF 0 0 0)) (by rw [QM,bh 0 0]) ?_;refine Ua 2 [0,2,3,4,5,10,11,12,47] Z ?_;refine Ud (fun ag=>?_) fun ag=>?_
   ·have ai:o2<0:=aK ag;have hz:∀ i,i<t.basic.length->p.n<=t.bas i->(t.line i).g k=0:=fun i W F=>by
     rcases Nat.lt_trichotomy i r with h1 | h1 | h1
     ·exact ad i h1 F
     ·rw [h1] at F;exact absurd F ab
     have:=yN aq ai (i-(r+1)) om_;rw [show r+1+(i-(r+1))=i by omega] at this;exact Decidable.not_not.1 this
    refine Ua 1 [0,2,3,4,10,11,12] Z ?_;refine Ub 5 Z fun R d=>?_;refine VN af (fun _=>oU _ b p.n k _) U9 ?_;refine Ue U6 ?_;refine UB U8 ?_;refine Ug [0,2,4,10,11,12,59] d Z ?_;clear d R;refine Ud (fun ar=>?_) fun ar=>?_
    ·exact absurd ar am
    refine Uf fun R d=>?_;refine Ul _ U7 ?_;refine C4 1 [0,10,11,12] d Z ?_;clear d R;refine Un (m':=p.n-(k+1)) om_ mup (hn_ [0,10,11,12] Z) ⟨k+1,t,wF,⟨by omega,q,Lp.rel_none d hz⟩,Z,Z,Z⟩
   have ai:¬ o2<0:=Ql ag;obtain ⟨H,rfl,a3,aH,aI⟩:=yM aq ai;have aL:Qg p t k ((r+(1+H):Nat):Int):=.inr ⟨r+(1+H),rfl,by omega,by rw [show r+(1+H)=r+1+H by omega];exact aH,fun i W F=>by
    rcases Nat.lt_trichotomy i r with h1 | h1 | h1
    ·exact ad i h1 F
    ·rw [h1] at F;exact absurd F ab
    have:=aI (i-(r+1)) om_;rw [show r+1+(i-(r+1))=i by omega] at this;exact Decidable.not_not.1 this⟩
   refine Ub 2 Z fun R d=>?_;refine Ul _ U7 ?_;refine Ul _ U7 ?_;refine C4 1 [0,2,3,4,10,11,12] d Z ?_;clear d R;refine Un (m':=t.basic.length-((r+(1+H):Nat):Int).toNat) om_ mup (hn_ [0,2,3,4,10,11,12] Z) ⟨((r+(1+H):Nat):Int),aL,Z,Z,Z⟩
  have Q:¬ (o ≥ 0/\¬ p.n<=t.bas o.toNat):=by simpa using aa
  refine Ub 5 Z fun R d=>?_;refine VN af (fun _=>oU _ b p.n k _) U9 ?_;refine Ue U6 ?_;refine UB U8 ?_;refine Ug [0,2,4,10,11,12,59] d Z ?_;clear d R;refine Ud (fun aj=>?_) fun aj=>?_
  ·have I:0<=o:=by
    have I:(decide (0<=o) && !decide (p.n<=k))=true:=aj;simp only [Qu,Qs] at I;exact I.1
   obtain ⟨r,L,E,ac,ad⟩:=hS.resolve_left om_;subst L;rw [R5] at Q;have aM:p.n<=t.bas r:=by
    apply Decidable.byContradiction;intro h;exact Q ⟨by omega,h⟩
   refine UC [(3,3)] Z (fun R d=>?_);refine Uh 2 Z ?_;refine Uc (bkT X 1) U8 ?_;refine D.call (ud _ hT.m_ b p.n r k (p.n+p.m) t (.slice w p.m y) (.slice z p.m x) e l wF ok aB aC E K ac hq (oD q hl)) Z (.inr dc_) U6 (show List.Perm _ (((fc b p.n t (.slice w p.m y) (.slice z p.m x) e l wF).map Lent.ent)++[]) from List.Perm.of_eq (by rw [QM,bh 0 0] <;> rfl)) fl_ (fun a4 _ a5 _ aN=>?_);refine Ug [0,10,11,12] d Z ?_;clear d R;refine Uf fun R d=>?_;refine Ul _ U7 ?_;refine C4 1 [0,10,11,12] d Z ?_;clear d R;obtain ⟨-,ak,rfl⟩:=aN;refine Ut (L':=[.obj b (.cells ⟨[.int .i64 p.n,(.slice w p.m y),(.slice z p.m x),e,ah (qtx (t.pivot r k).worth.c),l]⟩ 212 (0,0)),.arr (.slice w p.m y) 3 1 (t.pivot r k).basic.length (((t.pivot r k).basic).map aO).flatten,.arr (.slice z p.m x) 209 2 (t.pivot r k).basic.length ((cN (t.pivot r k) ak).map bE).flatten,.arr e 3 1 (t.pivot r k).others.length (((t.pivot r k).others).map aO).flatten,.arr l 56 1 (t.pivot r k).others.length (((t.pivot r k).worth.f).map aY).flatten]++(List.range (t.pivot r k).basic.length).map (stE (t.pivot r k) ak 0 0 0)) (by rw [QM,bh 0 0]) ?_;refine Un (m':=p.n-(k+1)) om_ mup (hn_ [0,10,11,12] Z) ⟨k+1,t.pivot r k,ak,⟨by omega,q.pivot E K ac,Lp.rel_next ok d E K aM⟩,Z,Z,Z⟩
  have I:¬ 0<=o:=by
   have I:(decide (0<=o) && !decide (p.n<=k))=false:=aj;have an:¬ p.n<=k:=by omega
   simpa [an] using I
  have hz:∀ i,i<t.basic.length->p.n<=t.bas i->(t.line i).g k=0:=by
   rcases hS with ⟨_,h2⟩ | ⟨r,h1,_⟩
   ·exact h2
   omega
  refine Uf fun R d=>?_;refine Ul _ U7 ?_;refine C4 1 [0,10,11,12] d Z ?_;clear d R;refine Un (m':=p.n-(k+1)) om_ mup (hn_ [0,10,11,12] Z) ⟨k+1,t,wF,⟨by omega,q,Lp.rel_none d hz⟩,Z,Z,Z⟩
 have an:k=p.n:=by
  have:=Ql V;omega
 refine Vo Z ?_;exact ⟨Z,t,wF,q,by rw [an] at d;exact d,by rw [bh 0 0]⟩
theorem Pd (C:Mem)(v:Value)(l:List Rat)(b:Sl C 1 v (l.map aY))(t:l.length<=1000000):Jog.Fn cx.P 173 [v] C [] fun u _w e=>∃ A n c,u=.slice A n c/\e=[.arr (.slice A n c) 56 1 l.length (l.map aY).flatten]:=by
 obtain ⟨f,c0,rfl,m,x,y,o⟩:=id b;have z:maxLen<=9223372036854775807:=by simp [maxLen]
 simp only [al] at b m ⊢;refine Uk func173 8 U3 fun w0=>Ua 1 [0] Z<|Ub 1 Z fun R d=>VP U9<|Ug [0,4] d Z<|Ud (fun h4=>?_) fun h4=>?_
 ·have p:f=none:=by
   cases f with
   | none=>rfl
   | some a=>cases h4
  have s:l=[]:=by
   cases l with
   | nil=>rfl
   | cons q r =>
    obtain ⟨a,g,_⟩:=o 0 (aY q) rfl;rw [p] at g;cases g
  refine Ua 1 [2] Z<|G.nilArr 56 1<|Up (UR Z Z ?_);exact ⟨none,0,0,Z,by rw [s];rfl⟩
 refine Uf fun R d=>Vi [] U12 fl_ fun B=>Ue U6<|UF (j:=0) U11 b.m_ (by simp [aY,mG,ah]) (by simp only [al,Qy,maxLen];omega) (by simp only [al,Qy];omega) fl_ fun h i k=>C4 1 [2] d Z<|Ut (L':=[.arr (.slice h i k) 56 1 l.length (l.map aY).flatten]) am<|Up (UR Z Z ?_);exact ⟨h,i,k,Z,Z⟩
def eJ (n:Nat)(rs:List (List Rat × Rat)):Lp.Sys:=⟨n,rs.length,fun r j=>(rs.getD r ([],0)).1.getD j 0,fun r=>(rs.getD r ([],0)).2⟩
abbrev sA (A:Option Addr)(n c:Nat):Value:=.slice A n c
abbrev sB (A:Option Addr)(n c:Nat):Value:=.slice A n c
abbrev sO (A:Option Addr)(n c:Nat):Value:=.slice A n c
abbrev sW (A:Option Addr)(n c:Nat):Value:=.slice A n c
abbrev sF (A:Option Addr)(n c:Nat):Value:=.slice A n c
def lbF (n i:Nat):List Nat:=(List.range i).map fun q=>n+q
def lvF (rs:List (List Rat × Rat))(wF:Nat->Value)(i:Nat):List (Rat × Value):=(List.range i).map fun q=>((rs.getD q ([],0)).2,wF q)
def opE (n:Nat)(rs:List (List Rat × Rat))(wF:Nat->Value)(q:Nat):Ent:=.arr (wF q) 56 1 n (((List.range n).map fun j=>-(rs.getD q ([],0)).1.getD j 0).map aY).flatten
def Iw (wF:Nat->Value)(i:Nat)(w:Value):Nat->Value:=fun q=>if q=i then w else wF q
theorem EO :Iw wF i w i=w:=aV rfl
theorem EN {q:Nat}(h:q≠i):Iw wF i w q=wF q:=aA h
theorem JV :lbF n (i+1)=lbF n i++[n+i]:=by unfold lbF;rw [Rs,QZ];rfl
theorem JL {r:List Rat × Rat}(h:rs.getD i ([],0)=r):lvF rs (Iw wF i w) (i+1)=lvF rs wF i++[(r.2,w)]:=by
 unfold lvF;rw [Rs,QZ,List.map_singleton,h,EO];congr 1;refine List.map_congr_left fun q a=>?_;rw [EN (by have:=QE.1 a;omega)]
theorem JC {r:List Rat × Rat}(h:rs.getD i ([],0)=r):(List.range (i+1)).map (opE n rs (Iw wF i w))=(List.range i).map (opE n rs wF)++[.arr w 56 1 n (((List.range n).map fun j=>-r.1.getD j 0).map aY).flatten]:=by
 rw [Rs,QZ,List.map_singleton];congr 1
 ·refine List.map_congr_left fun q a=>?_;unfold opE;rw [EN (by have:=QE.1 a;omega)]
 unfold opE;rw [h,EO]
theorem Dc {l:List Rat}(h:l.length=n):(List.range n).map (fun j=>l.getD j 0)=l:=by
 refine List.ext_getElem? fun j=>?_;rw [Qn];by_cases a:j<n
 ·rw [QY a,ak om_];show some (l.getD j 0)=_;rw [ax,ak om_];rfl
 rw [Qr (show (List.range n).length<=j by simp;omega),Qr om_];rfl
theorem F8 (g:ob.length=n) :
  (fc b n (Lp.openT (eJ n rs) fun j=>ob.getD j 0) wB wL wO wW wF).map Lent.ent=[.obj b (.cells ⟨[.int .i64 n,wB,wL,wO,ah [48],wW]⟩ 212 (0,0)),.arr wB 3 1 rs.length ((lbF n rs.length).map aO).flatten,.arr wL 209 2 rs.length ((lvF rs wF rs.length).map bE).flatten,.arr wO 3 1 n ((List.range n).map aO).flatten,.arr wW 56 1 n (ob.map aY).flatten]++(List.range rs.length).map (opE n rs wF):=by
 have d:(Lp.openT (eJ n rs) fun j=>ob.getD j 0).basic.length=rs.length:=Lp.openT_lb;have e:(Lp.openT (eJ n rs) fun j=>ob.getD j 0).others.length=n:=Lp.openT_lo;have h1:cN (Lp.openT (eJ n rs) fun j=>ob.getD j 0) wF=lvF rs wF rs.length:=by
  unfold cN lvF;rw [d];refine List.map_congr_left fun q a=>?_;rw [Lp.openT_line (p:=eJ n rs) (QE.1 a)];rfl
 have h2:(List.range rs.length).map (Lent.ent ∘ Le (Lp.openT (eJ n rs) fun j=>ob.getD j 0) wF)=(List.range rs.length).map (opE n rs wF):=by
  refine List.map_congr_left fun q a=>?_;show Ent.arr _ _ 1 _ _=_;rw [Lp.openT_line (p:=eJ n rs) (QE.1 a),e];rfl
 have h3:(Lp.openT (eJ n rs) fun j=>ob.getD j 0).worth.f=ob:=Dc g;have h4:(Lp.openT (eJ n rs) fun j=>ob.getD j 0).worth.c=0:=rfl;unfold fc;rw [h1,h3,h4,d,e,Pz];simp only [QX,Q8,h2];rfl
def Do (n:Nat)(rs:List (List Rat × Rat))(ob:List Rat)(b17:Nat)(Aw:Option Addr)(nw cw:Nat)(A1:Option Addr)(n1 c1:Nat)(i:Nat)(wF:Nat->Value)(r:List Rat × Rat)(A4:Option Addr)(n4 c4:Nat)(A71:Option Addr)(n71 c71:Nat)(A78:Option Addr)(n78 c78:Nat):List Ent:=[.arr (sA A71 n71 c71) 3 1 (i+1) (((lbF n i).map aO).flatten++[[.int .i64 ((n:Int)+(i:Int))]].flatten),.arr (sB A78 n78 c78) 209 2 (i+1) (((lvF rs wF i).map bE).flatten++[[ah (qtx r.2),.slice A4 n4 c4]].flatten),.obj b17 (.cells ⟨[.int .i64 n,.slice A71 n71 c71,.slice A78 n78 c78,.slice A1 n1 c1,ah [48],.slice Aw nw cw]⟩ 212 (0,0)),.arr (sO A1 n1 c1) 3 1 n (((List.range n)).map aO).flatten,.arr (sW Aw nw cw) 56 1 n (ob.map aY).flatten,.arr (sF A4 n4 c4) 56 1 n (((List.range n).map fun q=>-r.1.getD q 0).map aY).flatten]++(List.range i).map (opE n rs wF)
def opX1 (n:Nat)(rs:List (List Rat × Rat))(ob:List Rat)(b17:Nat)(Aw:Option Addr)(nw cw:Nat)(A1:Option Addr)(n1 c1:Nat)(i:Nat)(wF:Nat->Value)(A4:Option Addr)(n4 c4:Nat)(A71:Option Addr)(n71 c71:Nat)(A78:Option Addr)(n78 c78:Nat):List Ent:=[.arr (sA A71 n71 c71) 3 1 (i+1) ((lbF n (i+1)).map aO).flatten,.arr (sB A78 n78 c78) 209 2 (i+1) ((lvF rs (Iw wF i (.slice A4 n4 c4)) (i+1)).map bE).flatten,.obj b17 (.cells ⟨[.int .i64 n,.slice A71 n71 c71,.slice A78 n78 c78,.slice A1 n1 c1,ah [48],.slice Aw nw cw]⟩ 212 (0,0)),.arr (sO A1 n1 c1) 3 1 n (((List.range n)).map aO).flatten,.arr (sW Aw nw cw) 56 1 n (ob.map aY).flatten]++(List.range (i+1)).map (opE n rs (Iw wF i (.slice A4 n4 c4)))
theorem dC {a:Nat}{b:Option Addr}{c d:Nat}{e:Option Addr}{f g:Nat}{r:List Rat × Rat}{h:Option Addr}{j k:Nat}{l:Option Addr}{m o:Nat}{p:Option Addr}{q s:Nat}(t:rs.getD i ([],0)=r):(Do n rs ob a b c d e f g i wF r h j k l m o p q s).Perm (opX1 n rs ob a b c d e f g i wF h j k l m o p q s):=by
 unfold Do opX1;rw [JV,JL t,JC t];simp only [QZ,Q5];exact List.Perm.append_left [_,_,_,_,_] (List.perm_append_singleton _ _).symm
theorem Jr (C:Mem)(_aR:Tabs C)(n:Nat)(rv ov:Value)(c:List (List Rat × Rat))(z:List Rat)(hr:RowsT C rv (c.map gR))(ho:Sl C 1 ov (z.map aY))(hq:RowsQ n c)(hn:n<=1000)(au:z.length=n) :
  Jog.Fn cx.P 114 [.agg ⟨[.int .i64 n,rv,ov]⟩] C [] fun u _aS x=>∃ b wB wL wO wW wF,u=.pointer (some ⟨b,0,none⟩)/\x=(fc b n (Lp.openT (eJ n c) fun j=>z.getD j 0) wB wL wO wW wF).map Lent.ent:=by
 obtain ⟨vs,av,aC,V⟩:=hr;obtain ⟨Ar,cr,rfl,ay,aT,_⟩:=id V;have hm:=hq.m;have aU:maxLen<=9223372036854775807:=by simp [maxLen]
 rw [tw av] at V ay ⊢;simp only [al] at V ay av ⊢;refine Uk func114 85 U3 fun w0=>?_;refine Uf fun R a=>?_;refine Uw U6 (fun W=>?_);refine C4 1 [1] a Z ?_;clear a R;refine G.freeze 0 Z (fun _ _ U=>?_);refine Uy [0,1,2,3,4,5,6,7,8] [(4,3),(1,0)] Z kr_ (fun R I a=>?_);refine Ue U6 ?_;refine Vg (fun _=>((PtrTo.blockT U _ 1).mono I)) U9 ?_;refine Ue U6 ?_;refine Uc (bkT U 1) U8 ?_;refine D.call (Pd _ ov z ho.m_ om_) Z (.inr dc_) U6 (Qo _) fl_ (fun aV _ aW _ aD=>?_);obtain ⟨d,e,f,rfl,rfl⟩:=aD;refine Uu [ah [48],.slice d e f] U8 ?_;refine Uu [.int .i64 n,.slice none 0 0,.slice none 0 0,.slice none 0 0,ah [48],.slice d e f] U8 ?_;refine Uw U6 (fun y=>?_);refine Ue U6 ?_;refine Ug [1,3] a Z ?_;clear a I R;refine Ub 1 Z fun R a=>?_;refine Uc (bkT U 1) U8 ?_;refine C4 1 [1,3,19,20] a Z ?_;clear a R;refine G.nilArr 3 1 ?_;refine Ut (L':=[.arr (sO none 0 0) 3 1 0 (((List.range 0)).map aO).flatten,.obj y (.cells ⟨[.int .i64 n,.slice none 0 0,.slice none 0 0,.slice none 0 0,ah [48],.slice d e f]⟩ 212 (0,0)),.arr (sW d e f) 56 1 n (z.map aY).flatten]) (by rw [au];rfl) ?_;refine G.loop (fun fr C' x O=>∃ (i:Nat)(t:Option Addr)(n1 v:Nat),(i<=n)/\fr=[(1,[],.pointer (some ⟨W,0,none⟩)),(3,[],.pointer (some ⟨y,0,none⟩)),(19,[],.int .i64 n),(20,[],.int .i64 i)]/\x=[.arr (sO t n1 v) 3 1 i (((List.range i)).map aO).flatten,.obj y (.cells ⟨[.int .i64 n,.slice none 0 0,.slice none 0 0,.slice t n1 v,ah [48],.slice d e f]⟩ 212 (0,0)),.arr (sW d e f) 56 1 n (z.map aY).flatten]/\O=n-i) (hn_ [1,3,19,20] Z) ⟨0,none,0,0,Qm _,Z,Z,Z⟩ (fun fr aX aZ m _ Q=>?_);obtain ⟨i,t,n1,v,hi,rfl,rfl,rfl⟩:=Q;refine Ua 1 [1,3,19,20,21] Z ?_;refine Ud (fun ad=>?_) fun ad=>?_
 ·have az:i<n:=by
   have:=aK ad;omega
  refine Ua 2 [1,3,4,19,20] Z ?_;refine Ub 4 Z fun R a=>?_;refine Uj ae U9 ?_;refine Ue U6 ?_;refine Ux [[.int .i64 i]] U12 (fun a0 _ _ aE=>?_);refine UF (j:=0) U11 aE Z aw (by show (i+1)*8<=_;omega) fl_ (fun af ag ai=>?_);refine Uh 2 Z ?_;refine Um (j:=1) U12 ?_;refine Ug [1,3,19,20] a Z ?_;clear a R;refine Uf fun R a=>?_;refine Ul _ U7 ?_;refine C4 1 [1,3,19,20] a Z ?_;clear a R;refine G.perm (L':=[.arr (sO af ag ai) 3 1 (i+1) (((List.range (i+1))).map aO).flatten,.obj y (.cells ⟨[.int .i64 n,.slice none 0 0,.slice none 0 0,.slice af ag ai,ah [48],.slice d e f]⟩ 212 (0,0)),.arr (sW d e f) 56 1 n (z.map aY).flatten]) (by rw [Rs,QZ,Q5];exact List.Perm.swap _ _ _) ?_;refine Un (m':=n-(i+1)) om_ mup (hn_ [1,3,19,20] Z) ⟨i+1,af,ag,ai,om_,Z,Z,Z⟩
 have aj:i=n:=by
  have:=Ql ad;omega
 rw [aj];refine Ub 1 Z fun R a=>?_;refine Uc (bkT U 1) U8 ?_;refine C4 2 [1,3,35,36,37] a Z ?_;clear a R;refine G.nilArr 209 2 ?_;refine G.nilArr 3 1 ?_;refine G.perm (L':=[.arr (sA none 0 0) 3 1 0 ((lbF n 0).map aO).flatten,.arr (sB none 0 0) 209 2 0 ((lvF c (fun _=>.slice none 0 0) 0).map bE).flatten,.obj y (.cells ⟨[.int .i64 n,.slice none 0 0,.slice none 0 0,.slice t n1 v,ah [48],.slice d e f]⟩ 212 (0,0)),.arr (sO t n1 v) 3 1 n (((List.range n)).map aO).flatten,.arr (sW d e f) 56 1 n (z.map aY).flatten]++(List.range 0).map (opE n c (fun _=>.slice none 0 0))) (by
  show List.Perm ([_,_,_,_,_]++[]) _
  (exact pkL [0,0,1,0,0] rfl)) ?_
 refine G.loop (fun fr C' x O=>∃ (i:Nat)(A2:Option Addr)(n2 c2:Nat)(K:Option Addr)(L M:Nat)(wF:Nat->Value),(i<=c.length)/\fr=[(1,[],.pointer (some ⟨W,0,none⟩)),(3,[],.pointer (some ⟨y,0,none⟩)),(35,[],.slice Ar c.length cr),(36,[],.int .i64 c.length),(37,[],.int .i64 i)]/\x=[.arr (sA A2 n2 c2) 3 1 i ((lbF n i).map aO).flatten,.arr (sB K L M) 209 2 i ((lvF c wF i).map bE).flatten,.obj y (.cells ⟨[.int .i64 n,.slice A2 n2 c2,.slice K L M,.slice t n1 v,ah [48],.slice d e f]⟩ 212 (0,0)),.arr (sO t n1 v) 3 1 n (((List.range n)).map aO).flatten,.arr (sW d e f) 56 1 n (z.map aY).flatten]++(List.range i).map (opE n c wF)/\O=c.length-i) (hn_ [1,3,35,36,37] Z) ⟨0,none,0,0,none,0,0,fun _=>.slice none 0 0,Qm _,Z,Z,Z⟩ (fun fr a1 a2 m _ Q=>?_);obtain ⟨i,A2,n2,c2,K,L,M,wF,hi,rfl,rfl,rfl⟩:=Q;refine Ua 1 [1,3,35,36,37,38] Z ?_;refine Ud (fun am=>?_) fun am=>?_
 ·have az:i<c.length:=by
   have:=aK am;omega
  obtain ⟨r,X⟩:∃ r,c[i]?=some r:=⟨c[i],ak az⟩;have N:c.getD i ([],0)=r:=by rw [ax,X];rfl
  have a3:r.1.length=n:=hq.l r (Qj X);obtain ⟨aF,a4⟩:=hq.q r (Qj X);obtain ⟨w,hw⟩:∃ w,vs[i]?=some w:=⟨vs[i]'om_,ak om_⟩;have aA:(c.map gR)[i]?=some (gR r):=by rw [Qn,X];rfl
  have hx:=aC i w (gR r) hw aA;have an:Sl C 1 w (r.1.map aY):=by rw [BJ];exact hx
  obtain ⟨Ax,aG,rfl,aH,a5,_⟩:=id an;simp only [al] at an aH hw;refine Ub 1 Z fun R a=>?_;refine Ur V.m_ U10 om_ (Ey hw aA) fl_ (fun a6 aI=>?_);refine Uc aI U8 ?_;refine Uv U5 (fun b6=>?_);refine Ue U6 ?_;refine Um (j:=0) U12 ?_;refine Ug [1,3,5,6,35,36,37] a Z ?_;clear a R;refine G.freeze 0 Z (fun _ _ aB=>?_);refine Ub 1 Z fun R a=>?_;refine Uc (bkT aB 1) U8 ?_;refine Uu [ah (qtx r.2),.slice none 0 0] U8 ?_;refine Uv U5 (fun Y=>?_);refine Um (j:=0) U12 ?_;refine Ug [1,3,5,6,7,35,36,37] a Z ?_;clear a R;refine Ub 1 Z fun R a=>?_;refine Uc (bkT aB 1) U8 ?_;refine C4 2 [1,3,5,7,35,36,37,46,47,48] a Z ?_;clear a R;refine G.nilArr 56 1 ?_;refine Ut (L':=[.arr (sF none 0 0) 56 1 0 (((List.range 0).map fun q=>-r.1.getD q 0).map aY).flatten,.obj Y (.cells ⟨[ah (qtx r.2),.slice none 0 0]⟩ 209 (0,0)),.arr (sA A2 n2 c2) 3 1 i ((lbF n i).map aO).flatten,.arr (sB K L M) 209 2 i ((lvF c wF i).map bE).flatten,.obj y (.cells ⟨[.int .i64 n,.slice A2 n2 c2,.slice K L M,.slice t n1 v,ah [48],.slice d e f]⟩ 212 (0,0)),.arr (sO t n1 v) 3 1 n (((List.range n)).map aO).flatten,.arr (sW d e f) 56 1 n (z.map aY).flatten]++(List.range i).map (opE n c wF)) Z ?_;refine G.loop (fun fr C' x O=>∃ (j:Nat)(A:Option Addr)(B E:Nat),(j<=n)/\fr=[(1,[],.pointer (some ⟨W,0,none⟩)),(3,[],.pointer (some ⟨y,0,none⟩)),(5,[],.int .i64 i),(7,[],.pointer (some ⟨Y,0,none⟩)),(35,[],.slice Ar c.length cr),(36,[],.int .i64 c.length),(37,[],.int .i64 i),(46,[],.slice Ax r.1.length aG),(47,[],.int .i64 r.1.length),(48,[],.int .i64 j)]/\x=[.arr (sF A B E) 56 1 j (((List.range j).map fun q=>-r.1.getD q 0).map aY).flatten,.obj Y (.cells ⟨[ah (qtx r.2),.slice A B E]⟩ 209 (0,0)),.arr (sA A2 n2 c2) 3 1 i ((lbF n i).map aO).flatten,.arr (sB K L M) 209 2 i ((lvF c wF i).map bE).flatten,.obj y (.cells ⟨[.int .i64 n,.slice A2 n2 c2,.slice K L M,.slice t n1 v,ah [48],.slice d e f]⟩ 212 (0,0)),.arr (sO t n1 v) 3 1 n (((List.range n)).map aO).flatten,.arr (sW d e f) 56 1 n (z.map aY).flatten]++(List.range i).map (opE n c wF)/\O=n-j) (hn_ [1,3,5,7,35,36,37,46,47,48] Z) ⟨0,none,0,0,Qm _,Z,Z,Z⟩ (fun fr a7 a8 m _ Q=>?_);obtain ⟨j,A,B,E,hj,rfl,rfl,rfl⟩:=Q;refine Ua 1 [1,3,5,7,35,36,37,46,47,48,49] Z ?_;refine Ud (fun ao=>?_) fun ao=>?_
  ·have a9:j<n:=by
    have:=aK ao;omega
   have aL:QB 23 (r.1.getD j 0):=O7 aF;refine Uf fun R a=>?_;refine Ur an.m_ U10 om_ (dI om_) fl_ (fun ba aM=>?_);refine Uc aM U8 ?_;refine C4 1 [1,3,5,7,9,35,36,37,46,47,48] a Z ?_;clear a R;refine Uy [0,1,2,3,4,5,6,7] [(3,1)] Z kr_ (fun R I a=>?_);refine Ue U6 ?_;refine Uj ae U9 ?_;refine Ue U6 ?_;refine Uz (fun _=>(eN _ (r.1.getD j 0) (QG (bJ aL dc_) dc_))) U9 ?_;refine Ux [[ah (qtx (-(r.1.getD j 0)))]] U12 (fun bb _ _ aN=>?_);refine UF (j:=0) U11 aN Z aw (by show (j+1)*16<=_;omega) fl_ (fun ap aq ar=>?_);refine Ue U6 ?_;refine Um (j:=1) U12 ?_;refine Ug [1,3,5,7,35,36,37,46,47,48] a Z ?_;clear a I R;refine Uf fun R a=>?_;refine Ul _ U7 ?_;refine C4 1 [1,3,5,7,35,36,37,46,47,48] a Z ?_;clear a R;refine G.perm (L':=[.arr (sF ap aq ar) 56 1 (j+1) (((List.range (j+1)).map fun q=>-r.1.getD q 0).map aY).flatten,.obj Y (.cells ⟨[ah (qtx r.2),.slice ap aq ar]⟩ 209 (0,0)),.arr (sA A2 n2 c2) 3 1 i ((lbF n i).map aO).flatten,.arr (sB K L M) 209 2 i ((lvF c wF i).map bE).flatten,.obj y (.cells ⟨[.int .i64 n,.slice A2 n2 c2,.slice K L M,.slice t n1 v,ah [48],.slice d e f]⟩ 212 (0,0)),.arr (sO t n1 v) 3 1 n (((List.range n)).map aO).flatten,.arr (sW d e f) 56 1 n (z.map aY).flatten]++(List.range i).map (opE n c wF)) (by rw [Rs,QZ,QZ,Q5];exact List.Perm.swap _ _ _) ?_;refine Un (m':=n-(j+1)) om_ mup (hn_ [1,3,5,7,35,36,37,46,47,48] Z) ⟨j+1,ap,aq,ar,om_,Z,Z,Z⟩
  have aP:j=n:=by
   have:=Ql ao;omega
  rw [aP];refine G.freeze 1 Z (fun _ _ aQ=>?_);refine Ut (L':=[.arr (sF A B E) 56 1 n (((List.range n).map fun q=>-r.1.getD q 0).map aY).flatten,.arr (sA A2 n2 c2) 3 1 i ((lbF n i).map aO).flatten,.arr (sB K L M) 209 2 i ((lvF c wF i).map bE).flatten,.obj y (.cells ⟨[.int .i64 n,.slice A2 n2 c2,.slice K L M,.slice t n1 v,ah [48],.slice d e f]⟩ 212 (0,0)),.arr (sO t n1 v) 3 1 n (((List.range n)).map aO).flatten,.arr (sW d e f) 56 1 n (z.map aY).flatten]++(List.range i).map (opE n c wF)) Z ?_;refine G.cut (fun fr C' x O=>∃ (A7:Option Addr)(n7 c7:Nat)(A8:Option Addr)(n8 c8:Nat),(True)/\fr=[(1,[],.pointer (some ⟨W,0,none⟩)),(3,[],.pointer (some ⟨y,0,none⟩)),(35,[],.slice Ar c.length cr),(36,[],.int .i64 c.length),(37,[],.int .i64 i)]/\x=[.arr (sA A7 n7 c7) 3 1 (i+1) ((lbF n (i+1)).map aO).flatten,.arr (sB A8 n8 c8) 209 2 (i+1) ((lvF c (Iw wF i (.slice A B E)) (i+1)).map bE).flatten,.obj y (.cells ⟨[.int .i64 n,.slice A7 n7 c7,.slice A8 n8 c8,.slice t n1 v,ah [48],.slice d e f]⟩ 212 (0,0)),.arr (sO t n1 v) 3 1 n (((List.range n)).map aO).flatten,.arr (sW d e f) 56 1 n (z.map aY).flatten]++(List.range (i+1)).map (opE n c (Iw wF i (.slice A B E)))) ?_ (fun fr bc bd O be Q=>?_)
  ·refine UV (.cut [0,1,2,3,4,5,6,7,8,9,12,13,14,16] (.alt 10 (.cut [] (.alt 11 (.fin [15,17,18,19,20,21,22,23,24]) (.alt 15 (.cut [] (.alt 11 (.fin [17,18,19,20,21,22,23,24]) (.alt 17 (.fin [11,18,19,20,21,22,23,24]) .stop))) (.alt 17 (.cut [] (.alt 11 (.fin [15,18,19,20,21,22,23,24]) (.alt 15 (.fin [11,18,19,20,21,22,23,24]) .stop))) .stop)))) (.alt 15 (.cut [] (.alt 10 (.cut [] (.alt 11 (.fin [17,18,19,20,21,22,23,24]) (.alt 17 (.fin [11,18,19,20,21,22,23,24]) .stop))) (.alt 17 (.fin [10,11,18,19,20,21,22,23,24]) .stop))) (.alt 17 (.cut [] (.alt 10 (.cut [] (.alt 11 (.fin [15,18,19,20,21,22,23,24]) (.alt 15 (.fin [11,18,19,20,21,22,23,24]) .stop))) (.alt 15 (.fin [10,11,18,19,20,21,22,23,24]) .stop))) .stop)))) [(16,0)] Z Z kr_ (fun R I a F=>?_);refine Uh 5 Z ?_;refine Uj aa U9 ?_;refine Ue U6 ?_;refine Uc (bkT U 1) U8 ?_;refine Ue U6 ?_;refine Ul _ U7 ?_;refine Uh 3 Z ?_;refine Vg (fun _=>((bkT aQ 2).mono I)) U9 ?_;refine UK F Z ⟨?_, ?_, ?_,trivial⟩
   ·refine Ux [[.int .i64 ((n:Int)+(i:Int))]] U12 (fun ab ac _ J=>?_);refine UK F Z ⟨?_, ?_, ?_,trivial⟩
    ·refine UF (j:=1) U11 J.m_ Z aw (by show (i+1)*8<=_;omega) fl_ (fun g h k=>?_);refine Uj aa U9 ?_;refine Ux [[ah (qtx r.2),.slice A B E]] U12 (fun S T _ H=>?_);refine UF (j:=2) U11 H.m_ Z aw (by show (i+1)*40<=_;omega) fl_ (fun o p s=>?_);refine Uh 2 Z ?_;refine Um (j:=3) U12 ?_;refine Uh 2 Z ?_;refine Um (j:=0) U12 ?_;refine Ug [1,3,35,36,37] a Z ?_;clear a I F R;refine G.perm (L':=Do n c z y d e f t n1 v i wF r A B E g h k o p s) (pkL [2,1,0,1,1,0] Z) ?_;refine G.perm _ (dC N) ?_;exact Uq 0 mup (hn_ [1,3,35,36,37] Z) ⟨g,h,k,o,p,s,trivial,Z,Z⟩
    ·refine Uj aa U9 ?_;refine UK F Z ⟨?_, ?_,trivial⟩
     ·refine UF (j:=1) U11 J.m_ Z aw (by show (i+1)*8<=_;omega) fl_ (fun g h k=>?_);refine Ux [[ah (qtx r.2),.slice A B E]] U12 (fun S T _ H=>?_);refine UF (j:=2) U11 H.m_ Z aw (by show (i+1)*40<=_;omega) fl_ (fun o p s=>?_);refine Uh 2 Z ?_;refine Um (j:=3) U12 ?_;refine Uh 2 Z ?_;refine Um (j:=0) U12 ?_;refine Ug [1,3,35,36,37] a Z ?_;clear a I F R;refine G.perm (L':=Do n c z y d e f t n1 v i wF r A B E g h k o p s) (pkL [2,1,0,1,1,0] Z) ?_;refine G.perm _ (dC N) ?_;exact Uq 0 mup (hn_ [1,3,35,36,37] Z) ⟨g,h,k,o,p,s,trivial,Z,Z⟩
     refine Ux [[ah (qtx r.2),.slice A B E]] U12 (fun S T _ H=>?_);refine UF (j:=1) U11 J.m_ Z aw (by show (i+1)*8<=_;omega) fl_ (fun g h k=>?_);refine UF (j:=2) U11 H.m_ Z aw (by show (i+1)*40<=_;omega) fl_ (fun o p s=>?_);refine Uh 2 Z ?_;refine Um (j:=3) U12 ?_;refine Uh 2 Z ?_;refine Um (j:=0) U12 ?_;refine Ug [1,3,35,36,37] a Z ?_;clear a I F R;refine G.perm (L':=Do n c z y d e f t n1 v i wF r A B E g h k o p s) (pkL [2,1,0,1,1,0] Z) ?_;refine G.perm _ (dC N) ?_;exact Uq 0 mup (hn_ [1,3,35,36,37] Z) ⟨g,h,k,o,p,s,trivial,Z,Z⟩
    refine Ux [[ah (qtx r.2),.slice A B E]] U12 (fun S T _ H=>?_);refine UK F Z ⟨?_, ?_,trivial⟩
    ·refine UF (j:=1) U11 J.m_ Z aw (by show (i+1)*8<=_;omega) fl_ (fun g h k=>?_);refine Uj aa U9 ?_;refine UF (j:=2) U11 H.m_ Z aw (by show (i+1)*40<=_;omega) fl_ (fun o p s=>?_);refine Uh 2 Z ?_;refine Um (j:=3) U12 ?_;refine Uh 2 Z ?_;refine Um (j:=0) U12 ?_;refine Ug [1,3,35,36,37] a Z ?_;clear a I F R;refine G.perm (L':=Do n c z y d e f t n1 v i wF r A B E g h k o p s) (pkL [2,1,0,1,1,0] Z) ?_;refine G.perm _ (dC N) ?_;exact Uq 0 mup (hn_ [1,3,35,36,37] Z) ⟨g,h,k,o,p,s,trivial,Z,Z⟩
    refine Uj aa U9 ?_;refine UF (j:=1) U11 J.m_ Z aw (by show (i+1)*8<=_;omega) fl_ (fun g h k=>?_);refine UF (j:=2) U11 H.m_ Z aw (by show (i+1)*40<=_;omega) fl_ (fun o p s=>?_);refine Uh 2 Z ?_;refine Um (j:=3) U12 ?_;refine Uh 2 Z ?_;refine Um (j:=0) U12 ?_;refine Ug [1,3,35,36,37] a Z ?_;clear a I F R;refine G.perm (L':=Do n c z y d e f t n1 v i wF r A B E g h k o p s) (pkL [2,1,0,1,1,0] Z) ?_;refine G.perm _ (dC N) ?_;exact Uq 0 mup (hn_ [1,3,35,36,37] Z) ⟨g,h,k,o,p,s,trivial,Z,Z⟩
   ·refine Uj aa U9 ?_;refine UK F Z ⟨?_, ?_,trivial⟩
    ·refine Ux [[.int .i64 ((n:Int)+(i:Int))]] U12 (fun ab ac _ J=>?_);refine UK F Z ⟨?_, ?_,trivial⟩
     ·refine UF (j:=1) U11 J.m_ Z aw (by show (i+1)*8<=_;omega) fl_ (fun g h k=>?_);refine Ux [[ah (qtx r.2),.slice A B E]] U12 (fun S T _ H=>?_);refine UF (j:=2) U11 H.m_ Z aw (by show (i+1)*40<=_;omega) fl_ (fun o p s=>?_);refine Uh 2 Z ?_;refine Um (j:=3) U12 ?_;refine Uh 2 Z ?_;refine Um (j:=0) U12 ?_;refine Ug [1,3,35,36,37] a Z ?_;clear a I F R;refine G.perm (L':=Do n c z y d e f t n1 v i wF r A B E g h k o p s) (pkL [2,1,0,1,1,0] Z) ?_;refine G.perm _ (dC N) ?_;exact Uq 0 mup (hn_ [1,3,35,36,37] Z) ⟨g,h,k,o,p,s,trivial,Z,Z⟩
     refine Ux [[ah (qtx r.2),.slice A B E]] U12 (fun S T _ H=>?_);refine UF (j:=1) U11 J.m_ Z aw (by show (i+1)*8<=_;omega) fl_ (fun g h k=>?_);refine UF (j:=2) U11 H.m_ Z aw (by show (i+1)*40<=_;omega) fl_ (fun o p s=>?_);refine Uh 2 Z ?_;refine Um (j:=3) U12 ?_;refine Uh 2 Z ?_;refine Um (j:=0) U12 ?_;refine Ug [1,3,35,36,37] a Z ?_;clear a I F R;refine G.perm (L':=Do n c z y d e f t n1 v i wF r A B E g h k o p s) (pkL [2,1,0,1,1,0] Z) ?_;refine G.perm _ (dC N) ?_;exact Uq 0 mup (hn_ [1,3,35,36,37] Z) ⟨g,h,k,o,p,s,trivial,Z,Z⟩
    refine Ux [[ah (qtx r.2),.slice A B E]] U12 (fun S T _ H=>?_);refine Ux [[.int .i64 ((n:Int)+(i:Int))]] U12 (fun ab ac _ J=>?_);refine UF (j:=1) U11 J.m_ Z aw (by show (i+1)*8<=_;omega) fl_ (fun g h k=>?_);refine UF (j:=2) U11 H.m_ Z aw (by show (i+1)*40<=_;omega) fl_ (fun o p s=>?_);refine Uh 2 Z ?_;refine Um (j:=3) U12 ?_;refine Uh 2 Z ?_;refine Um (j:=0) U12 ?_;refine Ug [1,3,35,36,37] a Z ?_;clear a I F R;refine G.perm (L':=Do n c z y d e f t n1 v i wF r A B E g h k o p s) (pkL [2,1,0,1,1,0] Z) ?_;refine G.perm _ (dC N) ?_;exact Uq 0 mup (hn_ [1,3,35,36,37] Z) ⟨g,h,k,o,p,s,trivial,Z,Z⟩
   refine Ux [[ah (qtx r.2),.slice A B E]] U12 (fun S T _ H=>?_);refine UK F Z ⟨?_, ?_,trivial⟩
   ·refine Ux [[.int .i64 ((n:Int)+(i:Int))]] U12 (fun ab ac _ J=>?_);refine UK F Z ⟨?_, ?_,trivial⟩
    ·refine UF (j:=1) U11 J.m_ Z aw (by show (i+1)*8<=_;omega) fl_ (fun g h k=>?_);refine Uj aa U9 ?_;refine UF (j:=2) U11 H.m_ Z aw (by show (i+1)*40<=_;omega) fl_ (fun o p s=>?_);refine Uh 2 Z ?_;refine Um (j:=3) U12 ?_;refine Uh 2 Z ?_;refine Um (j:=0) U12 ?_;refine Ug [1,3,35,36,37] a Z ?_;clear a I F R;refine G.perm (L':=Do n c z y d e f t n1 v i wF r A B E g h k o p s) (pkL [2,1,0,1,1,0] Z) ?_;refine G.perm _ (dC N) ?_;exact Uq 0 mup (hn_ [1,3,35,36,37] Z) ⟨g,h,k,o,p,s,trivial,Z,Z⟩
    refine Uj aa U9 ?_;refine UF (j:=1) U11 J.m_ Z aw (by show (i+1)*8<=_;omega) fl_ (fun g h k=>?_);refine UF (j:=2) U11 H.m_ Z aw (by show (i+1)*40<=_;omega) fl_ (fun o p s=>?_);refine Uh 2 Z ?_;refine Um (j:=3) U12 ?_;refine Uh 2 Z ?_;refine Um (j:=0) U12 ?_;refine Ug [1,3,35,36,37] a Z ?_;clear a I F R;refine G.perm (L':=Do n c z y d e f t n1 v i wF r A B E g h k o p s) (pkL [2,1,0,1,1,0] Z) ?_;refine G.perm _ (dC N) ?_;exact Uq 0 mup (hn_ [1,3,35,36,37] Z) ⟨g,h,k,o,p,s,trivial,Z,Z⟩
   refine Uj aa U9 ?_;refine Ux [[.int .i64 ((n:Int)+(i:Int))]] U12 (fun ab ac _ J=>?_);refine UF (j:=1) U11 J.m_ Z aw (by show (i+1)*8<=_;omega) fl_ (fun g h k=>?_);refine UF (j:=2) U11 H.m_ Z aw (by show (i+1)*40<=_;omega) fl_ (fun o p s=>?_);refine Uh 2 Z ?_;refine Um (j:=3) U12 ?_;refine Uh 2 Z ?_;refine Um (j:=0) U12 ?_;refine Ug [1,3,35,36,37] a Z ?_;clear a I F R;refine G.perm (L':=Do n c z y d e f t n1 v i wF r A B E g h k o p s) (pkL [2,1,0,1,1,0] Z) ?_;refine G.perm _ (dC N) ?_;exact Uq 0 mup (hn_ [1,3,35,36,37] Z) ⟨g,h,k,o,p,s,trivial,Z,Z⟩
  obtain ⟨A7,n7,c7,A8,n8,c8,_,rfl,rfl⟩:=Q;refine Uf fun R a=>?_;refine Ul _ U7 ?_;refine C4 1 [1,3,35,36,37] a Z ?_;clear a R;refine Un (m':=c.length-(i+1)) om_ mup (hn_ [1,3,35,36,37] Z) ⟨i+1,A7,n7,c7,A8,n8,c8,(Iw wF i (.slice A B E)),om_,Z,Z,Z⟩
 have aj:i=c.length:=by
  have:=Ql am;omega
 refine Ua 2 [2] Z ?_;rw [aj];refine G.perm (L':=(fc y n (Lp.openT (eJ n c) fun j=>z.getD j 0) (.slice A2 n2 c2) (.slice K L M) (.slice t n1 v) (.slice d e f) wF).map Lent.ent) (by rw [F8 au];(exact pkL [2,0,0,0] Z)) ?_;refine Up (UR Z Z ?_);exact ⟨y,.slice A2 n2 c2,.slice K L M,.slice t n1 v,.slice d e f,wF,Z,Z⟩
end Go.Proofs.YthnpijdjlddpmaaGreatDoor
