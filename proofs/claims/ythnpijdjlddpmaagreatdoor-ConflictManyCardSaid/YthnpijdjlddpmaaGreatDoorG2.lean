/- Laws that the proofs of this seat share, part 2. -/
import Derived.Test.YthnpijdjlddpmaaGreatDoorG1
import Derived.Test.YthnpijdjlddpmaaGreatDoorShelf
import Derived.OpenShut
import Derived.ChangeSame
import Derived.ChangeVars
import Derived.Deep.Slices
import Derived.Deep.DeepHandedRow
import Derived.LaidLaws
import Derived.WalkKit
import Derived.ProofKit
import Derived.Shelf.Vars
import Derived.ChangeKeysEq
import Derived.MapKept
import Derived.Sort.Walk0
import Derived.Shelf.SlSortCmp.Insertion
import Derived.Test.YthnpijdjlddpmaaGreatDoorProg
import Derived.Laws.Bits64b
namespace Go.Jog
open Go
section
variable {cx:Cx} {n:Nat} {ds:List (Option Nat)} {R:Rg n ds} {its:List It} {fr:Fr} {C:Mem} {L:List Ent} {i k d:Nat} {o:Oper} {g:GL} {v:Value}
theorem Sl.flat {C:Mem}{s:Nat}{A:Option Addr}{d c:Nat}{b:List (List Value)}(k:Sl C s (.slice A d c) b)(l:0<s)(m:b≠[]) :
  d=b.length/\∃ a,A=some a/\a.spot=none/\∀ (q:Nat)(u:Value),b.flatten[q]?=some u->CCell C (a.add q) u:=by
 obtain ⟨y,z,h1,h2,h3,h4,h5⟩:=k;cases h1
 refine ⟨Z, ?_⟩;cases b with
 | nil=>exact absurd rfl m
 | cons r rs =>
  obtain ⟨n,o,p,_⟩:=h5 0 r (by simp);subst o;refine ⟨n,Z,p,fun q u e=>?_⟩;have t:q<(r::rs).length*s:=by rw [<- bB h4];exact (aX.1 e).1
  have f:q / s<(r::rs).length:=OK (by rw [ML];exact t);have g:(r::rs)[q / s]?=some (r::rs)[q / s]:=aj f;have v:q % s<((r::rs)[q / s]).length:=by rw [h4 _ (MP f)];exact MR _ l
  have h:=aj v;have i:=getElem?_flatten_rows h4 g h;have j:q / s*s+q % s=q:=by rw [ML];exact Nat.div_add_mod q s
  rw [j,e] at i;obtain ⟨B,w,D,x⟩:=h5 _ _ g;cases w
  have:=x _ _ h;rw [j] at this;rw [Nc i];exact this
/-! ### Rows of the function's own that are made -/
theorem St.objArr {o:World}{p:Mem}{q:List Ent}{C:Mem}{L:List Ent}{w:World}{b e s m g:Nat}{i j:List Value}(h:St o p q C (.obj b (.cells ⟨i⟩ e (0,0))::L) w)(r:i.take (m*s)=j)(v:i.length=g*s)(t:m<=g)(z:g<=maxLen) :
  St o p q C (.arr (.slice (some ⟨b,0,none⟩) m g) e s m j::L) w:=by
 have A:w.heap[b]?=some (.cells ⟨i⟩ e (0,0)):=h.sep.e _ (aF ..);have u:=MI.1 h.sep.d;have l:∀ k,(Ent.arr (.slice (some ⟨b,0,none⟩) m g) e s m j).own k->k=b:=fun k f=>by simp only [Ent.own,Value.ownBlock,Mq] at f;exact f.symm
 have B:m*s<=g*s:=MG _ t;refine ⟨⟨h.sep.c,fun x a=>?_,MI.2 ⟨fun y hy k f=>u.1 y hy k (l k f),u.2⟩,fun k ⟨x,a,f⟩=>?_⟩,h.ev,h.c0,h.cn,fun k ⟨x,a,f⟩=>?_⟩
 ·rcases Ma.1 a with rfl | a
  ·exact ⟨by rw [<- r,Mv];omega,.inr ⟨b,g,⟨i⟩,Z,LV _,A,t,z,by simpa using v,by simpa using r⟩⟩
  ·exact h.sep.e x (by simp [a])
 ·rcases Ma.1 a with rfl | a
  ·exact h.sep.n k ⟨_,aF ..,l k f⟩
  ·exact h.sep.n k ⟨x,by simp [a],f⟩
 ·rcases Ma.1 a with rfl | a
  ·exact h.ln k ⟨_,aF ..,l k f⟩
  ·exact h.ln k ⟨x,by simp [a],f⟩
theorem QV {e s m c:Nat}{cs f:List Value}(l:Nat.ble k 1=false)(p:o.dst=some d)(q:gOn ds fr o.guard=true)(r:∀ v,aO n ds ((d,[],v)::fr) d=true)
  (t:∀ a,EK (ev fr []) a->∀ w,(execOp a.eval o).run cx.P w=.ok (.value (.slice (some ⟨w.heap.size,0,none⟩) m c)) (w.alloc (.cells ⟨cs⟩ e))) (g:cs.take (m*s)=f) (u:cs.length=c*s) (y:m<=c) (z:c<=maxLen)
  (h:∀ b,D cx R its ((d,[],.slice (some ⟨b,0,none⟩) m c)::fr) C (.arr (.slice (some ⟨b,0,none⟩) m c) e s m f::L)):D cx R ((i,k,o)::its) fr C L :=
 PP (S:=fun v C' j=>C'=C/\∃ b,v=.slice (some ⟨b,0,none⟩) m c/\j=.arr (.slice (some ⟨b,0,none⟩) m c) e s m f::L) l p q r (fun a hs w _ A=>by
  unfold Oper.wp;rw [t a hs w];exact ⟨_,C,.arr (.slice (some ⟨w.heap.size,0,none⟩) m c) e s m f::L,Z,Mem.le.refl _,fun _ x g=>by simp [g],St.objArr (St.alloc A _) g u y z,Z,_,Z,Z⟩)
  (fun v C' j _ ⟨B,b,E,F⟩=>by subst B;subst E;subst F;exact h b)
theorem Qo {t e g:Nat}{j:Array (Nat × Operand)}{m f:TI}(c:List (List Value))(y:Z12 (Nat.ble k 1) false o.dst (some d) (gOn ds fr o.guard) true o.op (.buildSlice t g j) (cx.T.get t) (some m) m.k (.slice e) (cx.T.get e) (some f) (rowsO (ev fr []) j.toList 0) (some c) (c.all fun r=>Nat.beq r.length f.size) true (Nat.beq j.toList.length g) true (Nat.ble (g*f.size) 16777216) true (Nat.beq f.size 0) false)(z:∀ v,aO n ds ((d,[],v)::fr) d=true)(h:∀ b,D cx R its ((d,[],.slice (some ⟨b,0,none⟩) c.length c.length)::fr) C (.arr (.slice (some ⟨b,0,none⟩) c.length c.length) e f.size c.length c.flatten::L)):D cx R ((i,k,o)::its) fr C L:=by
 have ⟨A,B,E,F,G,H,I,p,J,K,q,s⟩:=y;have l:∀ r∈c,r.length=f.size:=fun r hr=>Mj (Mg.1 J r hr);have u:=Mj K;rw [Nn] at q;have M:=(cT p l).2;have N:=bB l;have h0:0<f.size:=NK (fun e=>by rw [e] at s;cases s);refine QV (cs:=c.flatten) A B E z (fun a hs w=>?_) (MZ om_) N (LP _) ?_ h
 ·have O:execOp a.eval o=(do Pure.pure (.value (<- Instr.buildSlice t g (j.map fun (i,x)=>(i,a.eval x)))):Sem Next):=by unfold execOp;rw [F]
  rw [O];have P:(j.map fun (i,x)=>(i,a.eval x))=(j.toList.map fun (i,x)=>(i,a.eval x)).toArray:=by apply Ni;simp
  rw [P];simp only [Sem.run_bind,dZ cx.hT G H I (fun x v Q=>hs x v Q) p l u q w,Result.andThen_ok,Sem.run_pure]
 ·rw [M,u];have:g<=g*f.size:=NN _ h0;simp only [maxLen];omega
def jx (z:List Value):Nat->List Value
 | 0=>[]
 | m+1=>z++jx z m
theorem cI (z:List Value):∀ m,(jx z m).length=m*z.length
 | 0=>by simp [jx]
 | m+1=>by simp [jx,cI z m,Nx];omega
theorem eh (z:List Value):∀ m,jx z m=(List.replicate m z).flatten
 | 0=>rfl
 | m+1=>by simp [jx,eh z m,MX]
theorem wX (z:List Value):∀ (m q:Nat),q<m*z.length->(jx z m)[q]?=z[q % z.length]?
 | 0,q,h=>by simp at h
 | m+1,q,h=>by
  simp only [jx];by_cases a:q<z.length
  ·rw [MF a,NX a]
  ·rw [Ms om_,wX z m _ (by rw [Nx] at h;omega)];congr 1;rw [Nat.mod_eq_sub_mod (by omega:z.length<=q)]
theorem Dd (z:List Value)(m:Nat):madeCells ⟨z⟩ (m*z.length)=⟨jx z m⟩:=by
 apply Ni;apply List.ext_getElem?;intro q;simp only [madeCells,Array.toList_map,Array.toList_range,LU,NG];by_cases a:q<m*z.length
 ·rw [wX z m q a,Mr a];have c:0<z.length:=by
   rcases NL z.length with h | h
   ·rw [h] at a;simp at a
   ·exact h
  have b:q % z.length<z.length:=MR _ c;simp only [Nt];rw [aj b];simp [b]
 ·rw [LX (by simp;omega),LX (by rw [cI];omega)];rfl
theorem P3 {t e:Nat}{x y:Operand}{p r:IntKind}{l c:Nat}{g f:TI}(B:Z9 (Nat.ble k 1) false o.dst (some d) (gOn ds fr o.guard) true o.op (.makeSlice t x y) (cx.T.get t) (some g) g.k (.slice e) (cx.T.get e) (some f) (ev fr [] x) (some (.int p l)) (ev fr [] y) (some (.int r c)))(E:l<=c)(Y:f.bytes*c<=281474976710656)(s:c<=maxLen)(F:∀ v,aO n ds ((d,[],v)::fr) d=true)(h:∀ b,D cx R its ((d,[],.slice (some ⟨b,0,none⟩) l c)::fr) C (.arr (.slice (some ⟨b,0,none⟩) l c) e f.size l (jx (f.zero.map Zv.val) l)::L)):D cx R ((i,k,o)::its) fr C L:=by
 have ⟨G,H,I,J,K,u,z,M,hy⟩:=B;have N:cx.P.underlying t=some (.slice e):=by
  obtain ⟨Z,s1,b1,z1,g1⟩:=g;simp only at u;subst u;exact ck cx.hT K
 obtain ⟨inf,O,Q,S,U,A⟩:=(dO cx.hT z).info;have j:(f.zero.map Zv.val).length=f.size:=by
  have:=(dO cx.hT z).zsize;rw [A] at this;simpa using this
 have V:∀ m q,jx (f.zero.map Zv.val) (m+q)=jx (f.zero.map Zv.val) m++jx (f.zero.map Zv.val) q:=by
  intro m q;induction m with
  | zero=>simp [jx]
  | succ m W=>rw [show m+1+q=(m+q)+1 by omega];simp [jx,W]
 refine QV (cs:=jx (f.zero.map Zv.val) c) G H I F (fun a hs w=>?_) ?_ (by rw [cI,j]) E s h
 ·have X:execOp a.eval o=(do Pure.pure (.value (<- Instr.makeSlice t (a.eval x) (a.eval y))):Sem Next):=by unfold execOp;rw [J]
  rw [X,hs _ _ M,hs _ _ hy];have hr:=run_make (P:=cx.P) w t e inf f.zv N O U p r (l:Int) (c:Int) om_ om_ (by rw [S,<- M1];omega) (by simp only [maxLen] at s;omega);simp only [NO] at hr;rw [Q,<- j,A,Dd] at hr;simp only [Sem.run_bind,hr,Result.andThen_ok,Sem.run_pure]
 ·obtain ⟨q,rfl⟩:∃ q,c=l+q:=⟨c-l,by omega⟩;rw [V];exact List.take_left' (by rw [cI,j])
/-! ### Arrays behind pointers -/
theorem pH {P:Program}{t e b c:Nat}(d:P.underlying t=some (.array b e)){f:IntKind}{m:Int}(g:0<=m)(h:m<b)(a:Addr){w:World}(i:(sizeOf e).run P w=.ok c w) :
  (Instr.indexAt t (.pointer (some a)) (.int f m)).run P w=.ok (.pointer (some (a.add (m.toNat*c)))) w:=by
 simp [Instr.indexAt,asIntOf,run_underlying d,Instr.sureAddr,i,g,h]
theorem Py (c:Nat){t e f b l:Nat}{x y:Operand}{r:IntKind}{m:Int}{j p:TI}(s:Z9 (Nat.ble k 1) true o.dst (some d) o.op (.indexAddr t x y) (gOf ds fr o.guard) (some g) (ev fr g x) (some (.pointer (some ⟨b,l,none⟩))) (ev fr g y) (some (.int r m)) (cx.T.get t) (some j) j.k (.arr f e) (cx.T.get e) (some p))(u:GT ds fr g->0<=m/\m<f/\c=l+m.toNat*p.size)(v:Z2 (aO n ds ((d,g,.pointer (some ⟨b,c,none⟩))::fr) d) true (wfG ds fr g) true)(h:D cx R its ((d,g,.pointer (some ⟨b,c,none⟩))::fr) C L):D cx R ((i,k,o)::its) fr C L:=by
 have ⟨z,A,B,E,F,hy,G,q,H⟩:=s;have ⟨I,J⟩:=v;have K:cx.P.underlying t=some (.array f e):=by
  obtain ⟨S,U,V,W,X⟩:=j;simp only at q;subst q;exact mY cx.hT G
 refine D.run _ z A E (fun M a hs w=>?_) I J h;obtain ⟨N,O,rfl⟩:=u M;have Q:execOp a.eval o=(do Pure.pure (.value (<- Instr.indexAt t (a.eval x) (a.eval y))):Sem Next):=by unfold execOp;rw [B]
 rw [Q,hs _ _ F,hs _ _ hy];simp only [Sem.run_bind,pH K N O _ (dI cx.hT H w),Result.andThen_ok,Sem.run_pure,Addr.add_lit]
theorem Rk {t e f:Nat}{x y:Operand}{H:IntKind}{m:Int}{p:Value}{q:List Value}{j b:TI}(r:Nat.ble k 1=true)(s:o.dst=some d)(I:o.op=.indexAddr t x y)
  (u:gOf ds fr o.guard=some g) (J:ev fr g x=some p) (K:ev fr g y=some (.int H m)) (M:cx.T.get t=some j) (z:j.k=.arr f e) (N:cx.T.get e=some b)
  (O:GT ds fr g->PtrTo C p q) (A:GT ds fr g->0<=m/\m<f) (B:∀ v,aO n ds ((d,g,v)::fr) d=true) (E:wfG ds fr g=true)
  (h:∀ F,(GT ds fr g->PtrTo C F ((q.drop (m.toNat*b.size)).take b.size))->D cx R its ((d,g,F)::fr) C L):D cx R ((i,k,o)::its) fr C L:=by
 have Q:cx.P.underlying t=some (.array f e):=by
  obtain ⟨X,Y,b1,z1,g1⟩:=j;simp only at z;subst z;exact mY cx.hT M
 by_cases c:GT ds fr g
 ·obtain ⟨S,U,V⟩:=(O c).part (m.toNat*b.size) b.size;refine PO r s u (B (.pointer (some (S.add (m.toNat*b.size))))) E (fun _ a G aa ab w hw=>?_) (h _ (fun _=>V));have W:execOp a.eval o=(do Pure.pure (.value (<- Instr.indexAt t (a.eval x) (a.eval y))):Sem Next):=by unfold execOp;rw [I]
  unfold Oper.quietAt;rw [W,G _ _ J,G _ _ K,U];simp only [Sem.run_bind,pH Q (A c).1 (A c).2 _ (dI cx.hT N w),Result.andThen_ok,Sem.run_pure];exact ⟨Z,Z⟩
 ·exact PO r s u (B undef) E (fun l=>absurd l c) (h _ (fun l=>absurd l c))
/-! ### Bytes to a string -/
theorem zV (s:List UInt8):∀ a:ByteArray,(s.map fun b=>(b.toNat:Int)).foldl (fun r n=>r.push (UInt8.ofNat n.toNat)) a=a++⟨s.toArray⟩:=by
 induction s with
 | nil =>
  intro a;apply ByteArray.ext;simp []
 | cons b s c =>
  intro a;simp only [Mp,M8];rw [c];have e:UInt8.ofNat ((b.toNat:Int)).toNat=b:=by simp
  rw [e];apply ByteArray.ext;simp [ByteArray.data_push]
theorem Qx {f g e:Nat}{x:Operand}{p:Value}{s:List UInt8}{l m q:TI}(z:Sl C 1 p (s.map fun b=>[.int .u8 b.toNat]))(Q:Z11 k 2 o.dst (some d) o.op (.convert f g x) (gOn ds fr o.guard) true (ev fr [] x) (some p) (cx.T.get f) (some l) l.k (.slice e) (cx.T.get g) (some m) m.k .str (cx.T.get e) (some q) q.k (.int .u8))(U:∀ v,aO n ds ((d,[],v)::fr) d=true)(h:D cx R its ((d,[],.string ⟨s.toArray⟩)::fr) C L):D cx R ((i,k,o)::its) fr C L :=
 have ⟨V,W,X,Y,hx,aa,B,ab,E,ac,F⟩:=Q;PP (S:=fun v C' G=>v=.string ⟨s.toArray⟩/\C'=C/\G=L) (by subst V;rfl) W Y U (fun a ad w _ H=>by
  have ae:cx.P.underlying f=some (.slice e):=by
   obtain ⟨I,J,K,M,N⟩:=l;simp only at B;subst B;exact ck cx.hT aa
  have af:cx.P.underlying g=some .string:=by
   obtain ⟨I,J,K,M,N⟩:=m;simp only at E;subst E;exact mW cx.hT ab
  have ag:cx.P.underlying e=some (.int .u8):=by
   obtain ⟨I,J,K,M,N⟩:=q;simp only at F;subst F;exact rq cx.hT ac
  have ah:=z;obtain ⟨A,c,rfl,aj,ak,al,am⟩:=ah;have ai:(execOp a.eval o).run cx.P w=.ok (.value (.string ⟨s.toArray⟩)) w:=by
   have r:execOp a.eval o=(do Pure.pure (.value (<- convert f g (a.eval x))):Sem Next):=by unfold execOp;rw [X]
   rw [r,ad _ _ hx];simp only [Sem.run_bind,run_convert_bytes_string w f g e _ _ _ ae ag af];cases t:s with
   | nil =>
    subst t;cases A with
    | none=>simp [Conv.bytesToString];rfl
    | some a0 =>
     have u:(loadCells a0 0).run cx.P w=.ok (([]:List Int).map (Value.int .u8)).toArray w:=by simp [loadCells,loadCellsFrom]
     have y:=run_bytesToString (P:=cx.P) w a0 0 c [] u;simp only [NQ,MM,y,Result.andThen_ok];rfl
   | cons b bs =>
    obtain ⟨an,a0,rfl, -,O⟩:=Sl.flat z om_ (by rw [t];simp);rw [fG] at O;have u:(loadCells a0 (s.map fun b=>[Value.int .u8 b.toNat]).length).run cx.P w=.ok ((s.map fun b=>(b.toNat:Int)).map (Value.int .u8)).toArray w:=by
     have:=jr (P:=cx.P) (w:=w) (a:=a0) (cs:=s.map fun b=>Value.int .u8 b.toNat) (fun j v hj=>(O j v hj).cell H.sep);simpa [Function.comp_def] using this
    have y:=run_bytesToString (P:=cx.P) w a0 _ c _ u;rw [<- t];simp only [y,Result.andThen_ok,zV,Sem.run_pure];congr 3
  unfold Oper.wp;rw [ai];exact ⟨_,C,L,Z,Mem.le.refl _,fun _ _ h=>h,H,Z,Z,Z⟩)
  (fun v C' G _ ⟨r,e2,e3⟩=>by subst r;subst e2;subst e3;exact h)
end
/-! ### Results that lie in a cell -/
section
variable {F:Fx} {k:List KI} {fr:Fr} {C:Mem} {L:List Ent}
theorem dY {w:World}{b t:Nat}{a:List Value}{e:TypeId}{f:Nat × Nat}{c:TI}{v:Value}(g:F.cx.T.get t=some c)(h:w.heap[b]?=some (.cells ⟨a⟩ e f))(i:cQ c (a.take c.size)=some v):(loadVar t ⟨b,0,none⟩).run F.cx.P w=.ok v w:=by
 refine dS F.cx.hT g (cs:=a.take c.size) (fun j u d=>?_) i;rw [Addr.add_lit,cell_of_row w b (0+j) _ e f h];rw [Mz] at d;split at d
 ·simpa using d
 ·cases d
theorem PW {r b t:Nat}{f:List Value}{k:TypeId}{l:Nat × Nat}{c:TI}{v:Value}(m:Ent.obj b (.cells ⟨f⟩ k l)∈L)(n:Z4 F.fn.results (#[.cell r t]) (ev fr [] (.tmp r)) (some (.pointer (some ⟨b,0,none⟩))) (F.cx.T.get t) (some c) (cQ c (f.take c.size)) (some v))(h:F.post v C [])(g:F.ends:=by exact ⟨fun _ _ _ h=>h,rfl⟩):G F [] .ret fr C L:=have ⟨o,hr,q,s⟩:=n;fun _ a w i j=>by
 refine g.kq ?_;have d:=bC i (fun p u=>by cases u) hr;simp only [Act.eval] at d;refine bodyPost_ret (v:=v) ?_ (i.defers.trans g.2) ⟨v,C,[],Z,St.dropAll j,h⟩;have x:=dY (F:=F) q (j.sep.e _ m) s;simp only [MO] at d;simp [results,o,d,asAddr,x]
theorem Qh {r s b t:Nat}{j:List Value}{m:TypeId}{n:Nat × Nat}{c:TI}{u v:Value}(o:Ent.obj b (.cells ⟨j⟩ m n)∈L)(q:Z5 F.fn.results (#[.cell r t,.tmp s]) (ev fr [] (.tmp r)) (some (.pointer (some ⟨b,0,none⟩))) (ev fr [] (.tmp s)) (some u) (F.cx.T.get t) (some c) (cQ c (j.take c.size)) (some v))(h:F.post (.tuple #[v,u]) C [])(k:F.ends:=by exact ⟨fun _ _ _ h=>h,rfl⟩):G F [] .ret fr C L:=have ⟨x,hr,hs,y,z⟩:=q;fun _ a w d l=>by
 refine k.kq ?_;have f:=bC d (fun p g=>by cases g) hr;have i:=bC d (fun p g=>by cases g) hs;simp only [Act.eval] at f i;refine bodyPost_ret (v:=.tuple #[v,u]) ?_ (d.defers.trans k.2) ⟨_,C,[],Z,St.dropAll l,h⟩;have A:=dY (F:=F) y (l.sep.e _ o) z;simp only [MO] at f i;simp [results,x,f,i,asAddr,A]
end
end Go.Jog
namespace Go.Jog
open Go
theorem eB {a:Type}(f:a->Value):∀ l:List a,(l.map fun x=>[f x]).flatten=l.map f
 | []=>rfl
 | x::l=>by simp [eB f l]
def al (s:List UInt8):Value:=.string ⟨s.toArray⟩
end Go.Jog
namespace Go.Jog
open Go
section
variable {α:Type} {enc:α->List Value} {s:Nat}
theorem bS (a:∀ x,(enc x).length=s)(l:List α):(l.map enc).flatten.length=l.length*s:=by
 have:=bB (s:=s) (rows:=l.map enc) (fun r hr=>by obtain ⟨x,_,rfl⟩:=L4.1 hr;exact a x);simpa using this
theorem ci (a:∀ x,(enc x).length=s):∀ (l:List α)(i:Nat),(l.map enc).flatten.take (i*s)=((l.take i).map enc).flatten/\(l.map enc).flatten.drop (i*s)=((l.drop i).map enc).flatten
 | [],i=>by simp
 | x::l,0=>by simp
 | x::l,i+1=>by
  obtain ⟨h1,h2⟩:=ci a l i;have e:(i+1)*s=s+i*s:=by rw [Nx];omega
  have b:=a x;constructor
  ·rw [e,Mp,Ng,List.take_append,b,MZ om_,show s+i*s-s=i*s by omega,h1];simp
  ·rw [e,Mp,Ng,OE,b,MY om_,show s+i*s-s=i*s by omega,h2];simp
theorem ec (a:∀ x,(enc x).length=s){l:List α}{i:Nat}{x:α}(h:l[i]?=some x):((l.map enc).flatten.drop (i*s)).take s=enc x:=by
 rw [(ci a l i).2];obtain ⟨h1,h2⟩:=aX.1 h;rw [MB h1,h2,Mp,Ng];rw [List.take_append,a,MZ (by rw [a];omega)];simp
theorem bK (a:∀ x,(enc x).length=s){l:List α}{i:Nat}(x:α)(h:i<l.length):aA (l.map enc).flatten (enc x) (i*s)=((l.set i x).map enc).flatten:=by
 unfold aA;rw [a,(ci a l i).1,show i*s+s=(i+1)*s by rw [Nx];omega,(ci a l (i+1)).2];rw [List.set_eq_take_append_cons_drop,aI h];simp
end
/- An element's address in a slice that begins at a known place. -/
/- A whole array, or a part of it, as a slice. -/
section
variable {cx:Cx} {n:Nat} {ds:List (Option Nat)} {R:Rg n ds} {its:List It} {fr:Fr} {C:Mem} {L:List Ent} {i k d:Nat} {o:Oper} {g:GL} {v:Value}
theorem QU (l:Nat)(h:Nat)(m:Nat){t e c f:Nat}{a:Addr}{x:Operand}{j p q:Option Operand}{s u y:Option Value}{r z:TI}(B:Z12 (Nat.ble k 1) true o.dst (some d) o.op (.slice t x j p q) (gOf ds fr o.guard) (some g) (ev fr g x) (some (.pointer (some a))) (CN (ev fr g) j) (some s) (CN (ev fr g) p) (some u) (CN (ev fr g) q) (some y) (cx.T.get t) (some r) r.k (.arr c e) (cx.T.get e) (some z) z.size f)(E:GT ds fr g->SlB c c s u y l h m)(F:Z2 (aO n ds ((d,g,.slice (some (if m=l then a else a.add (l*f))) (h-l) (m-l))::fr) d) true (wfG ds fr g) true)(G:D cx R its ((d,g,.slice (some (if m=l then a else a.add (l*f))) (h-l) (m-l))::fr) C L):D cx R ((i,k,o)::its) fr C L:=by
 have ⟨H,I,J,K,b,M,N,O,Q,A,S,U⟩:=B;have ⟨V,W⟩:=F;have X:cx.P.underlying t=some (.array c e):=by
  obtain ⟨kk,s1,b1,z1,g1⟩:=r;simp only at A;subst A;exact mY cx.hT Q
 refine D.run _ H I K (fun Y a hs w=>?_) V W G;have Z:execOp a.eval o=(do Pure.pure (.value (<- Instr.sliceAt t (a.eval x) (j.map a.eval) (p.map a.eval) (q.map a.eval))):Sem Next):=by unfold execOp;rw [J]
 rw [Z,hs _ _ b,eA (fun x v b=>hs x v b) M,eA (fun x v b=>hs x v b) N,eA (fun x v b=>hs x v b) O];have h2:=dI cx.hT S w;rw [U] at h2;simp [Instr.sliceAt,Instr.sureAddr,run_underlying X,eR (E Y),h2]
end
section
variable {cx:Cx} {n:Nat} {ds:List (Option Nat)} {R:Rg n ds} {its:List It} {fr:Fr} {C:Mem} {L:List Ent} {i k d:Nat} {o:Oper} {g:GL} {v:Value}
theorem PR {t e l:Nat}{m:Array (Nat × Operand)}{q g:TI}(c:List (List Value))(A:Z12 (Nat.ble k 1) false o.dst (some d) (gOn ds fr o.guard) true o.op (.buildSlice t l m) (cx.T.get t) (some q) q.k (.slice e) (cx.T.get e) (some g) (rowsO (ev fr []) m.toList 0) (some c) (c.all fun r=>Nat.beq r.length g.size) true (Nat.beq m.toList.length l) true (Nat.ble (l*g.size) 16777216) true (Nat.beq g.size 0) false)(B:∀ v,aO n ds ((d,[],v)::fr) d=true)(h:∀ b C',C.le C'->Sl C' g.size (.slice (some ⟨b,0,none⟩) c.length c.length) c->D cx R its ((d,[],.slice (some ⟨b,0,none⟩) c.length c.length)::fr) C' L):D cx R ((i,k,o)::its) fr C L:=by
 have ⟨E,F,G,H,I,J,K,s,M,N,u,y⟩:=A;have p:∀ r∈c,r.length=g.size:=fun r hr=>Mj (Mg.1 M r hr);have z:=Mj N;rw [Nn] at u;have O:=(cT s p).2;refine QM (f:=fun b=>.slice (some ⟨b,0,none⟩) c.length c.length) (ob:=.cells ⟨c.flatten⟩ e) E F G B (fun a hs w=>?_) (fun b C' P Q=>?_)
 ·have S:execOp a.eval o=(do Pure.pure (.value (<- Instr.buildSlice t l (m.map fun (i,x)=>(i,a.eval x)))):Sem Next):=by unfold execOp;rw [H]
  rw [S];have U:(m.map fun (i,x)=>(i,a.eval x))=(m.toList.map fun (i,x)=>(i,a.eval x)).toArray:=by apply Ni;simp
  rw [U];simp only [Sem.run_bind,dZ cx.hT I J K (fun x v V=>hs x v V) s p z u w,Result.andThen_ok,Sem.run_pure]
 ·refine h b C' P (Sl.ofBlock Q p (fun j v W=>by simpa using W) (LP _) ?_);rw [O,z];have h0:0<g.size:=NK (fun e=>by rw [e] at y;cases y);have:l<=l*g.size:=NN _ h0;simp only [maxLen];omega
end
theorem Po {F:Fx}{k:List KI}{a:Fr}{C:Mem}{L L':List Ent}{e:Exit}(b:L=L')(h:G F k e a C L'):G F k e a C L:=b ▸ h
/-! ### Equal neighbours -/
end Go.Jog
namespace Go.Jog
open Go Go.RowKit Go.WideShapes Go.ChangeShapes Go.Deep
def Da (W:World):Mem:=fun k=>W.heap[k]?
theorem BQ (W:World):Sep (Da W) [] W:=⟨fun _ _ h=>h,fun x a=>(by cases a),List.Pairwise.nil,fun k ⟨x,a,_⟩=>(by cases a)⟩
theorem vT {P:Program}{f:FuncId}{a:List Value}{W:World}{v:Value}(h:Gives P f a (Da W) v):Calls P f a.toArray W fun e b=>e=.returned v/\RowKit.Below W.heap.size W b :=
 (h.2 W (BQ W)).mono fun e b ⟨u,C',j,c,d,g,l⟩=>⟨by rw [c,g],d.ev.below (fun k ⟨x,i,_⟩=>by cases i)⟩
section
variable {H:Type} {enc:TypeId × Value->H} {P:Program} {W:World} {spare:Nat->Bool} {held:Bool}
theorem rL {f:Func}{s:ChangeSpec}{m y z A:Bool}{W e:World}{k:Array Value}{v:Value}{g h:List (DataW H)}{c pa pv:List MemPlace}
  (l:DataW.Whole enc P f.params.toList s.vars m W k.toList g h c)
  (n:∀ (b:Nat)(d:Nat->Bool)(B:Bool),DataW.TrodAll enc P e b d B f.resultTypes.toList (v.resultList f.resultTypes.size) (s.fn H (g++h)).results [])
  (o:∀ d:Nat->Bool,(∀ p∈c,d p.block=true)->DataW.TrodAll enc P e 0 d true f.params.toList k.toList (s.fn H (g++h)).args pa)
  (q:∀ d:Nat->Bool,(∀ p∈c,d p.block=true)->DataW.TrodVars enc P e d s.vars (s.fn H (g++h)).vars pv)
  (i:c=pa++pv) (u:RowKit.Below W.heap.size W e)
  (C:∀ (j:Nat)(t:TypeId)(r:Value),f.resultTypes[j]?=some t->(v.resultList f.resultTypes.size)[j]?=some r->Value.okWide P e .any 0 t r) :
  s.post enc P f m y z A W k v e:=by
 have w:∀ p∈c,p.block<W.heap.size:=fun p a=>l.lt p a;have hold:∀ p∈c,(fun b=>decide (b<W.heap.size)) p.block=true:=fun p a=>by simpa using w p a
 refine ⟨g,h,c,[],pa,pv,l,n _ _ _,o _ hold,q _ hold,World.keptBut_mono (fun p a=>⟨a, ?_⟩) (u.frame (·∈c)),fun _=>?_⟩
 ·rw [i,Mh] at a;exact Or.inr a
 ·obtain ⟨_,_,_,_,_,D,E⟩:=l;refine ⟨C,_,_,([]++pa)++pv,⟨[]++pa,pv,trodAll_append (o _ (fun _ _=>rfl)) (n _ _ _),q _ (fun _ _=>rfl),Z, ?_, ?_⟩, ?_⟩
  ·intro b off a;have x:MemPlace.cell b off∈c:=by rw [i];simpa using a
   rw [u.frozen (w _ x)];exact D b off x
  ·intro F;have:=E F;rw [i] at this;simpa using this
  ·intro p a _;rw [i];simpa using a
end
end Go.Jog
namespace Go.Jog
open Go
def vW (P:Program)(t:Nat):Bool:=match P.underlying t with
 | some (.array _ e)=>(match P.underlying e with | some d=>pN d | none=>false) && Nat.beq (P.cellsOf e) 1 && !(P.eqGuardType P.depth t) && (P.info? e).isSome
 | _=>false
def LG (P:Program)(t:Nat)(xs:List Value):Bool:=match P.underlying t with
 | some (.array m e)=>Nat.beq xs.length m && xs.all (fun x=>qA (P.underlying e) x)
 | _=>false
theorem gT {P:Program}{e:TypeId}{d:TypeDesc}(m:Nat)(w:World)(c:P.underlying e=some d)(f:pN d=true):∀ {xs ys X Y:List Value}{i:Nat}{b:Bool},xs.all (fun x=>qA (P.underlying e) x)=true->jn xs ys=some b->X.drop i=xs->Y.drop i=ys ->
  (Op.eqItems (m+1) e 1 ⟨X⟩ ⟨Y⟩ (List.range' i xs.length)).run P w=.ok b w
 | [],ys,X,Y,i,b,_,a,_,_=>by
  cases ys with
  | nil=>simp [jn] at a;subst a;simp [Op.eqItems]
  | cons=>simp [jn] at a
 | x::xs,ys,X,Y,i,b,g,a,h,j=>by
  cases ys with
  | nil=>simp [jn] at a
  | cons y ys =>
   simp only [List.all_cons,L3] at g;simp only [jn] at a;split at a
   ·rename_i p q k l;cases a
    have n:X[i]?=some x:=by
     have:=congrArg (·[0]?) h;simpa using this
    have hy:Y[i]?=some y:=by
     have:=congrArg (·[0]?) j;simpa using this
    have o:X.drop (i+1)=xs:=by
     have:=congrArg (List.drop 1) h;simpa using this
    have r:Y.drop (i+1)=ys:=by
     have:=congrArg (List.drop 1) j;simpa using this
    have hr:=xy k m w g.1;have s:=gT m w c f g.2 l o r;simp only [Ml,O3,Op.eqItems,NM,Sem.run_bind,ii c f n w,ii c f hy w,hr,Result.andThen_ok];cases p
    ·simp
    ·simpa using s
   ·cases a
theorem zo {P:Program}{t:Nat}(a:vW P t=true){xs ys:List Value}(c:LG P t xs=true){b:Bool}(i:jn xs ys=some b)(w:World):(Op.equalIn 10000 t (.agg ⟨xs⟩) (.agg ⟨ys⟩)).run P w=.ok b w:=by
 unfold vW at a;unfold LG at c;cases f:P.underlying t with
 | none=>rw [f] at a;cases a
 | some D =>
  rw [f] at a c;cases D <;> try (cases a)
  rename_i n e;simp only [L3] at a c;obtain ⟨⟨⟨h1,h2⟩,h3⟩,h4⟩:=a;have j:=Mj h2;have k:=Mj c.1;cases h:P.info? e with
  | none=>rw [h] at h4;cases h4
  | some inf =>
   cases g:P.underlying e with
   | none=>rw [g] at h1;cases h1
   | some d =>
    rw [g] at h1;rw [run_equalIn_array w 9999 ⟨xs⟩ ⟨ys⟩ f h,j,<- k,OL];exact gT 9998 w g h1 c.2 i Z Z
end Go.Jog
namespace Go.Jog
open Go
inductive OT where
 | fin (π:List Nat)
 | cut (π:List Nat) (t:OT)
 | alt (i:Nat) (t:OT) (r:OT)
 | stop
section
variable {P:Program} {ops:Array Oper} {ι:Type} {cls:ι->World->Prop} {le:ι->ι->Prop} {md:Region.Mode}
def DT (P:Program)(ops:Array Oper)(cls:ι->World->Prop)(le:ι->ι->Prop)(kd:Nat->Nat)(Post:Act->ι->Prop):OT->Act->ι->Prop
 | .fin π=>DU P ops cls le kd Post π
 | .cut π t=>DU P ops cls le kd (DT P ops cls le kd Post t) π
 | .alt i t r=>fun a κ=>fo P ops cls le (kd i) i (DT P ops cls le kd Post t) a κ/\DT P ops cls le kd Post r a κ
 | .stop=>fun _ _=>True
def ix:OT->List Nat
 | .alt i _ r=>i::ix r
 | _=>[]
def IG:OT->Bool
 | .fin _ | .cut _ _=>true
 | _=>false
def gt:List Nat->Array Bool->Array Bool
 | [],listed=>listed
 | i::π,listed=>gt π (listed.setIfInBounds i true)
def JW (md:Region.Mode)(ops:Array Oper)(kd:Nat->Nat):List Nat->Array Bool->Bool
 | [],_=>true
 | i::π,listed=>(bif Nat.ble (kd i) 1 then (Region.ready md ops listed).contains i && Gk md ops kd listed i else (Region.ready md ops listed == [i])) && JW md ops kd π (listed.setIfInBounds i true)
def Fb (md:Region.Mode)(ops:Array Oper)(kd:Nat->Nat):OT->Nat->Array Bool->Bool
 | .fin π,f,listed=>Nat.beq π.length f && (JW md ops kd π listed && (Region.ready md ops (gt π listed)).isEmpty)
 | .cut π t,f,listed=>Nat.blt π.length f && (JW md ops kd π listed && ((Region.ready md ops (gt π listed)).all (fun i=>(ix t).contains i) && (!(Region.ready md ops (gt π listed)).isEmpty && Fb md ops kd t (f-π.length) (gt π listed))))
 | .alt i t r,f,listed=>(Nat.blt 0 f && (IG t && Fb md ops kd t (f-1) (listed.setIfInBounds i true))) && Fb md ops kd r f listed
 | .stop,_,_=>true
theorem eH (r:∀ a b c,le a b->le b c->le a c){k:Nat->Nat}{u K:Act->ι->Prop}(s:Region.noSelect ops=true){f:Nat} :
  ∀ (d:List Nat)(e:Array Bool)(a:Act)(κ:ι),Closed md ops e->JW md ops k d e=true->(∀ a κ,Closed md ops (gt d e)->K a κ->jR P md ops cls le k u f (gt d e) a κ) ->
   DU P ops cls le k K d a κ->jR P md ops cls le k u (d.length+f) e a κ
 | [],e,a,κ,l,_,n,h=>by
  rw [MM,M6];exact n a κ l h
 | i::d,e,a,κ,l,w,n,h=>by
  simp only [JW,L3] at w;obtain ⟨g,x⟩:=w;rw [Ml,Nat.add_right_comm];by_cases p:k i<=1
  ·have t:Nat.ble (k i) 1=true:=by rw [Nn];exact p
   rw [t] at g;simp only [Ns,L3,OF] at g;obtain ⟨hr,y⟩:=g;simp only [DU] at h;unfold fo at h;cases q:ops[i]? with
   | none=>simp only [q] at h
   | some o =>
    simp only [q,p,Ny] at h;obtain ⟨v,hy,A⟩:=h;refine lB (F:=ops.size) r q p (fun j o cs b=>Region.noSelect_spec s j o cs b) (d.length+f) e a κ l (fun j I m B C=>?_) hr hy
     (eH r s d _ _ κ (l.set hr) x n A)
    simp only [Gk,q,Mg,Me] at y;have:=y j (NR.1 m).1;simp only [m,Nl,Nh,B,false_or,C,MC,L3,Nn] at this;rcases this with h1 | h1
    ·exact .inr h1
    ·exact .inl h1
  ·have t:Nat.ble (k i) 1=false:=by
    cases z:Nat.ble (k i) 1 with
    | false=>rfl
    | true=>exact absurd (by rw [Nn] at z;exact z) p
   rw [t] at g;simp only [cond_false,Nh] at g;have D:i∈Region.ready md ops e:=by rw [g];simp
   refine ⟨fun h0=>(by rw [h0] at g;cases g),fun j m=>?_⟩;rw [g] at m;obtain rfl:j=i:=by simpa using m
   exact fM (fun E G H=>eH r s d _ E G (l.set D) x n H) h
theorem ft (p:∀ a b c,le a b->le b c->le a c){q:Nat->Nat}{z:Act->ι->Prop}(s:Region.noSelect ops=true) :
  ∀ (t:OT)(f:Nat)(d:Array Bool)(a:Act)(κ:ι),Closed md ops d->Fb md ops q t f d=true->DT P ops cls le q z t a κ ->
   (match t with
    | .fin _ | .cut _ _=>jR P md ops cls le q z f d a κ
    | _=>∀ i∈ix t,i∈Region.ready md ops d->(∃ n,f=n+1/\fo P ops cls le (q i) i (jR P md ops cls le q z n (d.setIfInBounds i true)) a κ))
 | .fin g,f,d,a,κ,o,k,h=>by
  simp only [Fb,L3,NW] at k;obtain ⟨A,u,v⟩:=k;have:=Mj A;have h2:=eH (f:=0) p s g d a κ o u (fun a κ _ B=>⟨v,B⟩) h;rw [NF,this] at h2;exact h2
 | .cut g t,f,d,a,κ,o,k,h=>by
  simp only [Fb,L3,Mg] at k;obtain ⟨A,u,v,C,G⟩:=k;rw [Ox] at A;have H:Region.ready md ops (gt g d)≠[]:=fun e=>by rw [e] at C;cases C
  have h2:=eH (f:=f-g.length) p s g d a κ o u (fun a κ I B=>by
   have l:=ft p s t (f-g.length) (gt g d) a κ I G B;obtain ⟨n,J⟩:∃ n,f-g.length=n+1:=⟨f-g.length-1,by omega⟩;rw [J] at l ⊢;refine ⟨fun h0=>absurd h0 H,fun i m=>?_⟩;have w:=v i m;rw [OF] at w;cases t with
   | fin x=>simp [ix] at w
   | cut x y=>simp [ix] at w
   | stop=>simp [ix] at w
   | alt j y D =>
    obtain ⟨K,R,hs⟩:=l i w m;obtain rfl:n=K:=by omega
    exact hs) h
  rw [show g.length+(f-g.length)=f by omega] at h2;exact h2
 | .alt j t r,f,d,a,κ,o,k,h=>by
  simp only [Fb,L3] at k;obtain ⟨⟨L,E,u⟩,v⟩:=k;rw [Ox] at L;intro i m hr;simp only [ix,Ma] at m;by_cases F:i=j
  ·subst F;refine ⟨f-1,by omega,fM (fun M N O=>?_) h.1⟩;have l:=ft p s t (f-1) _ M N (o.set hr) u O;cases t with
   | fin x=>exact l
   | cut x y=>exact l
   | stop=>cases E
   | alt Q y D=>cases E
  ·have h2:=m.resolve_left F;have l:=ft p s r f d a κ o v h.2;cases r with
   | fin x=>simp [ix] at h2
   | cut x y=>simp [ix] at h2
   | stop=>simp [ix] at h2
   | alt Q y D=>exact l i h2 hr
 | .stop,_,_,_,_,_,_,_=>by
  intro i m;simp [ix] at m
theorem oX (W:Cw P)(n:W.nd ops)(d:∀ κ,le κ κ)(o:∀ a b c,le a b->le b c->le a c){e:Nat->Nat}{f:Act->ι->Prop}{p:Nat}{Q:Exit->Act->World->Prop}{a:Act}{w:World}{κ:ι}
  (q:P.follows .mixedOrders=true) (g:cls κ { w with drawn:=w.drawn+1 }) (t:OT) (k:IG t=true)
  (l:(Region.noSelect ops && Fb .any ops e t ops.size (Array.replicate ops.size false))=true) (h:DT P ops cls le e f t a κ)
  (m:∀ a κ w,f a κ->cls κ w->Q .normal a w):W.wp (Code.region p ops true) Q a w:=by
 simp only [L3] at l;obtain ⟨hs,s⟩:=l;refine W.any q n ?_;have h0:Closed .any ops (Array.replicate ops.size false):=fun j x _ u=>by
  rcases Mw j ops.size with h | h <;> simp [h] at u
 have:=ft o hs t ops.size _ a κ h0 s h;cases t with
 | fin v=>exact iH d m _ _ _ _ _ g this
 | cut v t=>exact iH d m _ _ _ _ _ g this
 | stop=>cases k
 | alt i t r=>cases k
end
/-! ### In the logic -/
section
variable {cx:Cx} {n:Nat} {ds:List (Option Nat)} {fr:Fr} {C:Mem} {L:List Ent}
def RgT (P:Program)(R:Rg n ds)(t:OT):Rg n ds:=⟨R.b,R.ops,R.kd,DT P R.ops R.b.cls kle R.kd R.Post t,R.hy,R.dd⟩
def DN (cx:Cx)(R:Rg n ds)(l:List Oper)(ov:List (Nat × Nat)):OT->Fr->Mem->List Ent->Prop
 | .fin π=>D cx R (fS l ov π)
 | .cut π t=>D cx (RgT cx.P R t) (fS l ov π)
 | _=>fun _ _ _=>True
def DA (cx:Cx)(R:Rg n ds)(l:List Oper)(ov:List (Nat × Nat)):OT->Fr->Mem->List Ent->Prop
 | .alt i (.fin π) r=>fun fr C L=>D cx R (fS l ov (i::π)) fr C L/\DA cx R l ov r fr C L
 | .alt i (.cut π t) r=>fun fr C L=>D cx (RgT cx.P R t) (fS l ov (i::π)) fr C L/\DA cx R l ov r fr C L
 | .stop=>fun _ _ _=>True
 | _=>fun _ _ _=>False
def Gg (m:Nat):OT->Bool
 | .fin π=>π.all (fun i=>Nat.blt i m)
 | .cut π t=>π.all (fun i=>Nat.blt i m) && Gg m t
 | .alt i t r=>Nat.blt i m && (Gg m t && Gg m r)
 | .stop=>true
theorem sh {R:Rg n ds}{l:List Oper}{a:List (Nat × Nat)}(d:∀ i,i<l.length->R.kd i=ovr a i (fy (jl l i))/\R.ops[i]?=some (jl l i)){b:List Nat}(h:b.all (fun i=>Nat.blt i l.length)=true) :
  ∀ x∈fS l a b,R.kd x.1=x.2.1/\R.ops[x.1]?=some x.2.2:=fun x e=>by
 obtain ⟨h1,h2,h3⟩:=fR e;have c:=Mg.1 h x.1 h1;rw [Ox] at c;have:=d x.1 c;exact ⟨this.1.trans h2.symm,by rw [this.2,h3]⟩
theorem sU {R:Rg n ds}{l:List Oper}{g:List (Nat × Nat)}(d:∀ i,i<l.length->R.kd i=ovr g i (fy (jl l i))/\R.ops[i]?=some (jl l i))(e:R.b.C0.le C){a:Act}(f:FrOk n ds R.dd fr a) :
  ∀ (t:OT),Gg l.length t=true->DA cx R l g t fr C L->DT cx.P R.ops R.b.cls kle R.kd R.Post t a (C,L)
 | .alt i (.fin j) r,c,h=>by
  simp only [Gg,L3] at c;have h1:=h.1 e (sh d (by simp only [List.all_cons,L3];exact ⟨c.1,c.2.1⟩)) a f;rw [dt] at h1;exact ⟨h1,sU d e f r c.2.2 h.2⟩
 | .alt i (.cut j t) r,c,h=>by
  simp only [Gg,L3] at c;have h1:=h.1 e (sh (R:=RgT cx.P R t) d (by simp only [List.all_cons,L3];exact ⟨c.1,c.2.1.1⟩)) a f;rw [dt] at h1;exact ⟨h1,sU d e f r c.2.2 h.2⟩
 | .stop,_,_=>trivial
 | .fin _,_,h=>h.elim
 | .cut _ _,_,h=>h.elim
 | .alt _ (.alt _ _ _) _,_,h=>h.elim
 | .alt _ .stop _,_,h=>h.elim
theorem PF {R:Rg n ds}{l:List Oper}{a:List (Nat × Nat)}{t:OT}(b:∀ i,i<l.length->R.kd i=ovr a i (fy (jl l i))/\R.ops[i]?=some (jl l i))(c:Gg l.length t=true)(h:DA cx R l a t fr C L):D cx (RgT cx.P R t) [] fr C L :=
 fun h0 _ _ d=>sU b h0 d t c h
end
section
variable {F:Fx} {k:List KI} {fr:Fr} {C:Mem} {L:List Ent}
theorem PV {z:Nat}{l:List Oper}(t:OT)(f:List (Nat × Nat))(c:fr.all (fun x=>x.2.1.isEmpty)=true)(o:IG t=true)
  (j:((Region.noSelect l.toArray && Fb .any l.toArray (fun i=>ovr f i (fy (jl l i))) t l.toArray.size (Array.replicate l.toArray.size false)) && Gg l.length t)=true)
  (h:∀ R:Rg F.n (l.map (·.dst)),C.le R.b.C0->(∀ fr C L,fr.all (fun x=>x.2.1.isEmpty)=true->G F (gU 64 k) .normal fr C L->D F.cx R [] fr C L) ->
   (∀ i,i<l.length->R.kd i=ovr f i (fy (jl l i))/\R.ops[i]?=some (jl l i))->DN F.cx R l f t fr C L) (A:F.W.nd l.toArray:=by first | exact trivial | exact rfl) :
  G F (.code (.region z l.toArray true)::k) .normal fr C L:=fun h0 a w d e=>by
 simp only [Kq];rw [L3] at j
 let kd:=fun i=>ovr f i (fy (jl l i))
 let b:Bs:=⟨F.b.w0,C,F.b.L0⟩
 let Post:Act->Mem × List Ent->Prop:=fun a κ=>∀ w,b.cls κ w->Kq F k .normal a w
 let R:Rg F.n (l.map (·.dst)):=⟨b,l.toArray,kd,Post,fun tmps=>dE l tmps,F.dd⟩
 have B:∀ κ w,b.cls κ w->F.b.cls κ w:=fun κ w E=>St.unbase h0 e.cn E;have q:∀ i,i<l.length->R.kd i=ovr f i (fy (jl l i))/\R.ops[i]?=some (jl l i):=fun i m=>⟨rfl,by
  show (l.toArray)[i]?=_;rw [MQ,eV m]⟩
 have u:=h R (Mem.le.refl _) (fun fr C' L c H I _ a d w e=>PL 64 H (h0.trans I) a w ⟨d.size,d.defers,fun s g v y=>by
  have hm:=Mg.1 c _ (Fr.get_mem y);simp only [NW] at hm;subst hm;exact ⟨fun _=>(d.ent s [] v y).1 (fun p c=>by cases c),fun J=>absurd (fun p c=>by cases c) J⟩⟩ (B _ _ e)) q
 have hT:DT F.cx.P l.toArray b.cls kle kd Post t a (C,L):=by
  cases t with
  | fin K =>
   have h1:=u (Mem.le.refl _) (sh q j.2) a (d.enter _ c);rw [dt] at h1;exact h1
  | cut K t =>
   have m:=j.2;simp only [Gg,L3] at m;have h1:=u (Mem.le.refl _) (sh (R:=RgT F.cx.P R t) q m.1) a (d.enter _ c);rw [dt] at h1;exact h1
  | stop=>cases o
  | alt i t r=>cases o
 exact oX F.W A (cls:=b.cls) (le:=kle) kle.refl kle.trans F.cx.mixed (St.rebase (St.drew e)) t o j.1 hT (fun a κ w M e=>M w e)
end
end Go.Jog
namespace Go.Jog
open Go Go.MapKept
section
variable {κ β:Type} [DecidableEq κ]
def cV:List (κ × β)->κ->Option β
 | [],_=>none
 | (k',v)::m,k=>if k'=k then some v else cV m k
def fp:List (κ × β)->κ->β->List (κ × β)
 | [],k,v=>[(k,v)]
 | (k',v')::m,k,v=>if k'=k then (k,v)::m else (k',v')::fp m k v
theorem jt:∀ {m:List (κ × β)}{k:κ}{v:β},cV (fp m k v) k=some v
 | [],k,v=>by simp [fp,cV]
 | (a,b)::m,k,v=>by
  simp only [fp];split
  ·simp [cV]
  ·rename_i h;simp only [cV,aC h];exact jt
theorem ir:∀ {m:List (κ × β)}{k a:κ}{v:β},k≠a->cV (fp m k v) a=cV m a
 | [],k,a,v,h=>by simp [fp,cV,h]
 | (b,c)::m,k,a,v,h=>by
  simp only [fp];split
  ·rename_i e;subst e;simp [cV,h]
  ·simp only [cV,ir h]
theorem yc {a:Type}(f:β->a):∀ (m:List (κ × β))(k:κ),cV (m.map fun p=>(p.1,f p.2)) k=(cV m k).map f
 | [],_=>rfl
 | (b,v)::m,k=>by
  simp only [Mp,cV];split
  ·rfl
  ·exact yc f m k
def js:List (κ × β)->κ->Option (Nat × β)
 | [],_=>none
 | (k',v)::m,k=>if k'=k then some (0,v) else (js m k).map fun p=>(p.1+1,p.2)
theorem nV:∀ (m:List (κ × β))(k:κ),(js m k).map (·.2)=cV m k
 | [],_=>rfl
 | (a,v)::m,k=>by
  simp only [js,cV];split
  ·rfl
  ·rw [<- nV m k];cases js m k <;> rfl
end
structure KeyT (d:TypeDesc)(κ:Type)[DecidableEq κ] where
 enc:κ->Value
 isKey:∀ a,IsKey d (enc a)
 same:∀ a b,Instr.sameNow d (enc a) (enc b)=some (decide (a=b))
def bq {κ:Type}(enc:κ->Value):List (κ × Value)->Nat->List MapEntry
 | [],_=>[]
 | (k,v)::m,i=>⟨enc k,v,i⟩::bq enc m (i+1)
def aM {κ:Type}(enc:κ->Value)(m:List (κ × Value)):Obj:=.map ⟨bq enc m 0⟩ m.length
section
variable {d:TypeDesc} {κ:Type} [DecidableEq κ] (K:KeyT d κ)
theorem gC (k:κ):∀ (m:List (κ × Value))(i j:Nat),Instr.findNow d (K.enc k) (bq K.enc m i) j=some ((js m k).map fun p=>(j+p.1,p.2))
 | [],i,j=>rfl
 | (a,v)::m,i,j=>by
  simp only [bq,Instr.findNow,K.same];by_cases h:k=a
  ·subst h;simp [js]
  ·have b:¬ a=k:=fun e=>h e.symm;simp only [h,decide_false,gC k m (i+1) (j+1),js,aC b];cases js m k with
   | none=>rfl
   | some p=>simp;omega
theorem lK {a:Type}(b:a->Value):∀ (m:List (a × Value))(i:Nat),(bq b m i).length=m.length
 | [],_=>rfl
 | _::m,i=>by simp [bq,lK b m]
theorem qg {k:κ}{v:Value}:∀ {m:List (κ × Value)}{i:Nat},js m k=none->bq K.enc m i++[⟨K.enc k,v,i+m.length⟩]=bq K.enc (fp m k v) i/\(fp m k v).length=m.length+1
 | [],i,_=>⟨rfl,rfl⟩
 | (d,e)::m,i,h=>by
  simp only [js] at h;split at h
  ·cases h
  ·rename_i a;have b:js m k=none:=by
    cases c:js m k with
    | none=>rfl
    | some p=>rw [c] at h;cases h
   obtain ⟨h1,h2⟩:=qg (i:=i+1) (v:=v) b;simp only [fp,aC a,bq,ND,Ml,h2];refine ⟨?_,trivial⟩;rw [<- h1];congr 3;congr 1;omega
theorem qe {k:κ}{v:Value}:∀ {m:List (κ × Value)}{i q:Nat}{u:Value},js m k=some (q,u)->(bq K.enc m i).modify q (fun e=>{ e with key:=K.enc k,val:=v })=bq K.enc (fp m k v) i/\(fp m k v).length=m.length/\((bq K.enc m i)[q]?).map (·.key)=some (K.enc k)
 | [],_,_,_,h=>by cases h
 | (c,d)::m,i,q,u,h=>by
  simp only [js] at h;split at h
  ·rename_i e;subst e;cases h
   simp [bq,fp]
  ·rename_i b;cases a:js m k with
   | none=>rw [a] at h;cases h
   | some p =>
    obtain ⟨f,g⟩:=p;rw [a] at h;cases h
    obtain ⟨h1,h2,h3⟩:=qe (i:=i+1) (v:=v) a;simp only [fp,aC b,bq,Ml,h2,List.modify_succ_cons,h1];exact ⟨trivial,trivial,by simpa using h3⟩
end
theorem gb {T:Tab}{P:Program}(f:nf P T=true){t k e:Nat}{a:TI}(h:T.get t=some a)(c:a.k=.map k e):P.underlying t=some (.map k e):=by
 obtain ⟨i,s,b,z,g⟩:=a;simp only at c;subst c;obtain ⟨d,h1,h2⟩:=Hz f h;cases d <;> simp [tkB] at h2
 rw [h1,h2.1,h2.2]
section
variable {cx:Cx} {n:Nat} {ds:List (Option Nat)} {R:Rg n ds} {its:List It} {fr:Fr} {C:Mem} {L:List Ent} {i k d:Nat} {o:Oper} {g:GL} {v:Value}
variable {kd:TypeDesc} {κ:Type} [DecidableEq κ] (K:KeyT kd κ)
theorem D.makeMap {t:Nat}(c:Nat.ble k 1=false)(e:o.dst=some d)(g:gOn ds fr o.guard=true)(j:o.op=.makeMap t none)(l:∀ v,aO n ds ((d,[],v)::fr) d=true)
  (h:∀ b,D cx R its ((d,[],.map (some b))::fr) C (.obj b (aM K.enc [])::L)):D cx R ((i,k,o)::its) fr C L :=
 Qp (f:=fun b=>.map (some b)) (ob:=aM K.enc []) c e g l (fun a _ w=>by
  have m:execOp a.eval o=(do Pure.pure (.value (<- Instr.makeMap t none)):Sem Next):=by unfold execOp;rw [j];rfl
  rw [m];rfl) h
def jE (z:Value)(ok:Bool):Option Value->Value
 | some u=>bif ok then .tuple #[u,.bool true] else u
 | none=>bif ok then .tuple #[z,.bool false] else z
theorem zl {P:Program}{T:Tab}(c:nf P T=true){t d e:Nat}{f g:TI}{a:Bool}(i:T.get t=some f)(j:f.k=.map d e)(h:P.underlying d=some kd)(l:T.get e=some g){w:World}{b:Nat}{m:List (κ × Value)}(n:w.heap[b]?=some (aM K.enc m))(y:κ) :
  (Instr.lookup t (.map (some b)) (K.enc y) a).run P w=.ok (jE g.zv a (cV m y)) w:=by
 have o:=gb c i j;have q:=gC K y m 0 0;have h1:(getObj b).run P w=.ok (.map ⟨bq K.enc m 0⟩ m.length) w:=Go.MapKept.run_getObj_map n;have h2:=run_findKey (P:=P) (w:=w) h q;rw [<- nV];unfold Instr.lookup;simp only [Sem.run_bind,run_underlying o,Result.andThen_ok,h1,Sem.run_pure,run_checkKey h (K.isKey y)];rw [h2];cases js m y with
 | none=>cases a <;> simp [jE,ri c l w]
 | some p=>cases a <;> simp [jE]
theorem Qk {b t j l:Nat}{x y:Operand}{c:Bool}{m:List (κ × Value)}{f:κ}{p q:TI}(s:Ent.obj b (aM K.enc m)∈L)(r:k=1)(u:o.dst=some d)(z:o.op=.lookup t x y c)(A:gOf ds fr o.guard=some g)(B:ev fr g x=some (.map (some b)))(E:ev fr g y=some (K.enc f))
  (F:cx.T.get t=some p) (G:p.k=.map j l) (H:cx.P.underlying j=some kd) (I:cx.T.get l=some q) (J:jE q.zv c (cV m f)=v) (M:aO n ds ((d,g,v)::fr) d=true) (N:wfG ds fr g=true)
  (h:D cx R its ((d,g,v)::fr) C L):D cx R ((i,k,o)::its) fr C L :=
 PO (by subst r;rfl) u A M N (fun _ a hs W O w Q=>by
  have S:w.heap[b]?=some (aM K.enc m):=Q.sep.e _ ((O r).2 _ s);have U:(execOp a.eval o).run cx.P w=.ok (.value v) w:=by
   have V:execOp a.eval o=(do Pure.pure (.value (<- Instr.lookup t (a.eval x) (a.eval y) c)):Sem Next):=by unfold execOp;rw [z]
   rw [V,hs _ _ B,hs _ _ E,<- J];simp only [Sem.run_bind,zl K cx.hT F G H I S f,Result.andThen_ok,Sem.run_pure]
  unfold Oper.quietAt;rw [U];exact ⟨Z,Z⟩) h
theorem D.mapUpdate {t l E j b:Nat}{x y z:Operand}{m:List (κ × Value)}{c:κ}{n:TI}(F:k=3)(G:gOn ds fr o.guard=true)(H:o.dst=none)(I:o.op=.mapUpdate t x y z)
  (J:ev fr [] x=some (.map (some b))) (M:ev fr [] y=some (K.enc c)) (N:ev fr [] z=some v) (O:L[j]?=some (.obj b (aM K.enc m)))
  (Q:cx.T.get t=some n) (U:n.k=.map l E) (r:cx.P.underlying l=some kd)
  (h:D cx R its fr C (.obj b (aM K.enc (fp m c v))::L.eraseIdx j)):D cx R ((i,k,o)::its) fr C L :=
 Qq (S:=fun C' L'=>C'=C/\L'=.obj b (aM K.enc (fp m c v))::L.eraseIdx j) (by subst F;rfl) G (fun a hs w _ V=>by
  have s:=St.perm V (ae O);have f:w.heap[b]?=some (aM K.enc m):=s.sep.e _ (aF ..);have W:=gb cx.hT Q U;have X:=gC K c m 0 0;have h1:(getObj b).run cx.P w=.ok (.map ⟨bq K.enc m 0⟩ m.length) w:=Go.MapKept.run_getObj_map f;have h2:=run_findKey (P:=cx.P) (w:=w) r X;have Y:(Instr.mapUpdate t (.map (some b)) (K.enc c) v).run cx.P w=.ok () { w with heap:=w.heap.setIfInBounds b (aM K.enc (fp m c v)) }:=by
   unfold Instr.mapUpdate;simp only [Sem.run_bind,run_underlying W,Result.andThen_ok,h1,run_checkKey r (K.isKey c)];rw [h2];cases A:js m c with
   | none =>
    obtain ⟨h3,h4⟩:=qg K (v:=v) (i:=0) A;simp only [Option.map_none,Result.andThen_ok];rw [Go.MapKept.run_setObj_map (P:=cx.P) _ f];congr 2;simp only [aM,h4,<- h3,M6];congr 2;apply Ni;simp
   | some p =>
    obtain ⟨q,u⟩:=p;obtain ⟨h3,h4,h5⟩:=qe K (v:=v) (i:=0) A;have hq:(((⟨bq K.enc m 0⟩:Array MapEntry)[0+q]?).map (·.key)).getD (K.enc c)=K.enc c:=by
     rw [M6];show (((bq K.enc m 0).toArray[q]?).map (·.key)).getD (K.enc c)=K.enc c;rw [MQ,h5];rfl
    simp only [Nt,Result.andThen_ok,Sem.run_bind];rw [hq,run_keyThatStays (d:=kd) (K.isKey c)];simp only [Result.andThen_ok];rw [Go.MapKept.run_setObj_map (P:=cx.P) _ f];congr 2;simp only [aM,h4,<- h3,M6];congr 2;apply Ni;simp
  have aa:(execOp a.eval o).run cx.P w=.ok .skip { w with heap:=w.heap.setIfInBounds b (aM K.enc (fp m c v)) }:=by
   have g:execOp a.eval o=(do Instr.mapUpdate t (a.eval x) (a.eval y) (a.eval z);Pure.pure .skip:Sem Next):=by unfold execOp;rw [I]
   rw [g,hs _ _ J,hs _ _ M,hs _ _ N];simp only [Sem.run_bind,Y,Result.andThen_ok,Sem.run_pure]
  unfold Oper.wp;rw [aa];have B:=heap_set (o':=aM K.enc (fp m c v)) f;refine ⟨C,.obj b (aM K.enc (fp m c v))::L.eraseIdx j, ?_,Mem.le.refl _,fun h2=>by omega,St.put s B.1 B.2 (by simp) Z Z Z (LP _),Z,Z⟩;rw [H];rfl)
  (fun C' L' _ ⟨g,e2⟩=>by subst g;subst e2;exact h)
end
theorem BF (a b:List UInt8):((⟨a.toArray⟩:ByteArray) == ⟨b.toArray⟩)=decide (a=b):=by
 by_cases h:a=b
 ·subst h;simp [(bytes_beq _ _).2 rfl]
 ·have:¬ ((⟨a.toArray⟩:ByteArray) == ⟨b.toArray⟩)=true:=fun e=>h (by
   have:=(bytes_beq _ _).1 e;have h2:=congrArg (fun x:ByteArray=>x.data.toList) this;simpa using h2)
  simp [h,Bool.eq_false_iff.2 this]
def keyS:KeyT .string (List UInt8) where
 enc s:=.string ⟨s.toArray⟩
 isKey _:=trivial
 same a b:=by simp only [Instr.sameNow,BF]
end Go.Jog
namespace Go.Jog
open Go
variable {C C0:Mem}{L L0:List Ent}{b:Nat}{ob:Obj}{w w0:World}
def Mem.unset (C:Mem)(b:Nat):Mem:=fun k=>if k=b then none else C k
theorem Mem.unset_le (C:Mem)(b:Nat):(C.unset b).le C:=fun k o h=>by
 unfold Mem.unset at h;split at h
 ·cases h
 ·exact h
theorem Mem.le_unset {D:Mem}(h:C.le D)(c:C b=none):C.le (D.unset b):=fun k o a=>by
 unfold Mem.unset;split
 ·rename_i e;subst e;rw [c] at a;cases a
 ·exact h k o a
theorem St.aside (h:St w0 C0 L0 C (.obj b ob::L) w):St w (C.set b ob) L (C.set b ob) L w :=
 (St.freeze h).2 |> fun s=>St.start s.sep
theorem St.back {f:Mem}{g:List Ent}{i:World}(h:St w0 C0 L0 C (.obj b ob::L) w)(k:St w (C.set b ob) L f g i):St w0 C0 L0 (f.unset b) (.obj b ob::g) i:=by
 have j:C b=none:=h.sep.n b ⟨_,aF ..,rfl⟩;have l:C.le f:=(Mem.le_set j).trans k.c0;have m:St w C L (f.unset b) g i:=⟨⟨fun q o a=>k.sep.c q o (Mem.unset_le _ _ q o a),k.sep.e,k.sep.d,fun q a=>by
   have:=k.sep.n q a;unfold Mem.unset;split
   ·rfl
   ·exact this⟩,k.ev,Mem.le_unset l j,fun q o a=>by
   have p:q≠b:=fun e=>by subst e;simp [Mem.unset] at a
   rcases k.cn q o (Mem.unset_le _ _ q o a) with h1 | h1
   ·unfold Mem.set at h1;rw [aC p] at h1;exact .inl h1
   ·exact .inr h1,k.ln⟩
 have h2:St w0 C0 L0 C (L++[.obj b ob]) w:=St.perm h (Mm (l₁:=[Ent.obj b ob]) (l₂:=L));exact St.perm (St.call h2 m) (Mm (l₁:=g) (l₂:=[Ent.obj b ob]))
end Go.Jog
namespace Go.Jog
structure Arc3 where
 i:Nat
 lo:Nat
 up:Nat
 deriving DecidableEq,Inhabited
def G4:Nat->List Arc3->Nat->Prop
 | u,[],v=>u=v
 | u,a::p,v=>a.lo=u/\G4 a.up p v
def In (A p:List Arc3):Prop:=∀ a∈p,a∈A
def LM (A:List Arc3)(k u v:Nat):Prop:=∃ p,In A p/\p.length=k/\G4 u p v
end Go.Jog
namespace Go.Jog
def dAt (d:List Int)(u:Nat):Int:=d.getD u (-1)
/-! ### Relaxing -/
def fin (d:List Int):Nat:=d.countP (fun x=>decide (0<=x))
structure KO (A:List Arc3)(to n:Nat)(d:List Int):Prop where
 len:d.length=n
 neg:∀ u,u<n->-1<=dAt d u
 small:∀ u,u<n->dAt d u<fin d
 walk:∀ u,u<n->0<=dAt d u->LM A (dAt d u).toNat u to
 zero:dAt d to=0
/-! ### The first smallest cycle -/
def nums (p:List Arc3):List Nat:=p.map (·.i)
def KX (x y:List Nat):Prop:=∃ c b b' s s',x=c++b::s/\y=c++b'::s'/\b<b'
def above (A:List Arc3)(i:Nat):List Arc3:=A.filter fun a=>decide (i<a.i)
structure Greedy (A:List Arc3)(from_ to m:Nat)(p:List Arc3)(at_:Nat):Prop where
 inA:In A p
 chain:G4 from_ p at_
 ahead:∀ r,In A r->G4 from_ r to->r.length=m->(∃ s,r=p++s)∨KX (nums p) (nums r)
end Go.Jog
namespace Go.Jog
def Ord (A:List Arc3)(o:List Nat):Prop:=∀ pre u post,o=pre++u::post->∀ a∈A,a.up=u->a.lo∈pre
def Topo (A:List Arc3)(n:Nat)(o:List Nat):Prop:=o.length=n/\o.Nodup/\(∀ u∈o,u<n)/\Ord A o
/-! ### Taking the Dv free place, again and again -/
def cnt (A:List Arc3)(dn:List Nat)(u:Nat):Nat:=A.countP fun a=>decide (a.up=u) && !(dn.contains a.lo)
structure Kahn (A:List Arc3)(n:Nat)(dn av:List Nat):Prop where
 nodup:dn.Nodup
 below:∀ u∈dn,u<n
 ord:Ord A dn
 avnd:av.Nodup
 av:∀ u,u∈av ↔ u<n/\u ∉ dn/\cnt A dn u=0
 Dv:∀ o,Topo A n o->(∃ s,o=dn++s)∨KX dn o
end Go.Jog
namespace Go.Jog
def addW (o:Nat)(self:Bool)(x:Nat):Nat:=max (if self=true then max x 1 else x) (if 0<o then min 8 (o+1) else 0)
def rowT (f:Nat->Nat->Nat)(c v:Nat):List Arc3->Nat->Nat
 | [],x=>x
 | a::l,x=>rowT f c v l (if a.up=v then addW (f c a.lo) (decide (c=a.lo)) x else x)
def tab (A:List Arc3):Nat->Nat->Nat->Nat
 | 0,_,_=>0
 | k+1,c,v=>rowT (tab A k) c v A (tab A k c v)
end Go.Jog
namespace Go.Proofs.YthnpijdjlddpmaaGreatDoor
open Go Go.Jog
def tab:Tab:=[(2,⟨.int .i64,1,8,[.int .i64],false⟩),
 (3,⟨.int .i64,1,8,[.int .i64],false⟩),
 (4,⟨.bool,1,1,[.bool],false⟩),
 (5,⟨.int .u8,1,1,[.int .u8],false⟩),
 (9,⟨.str,1,16,[.str],false⟩),
 (12,⟨.int .u64,1,8,[.int .u64],false⟩),
 (21,⟨.int .i32,1,4,[.int .i32],false⟩),
 (22,⟨.int .i8,1,1,[.int .i8],false⟩),
 (23,⟨.arr 2 22,2,2,[.int .i8,.int .i8],true⟩),
 (25,⟨.struct [(5,0),(23,1),(4,3)],4,4,[.int .u8,.int .i8,.int .i8,.bool],true⟩),
 (26,⟨.arr 6 22,6,6,[.int .i8,.int .i8,.int .i8,.int .i8,.int .i8,.int .i8],true⟩),
 (28,⟨.struct [(26,0),(4,6)],7,7,[.int .i8,.int .i8,.int .i8,.int .i8,.int .i8,.int .i8,.bool],true⟩),
 (29,⟨.slice 140,1,24,[.slice],false⟩),
 (31,⟨.struct [(25,0),(28,4),(29,11)],12,40,[.int .u8,.int .i8,.int .i8,.bool,.int .i8,.int .i8,.int .i8,.int .i8,.int .i8,.int .i8,.bool,.slice],true⟩),
 (33,⟨.slice 58,1,24,[.slice],false⟩),
 (34,⟨.slice 108,1,24,[.slice],false⟩),
 (36,⟨.struct [(33,0),(34,1)],2,48,[.slice,.slice],true⟩),
 (37,⟨.slice 56,1,24,[.slice],false⟩),
 (38,⟨.slice 56,1,24,[.slice],false⟩),
 (39,⟨.slice 111,1,24,[.slice],false⟩),
 (40,⟨.slice 62,1,24,[.slice],false⟩),
 (42,⟨.struct [(36,0),(38,2),(39,3),(40,4)],5,120,[.slice,.slice,.slice,.slice,.slice],true⟩),
 (45,⟨.slice 50,1,24,[.slice],false⟩),
 (46,⟨.int .i64,1,8,[.int .i64],false⟩),
 (50,⟨.slice 3,1,24,[.slice],false⟩),
 (56,⟨.str,1,16,[.str],false⟩),
 (58,⟨.struct [(56,0),(56,1)],2,32,[.str,.str],true⟩),
 (60,⟨.struct [(56,0),(56,1),(56,2)],3,48,[.str,.str,.str],true⟩),
 (62,⟨.struct [(3,0),(9,1),(58,2),(56,4),(9,5),(9,6),(60,7)],10,152,[.int .i64,.str,.str,.str,.str,.str,.str,.str,.str,.str],true⟩),
 (63,⟨.slice 5,1,24,[.slice],false⟩),
 (75,⟨.struct [(37,0)],1,24,[.slice],true⟩),
 (78,⟨.slice 123,1,24,[.slice],false⟩),
 (80,⟨.struct [(3,0),(78,1),(37,2)],3,56,[.int .i64,.slice,.slice],true⟩),
 (89,⟨.struct [(5,0),(5,1),(56,2)],3,24,[.int .u8,.int .u8,.str],true⟩),
 (96,⟨.ptr 153,1,8,[.ptr],false⟩),
 (99,⟨.int .u64,1,8,[.int .u64],false⟩),
 (100,⟨.slice 99,1,24,[.slice],false⟩),
 (107,⟨.arr 3 3,3,24,[.int .i64,.int .i64,.int .i64],true⟩),
 (108,⟨.arr 3 3,3,24,[.int .i64,.int .i64,.int .i64],true⟩),
 (111,⟨.struct [(9,0),(56,1),(56,2)],3,48,[.str,.str,.str],true⟩),
 (119,⟨.slice 125,1,24,[.slice],false⟩),
 (123,⟨.struct [(37,0),(56,1)],2,40,[.slice,.str],true⟩),
 (125,⟨.struct [(3,0),(123,1)],3,48,[.int .i64,.slice,.str],true⟩),
 (127,⟨.func,1,8,[.func],false⟩),
 (137,⟨.arr 2 5,2,2,[.int .u8,.int .u8],true⟩),
 (138,⟨.arr 3 22,3,3,[.int .i8,.int .i8,.int .i8],true⟩),
 (140,⟨.struct [(5,0),(23,1),(137,3),(5,5),(138,6)],9,9,[.int .u8,.int .i8,.int .i8,.int .u8,.int .u8,.int .u8,.int .i8,.int .i8,.int .i8],true⟩),
 (142,⟨.struct [(3,0),(3,1)],2,16,[.int .i64,.int .i64],true⟩),
 (149,⟨.map 9 4,1,8,[.map],false⟩),
 (151,⟨.map 99 4,1,8,[.map],false⟩),
 (153,⟨.struct [(42,0),(151,5)],6,128,[.slice,.slice,.slice,.slice,.slice,.map],true⟩),
 (158,⟨.int .u32,1,4,[.int .u32],false⟩),
 (160,⟨.int .u64,1,8,[.int .u64],false⟩),
 (164,⟨.struct [(3,0),(56,1),(37,2),(75,3),(37,4)],5,96,[.int .i64,.str,.slice,.slice,.slice],true⟩),
 (167,⟨.str,1,16,[.str],false⟩),
 (177,⟨.func,1,8,[.func],false⟩),
 (179,⟨.slice 183,1,24,[.slice],false⟩),
 (183,⟨.arr 2 3,2,16,[.int .i64,.int .i64],true⟩),
 (186,⟨.arr 3 9,3,48,[.str,.str,.str],true⟩),
 (189,⟨.map 58 4,1,8,[.map],false⟩),
 (202,⟨.ptr 212,1,8,[.ptr],false⟩),
 (209,⟨.struct [(56,0),(37,1)],2,40,[.str,.slice],true⟩),
 (210,⟨.slice 209,1,24,[.slice],false⟩),
 (212,⟨.struct [(3,0),(50,1),(210,2),(50,3),(209,4)],6,120,[.int .i64,.slice,.slice,.slice,.str,.slice],true⟩),
 (242,⟨.map 183 3,1,8,[.map],false⟩),
 (245,⟨.map 3 4,1,8,[.map],false⟩),
 (249,⟨.arr 3 58,6,96,[.str,.str,.str,.str,.str,.str],true⟩),
 (253,⟨.slice 38,1,24,[.slice],false⟩),
 (255,⟨.func,1,8,[.func],false⟩),
 (263,⟨.func,1,8,[.func],false⟩),
 (264,⟨.arr 32 5,32,32,[.int .u8,.int .u8,.int .u8,.int .u8,.int .u8,.int .u8,.int .u8,.int .u8,.int .u8,.int .u8,.int .u8,.int .u8,.int .u8,.int .u8,.int .u8,.int .u8,.int .u8,.int .u8,.int .u8,.int .u8,.int .u8,.int .u8,.int .u8,.int .u8,.int .u8,.int .u8,.int .u8,.int .u8,.int .u8,.int .u8,.int .u8,.int .u8],true⟩),
 (272,⟨.func,1,8,[.func],false⟩),
 (273,⟨.slice 37,1,24,[.slice],false⟩),
 (278,⟨.map 3 56,1,8,[.map],false⟩),
 (284,⟨.func,1,8,[.func],false⟩),
 (295,⟨.ptr 3,1,8,[.ptr],false⟩),
 (305,⟨.slice 160,1,24,[.slice],false⟩),
 (307,⟨.struct [(4,0),(305,1)],2,32,[.bool,.slice],true⟩),
 (315,⟨.func,1,8,[.func],false⟩),
 (317,⟨.map 3 3,1,8,[.map],false⟩),
 (318,⟨.func,1,8,[.func],false⟩),
 (327,⟨.arr 3 56,3,48,[.str,.str,.str],true⟩),
 (328,⟨.arr 3 56,3,48,[.str,.str,.str],true⟩),
 (346,⟨.iface,1,16,[.iface],false⟩),
 (352,⟨.ptr 354,1,8,[.ptr],false⟩),
 (354,⟨.struct [(352,0),(63,1)],2,32,[.ptr,.slice],true⟩),
 (357,⟨.func,1,8,[.func],false⟩),
 (371,⟨.ptr 209,1,8,[.ptr],false⟩),
 (372,⟨.arr 24 5,24,24,[.int .u8,.int .u8,.int .u8,.int .u8,.int .u8,.int .u8,.int .u8,.int .u8,.int .u8,.int .u8,.int .u8,.int .u8,.int .u8,.int .u8,.int .u8,.int .u8,.int .u8,.int .u8,.int .u8,.int .u8,.int .u8,.int .u8,.int .u8,.int .u8],true⟩),
 (383,⟨.ptr 5,1,8,[.ptr],false⟩),
 (386,⟨.arr 20 160,20,160,[.int .u64,.int .u64,.int .u64,.int .u64,.int .u64,.int .u64,.int .u64,.int .u64,.int .u64,.int .u64,.int .u64,.int .u64,.int .u64,.int .u64,.int .u64,.int .u64,.int .u64,.int .u64,.int .u64,.int .u64],true⟩),
 (390,⟨.struct [(58,0),(56,2)],3,48,[.str,.str,.str],true⟩),
 (391,⟨.arr 3 390,9,144,[.str,.str,.str,.str,.str,.str,.str,.str,.str],true⟩),
 (393,⟨.func,1,8,[.func],false⟩),
 (395,⟨.int .i64,1,8,[.int .i64],false⟩),
 (398,⟨.ptr 408,1,8,[.ptr],false⟩),
 (408,⟨.struct [(9,0),(9,1),(346,2)],3,48,[.str,.str,.iface],true⟩),
 (410,⟨.ptr 412,1,8,[.ptr],false⟩),
 (412,⟨.struct [(9,0)],1,16,[.str],true⟩),
 (415,⟨.arr 0 16,0,0,[],true⟩)]
noncomputable def cx:Cx:={ P:=Tryz.prog,T:=tab,mixed:=by kernel_rfl,hT:=by kernel_rfl }
abbrev Str:=List UInt8
/-! ### The model -/
structure Rel where
 kind:Int
 upper:Str
 lower:Str
 deriving DecidableEq,Inhabited
def og (b:UInt8):Bool:=(decide (97<=(b.toNat:Int)) && decide ((b.toNat:Int)<=122)) || (decide (65<=(b.toNat:Int)) && decide ((b.toNat:Int)<=90))
def uF (b:UInt8):Bool:=(decide (48<=(b.toNat:Int)) && decide ((b.toNat:Int)<=57)) || ((b.toNat:Int) == 95)
def iR (k:Nat)(b:UInt8):Bool:=og b || (!(k == 0) && uF b)
def gn:Nat->Str->Bool
 | _,[]=>true
 | k,b::s=>iR k b && gn (k+1) s
def fa (s:Str):Bool:=!(s == []) && decide (s.length<=32) && gn 0 s
theorem nU:∀ {s:Str}{k i:Nat}{b:UInt8},s[i]?=some b->iR (k+i) b=false->gn k s=false
 | [],k,i,b,h,_=>by simp at h
 | c::s,k,0,b,h,a=>by
  simp at h;subst h;simp only [NF] at a;simp [gn,a]
 | c::s,k,i+1,b,h,a=>by
  have:=nU (k:=k+1) (by simpa using h) (by rw [show k+1+i=k+(i+1) by omega];exact a);simp [gn,this]
theorem lJ:∀ {s:Str}{k:Nat},(∀ i b,s[i]?=some b->iR (k+i) b=true)->gn k s=true
 | [],k,_=>rfl
 | c::s,k,h=>by
  have h0:=h 0 c (by simp);simp only [NF] at h0;have h1:=lJ (s:=s) (k:=k+1) (fun i b a=>by
   have:=h (i+1) b (by simpa using a)
   rwa [show k+(i+1)=k+1+i by omega] at this)
  simp [gn,h0,h1]
/-! ### IsName -/
set_option maxRecDepth 100000 in
theorem gx (C:Mem)(s:Str)(B:s.length<1000000):Gives cx.P 105 [al s] C (.bool (fa s)):=by
 refine Ph Tryz.func105 57 U3 fun w0=>?_;refine C6 1 [0,2] Z ?_;refine O7 6 Z fun R a=>?_;refine PD U8 ?_;refine Pd [0,13] a Z ?_;refine G.cond Z (fun h=>?_) (fun h=>?_)
 ·refine C6 1 [2] Z ?_;refine Pf U2 ?_;refine ⟨?_,Z⟩;congr 1;simp only [Nl,Nh,LY] at h;unfold fa;rcases h with h | h
  ·have:s=[]:=h;simp [this]
  ·have h2:¬ s.length<=32:=by omega
   simp [h2]
 ·simp only [Nb,M5,Mf] at h;have q:s≠[]:=h.1;have r:s.length<=32:=by have:=h.2;omega
  refine O7 1 Z fun R a=>?_;refine Q5 Z Z Z Z Z Z Z Z Z Z (by simp only [maxLen];omega) fl_ (fun D _ _ g=>?_);have t:=g;obtain ⟨A,c,rfl,_⟩:=t;refine C4 2 [15,16,17] a Z ?_;refine G.loop (fun fr C' j m=>∃ k:Nat,k<=s.length/\(∀ i b,i<k->s[i]?=some b->iR (0+i) b=true)/\fr=[(15,[],.slice A (s.map fun b=>[Value.int .u8 b.toNat]).length c),(16,[],.int .i64 (s.map fun b=>[Value.int .u8 b.toNat]).length),(17,[],.int .i64 k)]/\j=[]/\m=s.length-k) (m:=s.length) (hn_ [15,16,17] Z) ⟨0,LV _,fun i b u=>by omega,Z,Z,Z⟩ (fun fr C' j m l v=>?_);obtain ⟨k,E,n,rfl,rfl,rfl⟩:=v;refine C6 1 [15,16,17,18] Z ?_;refine G.cond Z (fun h=>?_) (fun h=>?_)
  ·simp only [ax,LY] at h;have w:k<s.length:=by omega
   obtain ⟨b,d⟩:∃ b,s[k]?=some b:=⟨s[k],aj w⟩;have x:=g.mono l;refine O7 1 Z fun R a=>?_;refine Pm x U10 om_ (row:=[.int .u8 b.toNat]) (by simp [d]) fl_ (fun F y=>?_);refine O8 y U8 ?_;refine C4 2 [3,4,15,16,17] a Z ?_;refine O7 5 Z fun R a=>?_;refine Pz U8 ?_;refine Pc 6 Z ?_;refine Pz U8 ?_;refine PD U8 ?_;refine Pa U6 ?_;refine Qn [E_ 3 _,E_ 4 _,(5,[],.bool (og b)),E_ 15 _,E_ 16 _,E_ 17 _] a ?_;refine O7 5 Z fun R a=>?_;refine Pz U8 ?_;refine Pc 3 Z ?_;refine PD U8 ?_;refine Pa U6 ?_;refine Qn [E_ 3 _,E_ 5 _,(6,[],.bool (uF b)),E_ 15 _,E_ 16 _,E_ 17 _] a ?_;refine O7 8 Z fun R a=>?_;refine PD U8 ?_;refine Pz U8 ?_;refine Qn [E_ 15 _,E_ 16 _,E_ 17 _,(55,[],.bool (!(og b) && (((k:Int) == 0) || !(uF b))))] a ?_;have o:(!(og b) && (((k:Int) == 0) || !(uF b)))=!(iR (0+k) b):=by
    have e:((k:Int) == 0)=(0+k == 0):=by
     rw [M6];by_cases p:k=0
     ·subst p;rfl
     ·have:¬ (k:Int)=0:=by omega
      rw [M5.2 this,M5.2 p]
    unfold iR;rw [e];cases og b <;> cases uF b <;> cases (0+k == 0) <;> rfl
   refine G.cond Z (fun h=>?_) (fun h=>?_)
   ·rw [o] at h;refine C6 1 [2] Z ?_;refine Pf U2 ?_;refine ⟨?_,Z⟩;have:=nU (k:=0) d (by simpa using h);simp [fa,this]
   ·rw [o] at h;refine Pb fun R a=>?_;refine PN ((k+1:Nat):Int) U4 om_ om_ om_ U2 ?_;refine C4 1 [15,16,17] a Z ?_;refine Pk (m':=s.length-(k+1)) om_ l (hn_ [15,16,17] Z) ⟨k+1,by omega, ?_,Z,Z,Z⟩;intro i z u f;rcases Mw i k with h1 | h1
    ·exact n i z h1 f
    ·have:i=k:=by omega
     subst this;rw [d] at f;cases f
     simpa using h
  ·simp only [ax,Mf] at h;refine C6 1 [2] Z ?_;refine Pf U2 ?_;refine ⟨?_,Z⟩;have:=lJ (s:=s) (k:=0) (fun i b d=>n i b (by have:=(aX.1 d).1;omega) d);simp [fa,this,q,r]
set_option maxRecDepth 100000
structure ArcE where
 lower:Str
 upper:Str
 deriving DecidableEq,Inhabited
theorem KD (a b:Str):(a == b)=decide (a=b):=by by_cases h:a=b <;> simp [h]
set_option maxRecDepth 100000
def HK (a b:Int):Int:=if a<b then -1 else if a=b then 0 else 1
/-! ### Comparisons -/
structure TotC {α:Type}(f:α->α->Int):Prop where
 eq:∀ x y,f x y=0 ↔ x=y
 sym:∀ x y,f x y<0 ↔ 0<f y x
 trans:∀ x y z,f x y<0->f y z<0->f x z<0
section
variable {α:Type} {f:α->α->Int}
variable [DecidableEq α]
def ins (f:α->α->Int)(x:α):List α->List α
 | []=>[x]
 | y::l=>if f y x<0 then y::ins f x l else if y=x then y::l else x::y::l
end
def wd (x:Int):List Value:=[.int .i64 x]
def aU (i:Nat):List Value:=[.int .i64 i]
end Go.Proofs.YthnpijdjlddpmaaGreatDoor
namespace Go.Jog
open Go
def Ba (a b:Nat):Nat:=a &&& (18446744073709551616-(b+1))
section
variable {cx:Cx} {n:Nat} {ds:List (Option Nat)} {R:Rg n ds} {its:List It} {fr:Fr} {C:Mem} {L:List Ent} {i k d:Nat} {o:Oper} {g:GL}
theorem kc {a:Nat}(b:a<18446744073709551616):(BitVec.ofInt 64 (a:Int)).toNat=a:=by
 rw [BitVec.ofInt_natCast,BitVec.toNat_ofNat];exact NX om_
theorem Qa (a:Nat)(b:Nat){t c:Nat}{x y:Operand}{p q:Int}(f:Z8 (Nat.ble k 1) true o.dst (some d) o.op (.binOp .and t x y c) (gOf ds fr o.guard) (some g) (ev fr g x) (some (.int .u64 p)) (ev fr g y) (some (.int .u64 q)) p a q b)(j:a<18446744073709551616)(l:b<18446744073709551616)(m:Z2 (aO n ds ((d,g,.int .u64 ((a &&& b:Nat):Int))::fr) d) true (wfG ds fr g) true)(h:D cx R its ((d,g,.int .u64 ((a &&& b:Nat):Int))::fr) C L):D cx R ((i,k,o)::its) fr C L :=
 have ⟨r,s,u,v,z,hy,B,E⟩:=f;have ⟨F,G⟩:=m;D.run _ r s v (fun _ A hs w=>by
  subst B E;rw [cj u (hs _ _ z) (hs _ _ hy) (fun _ _=>.inl (by simp)) (.inl (by simp)) w];have e:IntKind.u64.wrap ((BitVec.ofInt 64 (a:Int) &&& BitVec.ofInt 64 (b:Int)).toNat:Int)=((a &&& b:Nat):Int):=bits_and_u64_nat a b j l;simp [binOp,Op.intBits,IntKind.bits];exact e) F G h
theorem oN (a b:Nat)(c:a<18446744073709551616)(d:b<18446744073709551616):IntKind.u64.wrap ((BitVec.ofInt 64 (a:Int) &&& ~~~ BitVec.ofInt 64 (b:Int)).toNat:Int)=((Ba a b:Nat):Int):=by
 have f:Ba a b<2 ^ 64:=Nat.and_lt_two_pow _ om_;rw [BitVec.toNat_and,BitVec.toNat_not,kc c,kc d,IntKind.wrap_u64];have e:2 ^ 64-1-b=18446744073709551616-(b+1):=by omega
 rw [e];show ((Ba a b:Nat):Int) % _=_;omega
theorem Rc (a b:Nat){t c:Nat}{x y:Operand}{p q:Int}(f:Nat.ble k 1=true)(j:o.dst=some d)(l:o.op=.binOp .andNot t x y c)(m:gOf ds fr o.guard=some g)(r:ev fr g x=some (.int .u64 p))(s:ev fr g y=some (.int .u64 q))
  (u:p=a) (v:q=b) (z:a<18446744073709551616) (B:b<18446744073709551616) (E:aO n ds ((d,g,.int .u64 ((Ba a b:Nat):Int))::fr) d=true) (F:wfG ds fr g=true)
  (h:D cx R its ((d,g,.int .u64 ((Ba a b:Nat):Int))::fr) C L):D cx R ((i,k,o)::its) fr C L :=
 D.run _ f j m (fun _ A hs w=>by
  subst u v;rw [cj l (hs _ _ r) (hs _ _ s) (fun _ _=>.inl (by simp)) (.inl (by simp)) w];have e:=oN a b z B;simp [binOp,Op.intBits,IntKind.bits];exact e) E F h
theorem QH (m:Nat){a c:IntKind}{t f:Nat}{x y:Operand}{q:Int}(j:Nat.ble k 1=true)(l:o.dst=some d)(p:o.op=.binOp .shl t x y f)(r:gOf ds fr o.guard=some g)(s:ev fr g x=some (.int a 1))(u:ev fr g y=some (.int c q))
  (b:a=.u64∨a=.i64) (v:q=m) (z:m<=62) (B:aO n ds ((d,g,.int a ((2 ^ m:Nat):Int))::fr) d=true) (E:wfG ds fr g=true)
  (h:D cx R its ((d,g,.int a ((2 ^ m:Nat):Int))::fr) C L):D cx R ((i,k,o)::its) fr C L :=
 D.run _ j l r (fun _ A hs w=>by
  subst v;rw [cj p (hs _ _ s) (hs _ _ u) (fun _ _=>.inl (by simp)) (.inl (by simp)) w];have h0:¬ ((m:Int)<0):=by omega
  have F:a.bits=64:=by rcases b with rfl | rfl <;> rfl
  have G:Min.min m 64=m:=by omega
  have H:2 ^ m<=2 ^ 62:=Mt dc_ z;have e:a.wrap (1*2 ^ m)=((2 ^ m:Nat):Int):=by
   have I:(1:Int)*2 ^ m=((2 ^ m:Nat):Int):=by rw [Int.one_mul];norm_cast
   rw [I];have J:2 ^ m<=4611686018427387904:=H;generalize 2 ^ m=P at J;rcases b with rfl | rfl
   ·rw [IntKind.wrap_u64];omega
   ·exact wrap_i64 om_ om_
  simp only [binOp,Op.shift,h0,MW,NO,F,G,Sem.run_pure,Result.andThen_ok];rw [e]) B E h
end
end Go.Jog
namespace Go.Jog
open Go
section
variable {cx:Cx} {n:Nat} {ds:List (Option Nat)} {R:Rg n ds} {its:List It} {fr:Fr} {C:Mem} {L:List Ent} {i k d:Nat} {o:Oper} {g:GL}
theorem Er (a b:Nat)(c:a<9223372036854775808):a &&& b<9223372036854775808:=MS Nat.and_le_left c
theorem Rp (a b:Nat){t c:Nat}{x y:Operand}{p q:Int}(f:Nat.ble k 1=true)(j:o.dst=some d)(l:o.op=.binOp .and t x y c)(m:gOf ds fr o.guard=some g)(r:ev fr g x=some (.int .i64 p))(s:ev fr g y=some (.int .i64 q))
  (u:p=a) (v:q=b) (z:a<9223372036854775808) (F:b<9223372036854775808) (B:aO n ds ((d,g,.int .i64 ((a &&& b:Nat):Int))::fr) d=true) (E:wfG ds fr g=true)
  (h:D cx R its ((d,g,.int .i64 ((a &&& b:Nat):Int))::fr) C L):D cx R ((i,k,o)::its) fr C L :=
 D.run _ f j m (fun _ A hs w=>by
  subst u v;rw [cj l (hs _ _ r) (hs _ _ s) (fun _ _=>.inl (by simp)) (.inl (by simp)) w];have e:IntKind.i64.wrap ((BitVec.ofInt 64 (a:Int) &&& BitVec.ofInt 64 (b:Int)).toNat:Int)=((a &&& b:Nat):Int):=by
   rw [BitVec.toNat_and,kc om_,kc om_];have:=Er a b z;exact wrap_i64 om_ om_
  simp [binOp,Op.intBits,IntKind.bits];exact e) B E h
end
end Go.Jog
