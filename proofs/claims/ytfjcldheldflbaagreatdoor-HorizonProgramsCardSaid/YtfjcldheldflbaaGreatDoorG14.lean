/- Laws that the proofs of this seat share, part 14. -/
import Derived.Test.YtfjcldheldflbaaGreatDoorG13
import Derived.Test.YtfjcldheldflbaaGreatDoorShelf
set_option maxHeartbeats 4000000
namespace Go.Proofs.YtfjcldheldflbaaGreatDoor
open Go.Proofs.Tryz
open Go Go.Jog
set_option maxRecDepth 100000
variable {cc:Nat->Rat}{e:Nat × Nat}{es:List (Nat × Nat)}{h i j k:Nat}{kd:Int}{ks:List fq}{l:List Nat}{m more n p:Nat}{pt:Nat->Rat}{r:RowQ}{rows:List RowQ}{s:Nat}{sg:Rat}{tris:List Tri}{u v:Value}{vs:List Value}{w:Value}{x:Rat}{y:Nat->Rat}
theorem SolO.mono {p:Lp.Sys}{d:Nat->Rat}{D E:Mem}{u:Value}(h:SolO p d D u)(a:D.le E):SolO p d E u:=by
 cases h with
 | opt val pt du b c e h1 h2=>exact .opt val pt du b c e (h1.mono a) (h2.mono a)
 | inf du c f h1=>exact .inf du c f (h1.mono a)
 | unb pt ra b g i h1 h2=>exact .unb pt ra b g i (h1.mono a) (h2.mono a)
theorem SolO.m_ {p:Lp.Sys}{D E:Mem}(h:SolO p cc D u)(a:D.le E:=by exact mup):SolO p cc E u:=SolO.mono h a
theorem vB {p:Lp.Sys}{D:Mem}(h:SolO p cc D u):∃ (kd:Int)(val:Str)(e g i:Value)(a b c:List Rat),u=.agg ⟨[.int .i64 kd,af val,e,g,i]⟩/\Sl D 1 e (a.map aP)/\Sl D 1 g (b.map aP)/\Sl D 1 i (c.map aP) /\
  (∀ x∈a,QB 20 x)/\(∀ x∈b,QB 20 x)/\(∀ x∈c,QB 20 x)/\a.length<=p.n/\b.length<=p.m/\c.length<=p.n/\(kd=1->∃ q,val=qtx q/\QB 20 q):=by
 have hr:∀ (n:Nat)(f:Nat->Rat),(∀ j,QB 20 (f j))->∀ x∈(List.range n).map f,QB 20 x:=fun n f o x d=>by
  obtain ⟨j,_,rfl⟩:=Pn.1 d;exact o j
 cases h with
 | opt val pt du e g k h1 h2=>exact ⟨1,qtx val,e,g,.slice none 0 0,_,_,[],rfl,h1,h2,Sl.nil _ _,hr _ _ k.qp,hr _ _ k.qd,fun x d=>(by cases d),by simp,by simp,Pm _,fun _=>⟨val,rfl,k.qv⟩⟩
 | inf du g r h1=>exact ⟨2,[],.slice none 0 0,g,.slice none 0 0,[],_,[],rfl,Sl.nil _ _,h1,Sl.nil _ _,fun x d=>(by cases d),hr _ _ r.qd,fun x d=>(by cases d),Pm _,by simp,Pm _,fun h=>absurd h dc_⟩
 | unb pt ra e i l h1 h2=>exact ⟨3,[],e,.slice none 0 0,i,_,[],_,rfl,h1,Sl.nil _ _,h2,hr _ _ l.qp,fun x d=>(by cases d),hr _ _ l.qr,by simp,Pm _,by simp,fun h=>absurd h dc_⟩
theorem sx {l:List Rat}(h:∀ x∈l,QB 22 x):(l.map qtx).all aW=true:=PD.2 fun s hs=>by
 obtain ⟨x,a,rfl⟩:=Pn.1 hs;exact bC (h x a)
theorem oP {n:Nat}:∀ {rs:List (List Rat × Rat)},(∀ r∈rs,r.1.length=n)->(∀ r∈rs,(∀ x∈r.1,QB 22 x)/\QB 22 r.2)->tf n (rs.map fo)=0
 | [],_,_=>rfl
 | r::rs,b,a=>by
  have e:tf n ((r::rs).map fo)=if EE n (fo r)≠0 then EE n (fo r) else tf n (rs.map fo):=rfl;have h0:EE n (fo r)=0:=ED.2 ⟨rM.2 ⟨by show ((r.1.map qtx).length:Int)=n;rw [al,b r Ph],sx (a r Ph).1⟩,bC (a r Ph).2⟩;rw [e,aF fun h=>h h0];exact oP (fun r hr=>b r (Pr _ hr)) fun r hr=>a r (Pr _ hr)
theorem sq {a:List (List Rat × Rat)}{b:List Rat}(g:n<=60)(i:a.length<=300)(c:∀ r∈a,r.1.length=n)(d:∀ r∈a,(∀ x∈r.1,QB 22 x)/\QB 22 r.2)(e:b.length=n)(f:∀ x∈b,QB 22 x):Hx n (a.map fo) (b.map qtx)=0:=by
 unfold Hx;rw [aF om_,aF (by rw [al];omega),aF fun h=>h (rM.2 ⟨by rw [al,e],sx f⟩)];exact oP c d
theorem E0 (C:Mem)(o:Tabs C)(n:Nat)(g i:Value)(d:List (List Rat × Rat))(f:List Rat)(k:RowsT C g (d.map fo))(v:Sl C 1 i (f.map aP))(p:RowsQ n d)(w:∀ x∈f,QB 22 x)(y:∀ r∈d,(∀ x∈r.1,QB 22 x)/\QB 22 r.2)(L:n<=60)(z:f.length=n)(M:Lp.Lim (ck n d) (fun j=>f.getD j 0) 20) :
  Pur cx.P 21 [.agg ⟨[.int .i64 n,g,i]⟩] C fun u D=>∃ r,u=.tuple #[r,.int .i64 0]/\SolO (ck n d) (fun j=>f.getD j 0) D r:=by
 have Y:maxLen<=9223372036854775807:=by simp [maxLen]
 have hm:=p.m;have N:Hx n (d.map fo) (f.map qtx)=0:=sq L om_ p.l y z w;have O:∀ D:Mem,C.le D->Gives cx.P 73 [.agg ⟨[.int .i64 n,g,i]⟩] D (.int .i64 0):=fun D q=>by
  have h:=we D (o.mono q) n g i (d.map fo) (f.map qtx) (k.mono q) (by rw [<- pS];exact v.mono q) (fun r k=>by
   obtain ⟨r,Q,rfl⟩:=Pn.1 k;obtain ⟨h1,h2⟩:=y r Q;refine ⟨fun s hs=>?_,Py (bx h2 dc_) dc_⟩;obtain ⟨x,t,rfl⟩:=Pn.1 hs;exact Py (bx (h1 x t) dc_) dc_) (fun s hs=>by
   obtain ⟨x,t,rfl⟩:=Pn.1 hs;exact Py (bx (w x t) dc_) dc_)
  rw [N] at h;exact h
 refine S4 func21 19 U3 fun w0=>SX fun R e=>Tf U6 fun b1=>Te U5 fun b2=>C6 1 [1,2] e Z<|G.freeze 1 Z fun _ _ A=>SX fun R e=>SU (bkT A 3) U8<|S8 (O _ mup) U7<|C6 1 [1,2,4] e Z<|SR 2 [1,2,4,9] Z<|G.cd (fun B=>?_) fun B=>?_
 ·exact absurd B dc_
 refine SX fun R e=>SU (bkT A 3) U8<|To (zY _ o.m_ n g i d f k.m_ v.m_ p om_ z M) U7 fl_ (fun aa _ _ E=>?_);obtain ⟨kd,val,vp,vd,vr,a,b,c,rfl,F,H,I,S,qb,T,U,V,W,X⟩:=vB E;obtain ⟨Ap,cp,rfl,_⟩:=id F;obtain ⟨Ad,cd,rfl,_⟩:=id H;obtain ⟨Ar,cr,rfl,_⟩:=id I;refine Te U5 fun b5=>S5 (j:=0) U12<|SY [2,5] e Z<|G.freeze 0 Z fun _ _ J=>SX fun R e=>SU (bkT J 5) U8<|Tb (Ah _ o.m_ kd val _ _ _ a b c F.m_ H.m_ I.m_ S qb T (Py U (by show n<=_;omega)) (Py V (by show d.length<=_;omega)) (Py W (by show n<=_;omega)) X) U7 fl_<|C6 1 [2,5,16] e Z<|G.cd (fun K=>?_) fun K=>?_
 ·exact absurd K dc_
 refine SX fun R e=>SU (bkT J 5) U8<|S5 (j:=0) U12<|C6 1 [2,3] e Z<|S7 (Uf ag U5 ?_);exact ⟨Z,_,Z,E.mono mup⟩
inductive FeaO (p:Lp.Sys) (D:Mem):Value->Prop where
 | yes (pt:Nat->Rat) (vp:Value):p.At pt->Lp.CmD p.n 20 pt->(∀ j,QB 20 (pt j))->Sl D 1 vp (((List.range p.n).map pt).map aP)->FeaO p D (.tuple #[vp,.agg ⟨[.slice none 0 0]⟩,.bool true,.int .i64 0])
 | no (du:Nat->Rat) (vd:Value):Lp.InfR p 20 du->Sl D 1 vd (((List.range p.m).map du).map aP)->FeaO p D (.tuple #[.slice none 0 0,.agg ⟨[vd]⟩,.bool false,.int .i64 0])
theorem HU {p:Lp.Sys}{D:Mem}{f a b e:Value}(h:SolO p cc D (.agg ⟨[.int .i64 kd,f,a,b,e]⟩)) :
  (kd=2/\∃ du,Lp.InfR p 20 du/\Sl D 1 b (((List.range p.m).map du).map aP))∨(kd≠2/\∃ pt,p.At pt/\Lp.CmD p.n 20 pt/\(∀ j,QB 20 (pt j))/\Sl D 1 a (((List.range p.n).map pt).map aP)):=by
 cases h with
 | opt w pt du a b c h1 h2=>exact .inr ⟨by decide,pt,c.row,c.cd,c.qp,h1⟩
 | inf du b g h1=>exact .inl ⟨rfl,du,g,h1⟩
 | unb pt ra a e d h1 h2=>exact .inr ⟨by decide,pt,d.row,d.cd,d.qp,h1⟩
theorem gF (n:Nat):List.replicate n (af [48])=((List.replicate n (0:Rat)).map aP).flatten:=by
 rw [RX,O5];induction n with
 | zero=>rfl
 | succ n a=>rw [Qm,Qm,Qq,a];rfl
theorem EH (n j:Nat):(List.replicate n (0:Rat)).getD j 0=0:=by
 rw [ax,QI];split <;> rfl
theorem IB (C:Mem)(t:Tabs C)(n:Nat)(g k:Value)(f:List (List Rat × Rat))(i:List Rat)(o:RowsT C g (f.map fo))(v:Sl C 1 k (i.map aP))(w:RowsQ n f)(A:∀ x∈i,QB 22 x)(B:∀ r∈f,(∀ x∈r.1,QB 22 x)/\QB 22 r.2)(N:n<=60)(O:i.length=n)(Q:Lp.Lim (ck n f) (fun _=>0) 20) :
  Pur cx.P 43 [.agg ⟨[.int .i64 n,g,k]⟩] C fun u D=>FeaO (ck n f) D u:=by
 have ah:maxLen<=9223372036854775807:=by simp [maxLen]
 have hm:=w.m;have S:Hx n (f.map fo) (i.map qtx)=0:=sq N om_ w.l B O A;have T:∀ D:Mem,C.le D->Gives cx.P 73 [.agg ⟨[.int .i64 n,g,k]⟩] D (.int .i64 0):=fun D y=>by
  have h:=we D (t.mono y) n g k (f.map fo) (i.map qtx) (o.mono y) (by rw [<- pS];exact v.mono y) (fun r o=>by
   obtain ⟨r,U,rfl⟩:=Pn.1 o;obtain ⟨h1,h2⟩:=B r U;refine ⟨fun s hs=>?_,Py (bx h2 dc_) dc_⟩;obtain ⟨x,z,rfl⟩:=Pn.1 hs;exact Py (bx (h1 x z) dc_) dc_) (fun s hs=>by
   obtain ⟨x,z,rfl⟩:=Pn.1 hs;exact Py (bx (A x z) dc_) dc_)
  rw [S] at h;exact h
 have V:Lp.Lim (ck n f) (fun j=>(List.replicate n (0:Rat)).getD j 0) 20:=by
  have e:(fun j=>(List.replicate n (0:Rat)).getD j 0)=fun _=>(0:Rat):=funext (EH n);rw [e];exact Q
 refine S4 func43 32 U3 fun w0=>SX fun R d=>Tf U6 fun b1=>SV U6<|Te U5 fun b3=>C6 2 [1,3] d Z<|SX fun R d=>S1 ae U9<|S8 (T _ mup) U7<|C6 1 [1,3,6] d Z<|SR 2 [1,3,6,11] Z<|G.cd (fun E=>?_) fun E=>?_
 ·exact absurd E dc_
 refine Tk [(2,3)] Z fun R d=>SV U6<|S1 ae U9<|D.call (iL _ n om_) Z (.inr dc_) U6 (Pk _) fl_ (fun ai _ aj _ W=>?_);obtain ⟨bz,rfl,rfl⟩:=W;rw [gF];refine SV U6<|S5 (j:=2) U12<|SY [1,3] d Z<|G.freezeArr 1 ((List.replicate n (0:Rat)).map aP) U2 bH am fun _ _ X=>G.freeze 0 Z fun _ _ Y=>SX fun R d=>SU (bkT Y 3) U8<|To (zY _ t.m_ n g _ f (List.replicate n 0) o.m_ X.m_ w om_ am V) U7 fl_ (fun ak _ _ F=>?_);obtain ⟨kd,val,vp,vd,vr,a,b,c,rfl,H,I,J,qa,qb,qc,aa,ab,ac,hv⟩:=vB F;have K:=HU F;obtain ⟨Ap,cp,rfl,_⟩:=id H;obtain ⟨Ad,cd,rfl,_⟩:=id I;obtain ⟨Ar,cr,rfl,_⟩:=id J;refine Te U5 fun b7=>S5 (j:=0) U12<|SY [3,7] d Z<|G.freeze 0 Z fun _ _ p=>SX fun R d=>SU (bkT p 5) U8<|Tb (Ah _ t.m_ kd val _ _ _ a b c H.m_ I.m_ J.m_ qa qb qc (Py aa (by show n<=_;omega)) (Py ab (by show f.length<=_;omega)) (Py ac (by show n<=_;omega)) hv) U7 fl_<|C6 1 [3,7,22] d Z<|G.cd (fun L=>?_) fun L=>?_
 ·exact absurd L dc_
 refine SS 1 Z fun R d=>SU (bkT p 1) U8<|C6 1 [3,7,26] d Z<|G.cd (fun q=>?_) fun q=>?_
 ·refine Tg [0,1,2,3,4,5] [(1,0)] Z kr_ fun R M d=>SV U6<|TS (fun _=>((bkT p 1).mono M)) U9<|SV U6<|S5 (j:=0) U12<|SZ 2 Z<|SY [2,3,4,5] d Z ?_;clear d M R;refine S7 (Uw ag U7 ?_);refine ⟨Z, ?_⟩;rcases K with ⟨_,du,hi,h1⟩ | ⟨h,_⟩
  ·exact .no du _ hi h1.m_
  exact absurd (by simpa using q) h
 refine SS 1 Z fun R d=>SU (bkT p 1) U8<|Td ([.slice none 0 0]) U8<|SV U6<|S5 (j:=0) U12<|C6 2 [2,3,4,5] d Z<|S7 (Uw ag U7 ?_);refine ⟨Z, ?_⟩;rcases K with ⟨h,_⟩ | ⟨_,pt,v,ad,af,h1⟩
 ·rw [h] at q;cases q
 exact .yes pt _ v ad af h1.m_
def prC (vs:List Value)(l:List SrcQ):List (List Value):=ay vs (l.map SrcQ.r)
theorem AM {l:List SrcQ}{s:SrcQ}(a:vs.length=l.length)(c:vs[i]?=some w)(d:l[i]?=some s):prC (vs.take (i+1)) (l.take (i+1))=prC (vs.take i) (l.take i)++[[w,af (qtx s.r.b)]]:=by
 unfold prC;rw [PN,PN,c,d,PM];exact bY (by simp [a]) w s.r
theorem J5 {l:List SrcQ}{s:SrcQ}(a:vs[i]?=some w)(c:l[i]?=some s):(bT vs l)[i]?=some [.int .i64 s.n,w,af (qtx s.r.b)]:=by
 unfold bT;rw [List.getElem?_zipWith,a,c]
theorem LI (a:List Value)(l:List SrcQ):∀ r∈prC a l,r.length=2:=bP _ _
theorem nJ {C:Mem}(h:RowsOk C vs rows)(b:Sl C 2 v (ay vs rows)):RowsT C v ((eG rows).map fo):=by
 refine ⟨vs,by rw [h.1];simp [eG],fun i w r c hr=>?_, ?_⟩
 ·rw [eG,Qe,Pi] at hr;cases a:rows[i]? with
  | none=>rw [a] at hr;cases hr
  | some x =>
   rw [a] at hr;cases hr
   have:=h.2 i w x c a;show Sl C 1 w ((x.f.map qtx).map mL);rw [<- pS];exact this
 have e:List.zipWith (fun w (r:List Str × Str)=>[w,af r.2]) vs ((eG rows).map fo)=ay vs rows:=by
  unfold eG ay;rw [Qe,List.zipWith_map_right];rfl
 rw [e];exact b
structure Calm (B:Bk)(fs:List Rat)(RO:Nat->List RowQ):Prop where
 rich:Rich B fs RO
 n12:bs B*bp B<=12
 thI:∀ r∈bI B,RowI r
 roI:∀ i,i<B.obs.length->∀ r∈RO i,RowI r
 th:(bI B).length<=24
 ro:∀ i,i<B.obs.length->(RO i).length<=8
 ob:B.obs.length<=12
structure SetIn (n:Nat)(l:List Nat):Prop where
 lt:∀ i∈l,i<n
 nd:l.Nodup
def nv (B:Bk)(RO:Nat->List RowQ)(l:List Nat):List RowQ:=(bQ (bI B) RO l).map SrcQ.r
theorem ju {B:Bk}{a:Nat->List RowQ}:nv B a l=bI B++l.flatMap a:=by
 unfold nv bQ kp;rw [PM,Qe,List.map_flatMap];congr 1
 ·exact List.map_id _
 congr 1;funext i;rw [Qe];exact List.map_id _
theorem SetIn.len (h:SetIn n l):l.length<=n:=by
 have:=List.Nodup.length_le_of_subset (l₂:=List.range n) h.nd fun v a=>PC.2 (h.lt v a)
 rwa [Qr] at this
section
variable {B:Bk} {fs:List Rat} {RO:Nat->List RowQ} {l:List Nat}
theorem Je {c:Nat}{f:Nat->List RowQ}:∀ {l:List Nat},(∀ i∈l,(f i).length<=c)->(l.flatMap f).length<=c*l.length
 | [],_=>Pm _
 | i::l,h=>by
  rw [List.flatMap_cons,Po,Pz,Nat.mul_succ];have h1:=h i Ph;have h2:=Je (l:=l) fun j a=>h j (Pr _ a);omega
theorem Calm.cnt (h:Calm B fs RO)(a:SetIn B.obs.length l):(nv B RO l).length<=120:=by
 rw [ju,Po];have h1:=Je (c:=8) (f:=RO) fun i b=>h.ro i (a.lt i b);have h2:=a.len;have h3:=h.ob;have h4:=h.th;omega
theorem Calm.rowI (h:Calm B fs RO)(a:SetIn B.obs.length l):∀ r∈nv B RO l,RowI r:=by
 intro r hr;rw [ju] at hr;rcases Px.1 hr with hr | hr
 ·exact h.thI r hr
 obtain ⟨i,b,hr⟩:=List.mem_flatMap.1 hr;exact h.roI i (a.lt i b) r hr
theorem vu {s p:Nat}{a:List Lay}:∀ n,∀ r∈ba s p a n,r.f.length=s*p
 | 0,r,hr=>by cases hr
 | n+1,r,hr=>by
  rcases Px.1 hr with hr | hr
  ·exact vu n r hr
  have:∀ k,∀ r∈bl s p (a.getD (n+1) ⟨[],0,none⟩) (n+1) k,r.f.length=s*p:=by
   intro k;induction k with
   | zero=>intro r hr;cases hr
   | succ k b =>
    intro r hr;rcases Px.1 hr with hr | hr
    ·exact b r hr
    unfold jX at hr;rcases Ps.1 hr with rfl | hr
    ·exact jx _ _
    split at hr
    ·cases hr
    rw [PE.1 hr];exact jx _ _
  exact this p r hr
theorem Nl {D:Int}{q:Rat}(h:Wl D q)(a:D≠0)(b:D.natAbs<=999999999):QB 1 q:=by
 obtain ⟨z,h1,h2⟩:=h;exact oV a h1 om_ om_
theorem RowI.q {r:RowQ}(h:RowI r):(∀ x∈r.f,QB 1 x)/\QB 1 r.b:=by
 obtain ⟨D,h0,a,h1,h2⟩:=h;exact ⟨fun x c=>Nl (h1 x c) h0 a,Nl h2 h0 a⟩
theorem nH {a:List RowQ}{P:List Rat × Rat->Prop}(h:∀ r∈a,P (r.f,r.b)):∀ x∈eG a,P x:=fun x c=>by
 obtain ⟨r,hr,rfl⟩:=Pn.1 c;exact h r hr
theorem Calm.q22 (h:Calm B fs RO)(a:SetIn B.obs.length l):∀ r∈eG (nv B RO l),(∀ x∈r.1,QB 22 x)/\QB 22 r.2 :=
 nH (P:=fun r=>(∀ x∈r.1,QB 22 x)/\QB 22 r.2) fun r hr=>⟨fun x b=>((h.rowI a r hr).q.1 x b).le dc_,(h.rowI a r hr).q.2.le dc_⟩
theorem Calm.rowsQ (h:Calm B fs RO)(a:SetIn B.obs.length l):RowsQ (bs B*bp B) (eG (nv B RO l)):=by
 refine ⟨nH (P:=fun r=>r.1.length=bs B*bp B) fun r hr=>?_,fun r hr=>⟨fun x b=>((h.q22 a r hr).1 x b).le dc_,(h.q22 a r hr).2.le dc_⟩, ?_⟩
 ·rw [ju] at hr;rcases Px.1 hr with hr | hr
  ·exact vu _ r hr
  obtain ⟨i,c,hr⟩:=List.mem_flatMap.1 hr;exact (oQ h.rich (a.lt i c)).2 r hr
 have:=h.cnt a;rw [eG,al];omega
theorem Calm.lim (h:Calm B fs RO)(a:SetIn B.obs.length l):Lp.Lim (ck (bs B*bp B) (eG (nv B RO l))) (fun _=>0) 20:=IW h.n12 (h.rowI a)
end
def dp (B:Bk)(RO:Nat->List RowQ):List RowQ:=nv B RO (List.range B.obs.length)
theorem dm (n:Nat):SetIn n (List.range n):=⟨fun _a h=>PC.1 h,List.nodup_range⟩
theorem ub {l:List Rat}(a:i<l.length):(l.set i x).getD j 0=if j=i then x else l.getD j 0:=by
 rw [ax,List.getElem?_set,ax];by_cases h:i=j
 ·subst h;rw [aL rfl,aL a,aL rfl];rfl
 rw [aF h,aF fun e=>h e.symm]
theorem pL (n j:Nat):(List.replicate n (0:Rat)).getD j 0=0:=EH n j
def rgF (n h p m k:Nat)(e:Nat × Nat)(sg:Rat):List Rat:=(((List.replicate n (0:Rat)).set (k / m*p+e.1) sg).set (k / m*p+e.2) (-sg)).set (h+k) (-1)
def edg (es:List (Nat × Nat))(k:Nat):Nat × Nat:=es.getD (k % es.length) (0,0)
def rgK (n h p:Nat)(es:List (Nat × Nat))(k:Nat):List RowQ:=[⟨rgF n h p es.length k (edg es k) 1,0⟩,⟨rgF n h p es.length k (edg es k) (-1),0⟩]
def rgL (n h p:Nat)(es:List (Nat × Nat))(t:Nat):List RowQ:=(List.range t).flatMap (rgK n h p es)
def bR (more:Nat)(r:RowQ):RowQ:=⟨r.f++List.replicate more 0,r.b⟩
def uR (rows:List RowQ)(h p:Nat)(es:List (Nat × Nat))(more:Nat):List RowQ:=rows.map (bR more)++rgL (h+more) h p es more
def kb (h more:Nat):List Rat:=List.replicate h 0++List.replicate more 1
theorem tr (n h p m k:Nat)(e:Nat × Nat)(a:Rat):(rgF n h p m k e a).length=n:=by unfold rgF;simp
theorem tk (n h p:Nat)(a:List (Nat × Nat))(t:Nat):rgL n h p a (t+1)=rgL n h p a t++rgK n h p a t:=by
 unfold rgL;rw [Qp,List.flatMap_append,List.flatMap_cons,List.flatMap_nil,PF]
theorem tm (n h p:Nat)(a:List (Nat × Nat)):∀ t,(rgL n h p a t).length=2*t
 | 0=>rfl
 | t+1=>by rw [tk,Po,tm n h p a t];rfl
theorem Aq (a:List RowQ)(h p:Nat)(c:List (Nat × Nat))(b:Nat):(uR a h p c b).length=a.length+2*b:=by
 unfold uR;rw [Po,al,tm]
theorem nK (h a:Nat):(kb h a).length=h+a:=by unfold kb;simp
structure EdgeOk (s p:Nat)(es:List (Nat × Nat)):Prop where
 lt:∀ e∈es,e.1<e.2/\e.2<p
theorem yK (a:k<s*es.length):edg es k∈es/\k / es.length<s:=by
 have h0:0<es.length:=by
  rcases Qj es.length with h | h
  ·rw [h] at a;omega
  exact h
 refine ⟨?_,(Q3 h0).2 a⟩;unfold edg;have hm:=PY k h0;rw [ax,ak hm];exact Qa hm
theorem Bc {a:Nat}(b:a<s)(c:i<p):a*p+i<s*p:=by
 have:(a+1)*p<=s*p:=P7 _ b;rw [Nat.succ_mul] at this;omega
theorem Gs (h:EdgeOk s p es)(a:k<s*es.length):k / es.length*p+(edg es k).1<s*p/\k / es.length*p+(edg es k).2<s*p/\(edg es k).1≠(edg es k).2:=by
 obtain ⟨h1,h2⟩:=yK a;obtain ⟨h3,h4⟩:=h.lt _ h1;exact ⟨Bc h2 om_,Bc h2 h4,by omega⟩
theorem Ls (a:k / m*p+e.1<h)(b:k / m*p+e.2<h)(c:h+k<n)(j:Nat):(rgF n h p m k e sg).getD j 0=if j=h+k then -1 else if j=k / m*p+e.2 then -sg else if j=k / m*p+e.1 then sg else 0:=by
 unfold rgF;rw [ub ap,ub ap,ub ap,pL]
theorem yj (a:i<n):Lp.sumN (fun j=>(if j=i then x else 0)*y j) n=x*y i:=by
 rw [Lp.sumN_at a,Lp.sumN_zero fun j _=>?_]
 ·rw [aL rfl];grind
 by_cases h:j=i
 ·rw [aL h]
 rw [aF h,aF h];grind
theorem Lq (a:k / m*p+e.1<h)(b:k / m*p+e.2<h)(d:e.1≠e.2)(c:h+k<n) :
  Lp.sumN (fun j=>(rgF n h p m k e sg).getD j 0*y j) n=sg*y (k / m*p+e.1)+(-sg*y (k / m*p+e.2) + -1*y (h+k)):=by
 rw [<- yj (i:=k / m*p+e.1) (n:=n) (x:=sg) om_,<- yj (i:=k / m*p+e.2) (n:=n) (x:=-sg) om_,<- yj (i:=h+k) (n:=n) (x:=-1) om_,<- Lp.sumN_add,<- Lp.sumN_add];refine Lp.sumN_congr fun j _=>?_;rw [Ls a b c];by_cases h1:j=h+k
 ·rw [aL h1,aF om_,aF om_,aL h1];grind
 by_cases h2:j=k / m*p+e.2
 ·rw [aF h1,aL h2,aF om_,aL h2,aF h1];grind
 by_cases h3:j=k / m*p+e.1
 ·rw [aF h1,aF h2,aL h3,aF h2,aF h1];grind
 rw [aF h1,aF h2,aF h3,aF h2,aF h1];grind
theorem jf :(ck n (eG rows)).At y ↔ ∀ r∈rows,Lp.sumN (fun j=>r.f.getD j 0*y j) n<=r.b:=by
 have hm:(ck n (eG rows)).m=rows.length:=al _;constructor
 ·intro h r hr;obtain ⟨i,c,rfl⟩:=List.mem_iff_getElem.1 hr;have h1:=h i (by rw [hm];exact c);have d:(ck n (eG rows)).a i=fun j=>rows[i].f.getD j 0:=by show (fun j=>((eG rows).getD i ([],0)).1.getD j 0)=_;rw [my c]
  have e:(ck n (eG rows)).b i=rows[i].b:=by show ((eG rows).getD i ([],0)).2=_;rw [my c]
  rw [d,e] at h1;exact h1
 intro h i c;rw [hm] at c;have h1:=h rows[i] (Qa c);have d:(ck n (eG rows)).a i=fun j=>rows[i].f.getD j 0:=by show (fun j=>((eG rows).getD i ([],0)).1.getD j 0)=_;rw [my c]
 have e:(ck n (eG rows)).b i=rows[i].b:=by show ((eG rows).getD i ([],0)).2=_;rw [my c]
 rw [d,e];exact h1
theorem zA (a:r.f.length=h):Lp.sumN (fun j=>(bR more r).f.getD j 0*y j) (h+more)=Lp.sumN (fun j=>r.f.getD j 0*y j) h:=by
 rw [Lp.sumN_split,Lp.sumN_zero (n:=more) fun j _=>?_]
 ·rw [show Lp.sumN (fun j=>(bR more r).f.getD j 0*y j) h=Lp.sumN (fun j=>r.f.getD j 0*y j) h from Lp.sumN_congr fun j b=>?_]
  ·grind
  show (r.f++List.replicate more 0).getD j 0*y j=_;rw [ax,P0 om_,<- ax]
 show (r.f++List.replicate more 0).getD (h+j) 0*y (h+j)=0;rw [ax,PJ om_,<- ax,pL];grind
theorem Fm :Lp.sumN (fun j=>(kb h more).getD j 0*y j) (h+more)=Lp.sumN (fun k=>y (h+k)) more:=by
 rw [Lp.sumN_split,Lp.sumN_zero (n:=h) fun j a=>?_]
 ·rw [show Lp.sumN (fun r=>(kb h more).getD (h+r) 0*y (h+r)) more=Lp.sumN (fun k=>y (h+k)) more from Lp.sumN_congr fun j a=>?_]
  ·grind
  unfold kb;rw [ax,PJ am,QI,aL ap];show 1*_=_;grind
 unfold kb;rw [ax,P0 ap,<- ax,pL];grind
def abR (x:Rat):Rat:=if x<0 then -x else x
theorem xu {y:Rat}:abR x<=y ↔ x<=y/\-x<=y:=by
 unfold abR;split <;> grind
theorem MR (x:Rat):0<=abR x:=by
 unfold abR;split <;> grind
def M4 (p:Nat)(es:List (Nat × Nat))(y:Nat->Rat)(k:Nat):Rat:=y (k / es.length*p+(edg es k).1)-y (k / es.length*p+(edg es k).2)
section
variable {rows:List RowQ} {s p:Nat} {es:List (Nat × Nat)} {y:Nat->Rat}
theorem Kb (e:EdgeOk s p es)(d:∀ r∈rows,r.f.length=s*p):(ck (s*p+s*es.length) (eG (uR rows (s*p) p es (s*es.length)))).At y ↔ (ck (s*p) (eG rows)).At y/\∀ k,k<s*es.length->abR (M4 p es y k)<=y (s*p+k):=by
 rw [jf,jf];have c:∀ k,k<s*es.length->∀ sg,Lp.sumN (fun j=>(rgF (s*p+s*es.length) (s*p) p es.length k (edg es k) sg).getD j 0*y j) (s*p+s*es.length)=sg*M4 p es y k-y (s*p+k):=fun k a sg=>by
  obtain ⟨h1,h2,h3⟩:=Gs e a;rw [Lq h1 h2 h3 om_];unfold M4;grind
 constructor
 ·intro h;refine ⟨fun r hr=>?_,fun k a=>?_⟩
  ·have:=h (bR _ r) (QU _ (Rm hr));rw [zA (d r hr)] at this;exact this
  have hm:∀ x∈rgK (s*p+s*es.length) (s*p) p es k,x∈uR rows (s*p) p es (s*es.length):=fun x b=>Q2 _ (List.mem_flatMap.2 ⟨k,PC.2 a,b⟩);have h1:=h _ (hm _ Ph);have h2:=h _ (hm _ (Pr _ Ph));rw [c k a] at h1 h2;rw [xu];simp only at h1 h2;constructor <;> grind
 rintro ⟨h1,h2⟩ r hr;rcases Px.1 hr with hr | hr
 ·obtain ⟨x,b,rfl⟩:=Pn.1 hr;rw [zA (d x b)];exact h1 x b
 obtain ⟨k,a,hr⟩:=List.mem_flatMap.1 hr;have a:=PC.1 a;have h3:=xu.1 (h2 k a);rcases Ps.1 hr with rfl | hr
 ·rw [c k a];simp only;grind
 rw [PE.1 hr,c k a];simp only;grind
theorem Ll {a:Nat}{b c:Nat->Rat}(d:EdgeOk s p es)(e:∀ r∈rows,r.f.length=s*p)(h:Lp.UnbR (ck (s*p+s*es.length) (eG (uR rows (s*p) p es (s*es.length)))) (fun j=>(kb (s*p) (s*es.length)).getD j 0) a b c):False:=by
 obtain ⟨y,hy,g⟩:=h.below 0;rw [show (ck (s*p+s*es.length) (eG (uR rows (s*p) p es (s*es.length)))).n=s*p+s*es.length from rfl,Fm] at g;have h1:=((Kb d e).1 hy).2;have h2:0<=Lp.sumN (fun k=>y (s*p+k)) (s*es.length):=Lp.sumN_ge fun k i=>Rat.le_trans (MR _) (h1 k i);grind
end
theorem NI (h:∀ r∈rows,RowI r):∀ r∈uR rows (s*p) p es (s*es.length),RowI r:=by
 intro r hr;have d:Wl 1 1:=⟨1,by decide +kernel,by decide⟩;have b:Wl 1 (-1):=⟨-1,by decide +kernel,by decide⟩;rcases Px.1 hr with hr | hr
 ·obtain ⟨x,e,rfl⟩:=Pn.1 hr;obtain ⟨D,h0,f,h1,h2⟩:=h x e;refine ⟨D,h0,f,fun q a=>?_,h2⟩;rcases Px.1 a with a | a
  ·exact h1 q a
  rw [(List.mem_replicate.1 a).2];exact Wl.zero _
 obtain ⟨k,g,hr⟩:=List.mem_flatMap.1 hr;have c:∀ sg:Rat,Wl 1 sg->∀ q∈rgF (s*p+s*es.length) (s*p) p es.length k (edg es k) sg,Wl 1 q:=fun sg hs q a=>by
  unfold rgF at a;rcases Qw a with a | rfl
  ·rcases Qw a with a | rfl
   ·rcases Qw a with a | rfl
    ·rw [(List.mem_replicate.1 a).2];exact Wl.zero _
    exact hs
   exact hs.neg
  exact b
 rcases Ps.1 hr with rfl | hr
 ·exact ⟨1,by decide,by decide,c 1 d,Wl.zero _⟩
 rw [PE.1 hr];exact ⟨1,by decide,by decide,c (-1) b,Wl.zero _⟩
theorem Ln (h b j:Nat):Wl 1 ((kb h b).getD j 0):=by
 unfold kb;rw [ax];cases a:(List.replicate h (0:Rat)++List.replicate b 1)[j]? with
 | none=>exact Wl.zero _
 | some q =>
  rcases Px.1 (Pe a) with a | a
  ·rw [(List.mem_replicate.1 a).2];exact Wl.zero _
  rw [(List.mem_replicate.1 a).2];exact ⟨1,by decide +kernel,by decide⟩
theorem Lm (a:s*p+s*es.length<=12)(h:∀ r∈rows,RowI r):Lp.Lim (ck (s*p+s*es.length) (eG (uR rows (s*p) p es (s*es.length)))) (fun j=>(kb (s*p) (s*es.length)).getD j 0) 20:=tR a (NI h) ⟨1,by decide,by decide,fun j _=>Ln _ _ j⟩
theorem OY {z:Int}(h:s*p<=60):ofE z s p=z:=by
 unfold ofE;split
 ·rfl
 rename_i h2;have:z=0:=by simpa using h2
 rw [aF om_,this]
theorem yO (C:Mem)(a:Value)(B:Bk)(z:Int)(b:BookZ C a B z)(h:bs B*bp B<=60):Gives cx.P 92 [a] C (.tuple #[.int .i64 (if z=0 then ((bs B*bp B:Nat):Int) else 0),.int .i64 z]):=by
 have h1:=Jx C a B z b;rw [OY h] at h1;exact h1
theorem lL (C:Mem)(n:Nat)(h:n<=100000):Jog.Fn cx.P 77 [.int .i64 n] C [] fun u _f a=>∃ b,u=.slice (some ⟨b,0,none⟩) n n/\a=[.arr u 32 1 n (List.replicate n (af [48]))]:=by
 refine S4 func77 6 U3 fun w0=>SR 1 [0] Z<|Tk [(2,3)] Z fun R c=>Th [[af [48]]] U12 fun g _ _ d=>SV U6<|D.call (jy _ _ n [48] d.m_ om_) Z (.inr dc_) U6 (Pk _) fl_ fun i _ j _ e=>C6 1 [2] c Z ?_;obtain ⟨bz,rfl,rfl⟩:=e;refine S7 (Tx Z Z ?_);exact ⟨bz,Z,Z⟩
theorem EC (B:Bk)(a:Nat->List RowQ):(bQ (bI B) a (List.range B.obs.length)).map SrcQ.r=dp B a:=rfl
abbrev sC7 (A:Option Addr)(n c:Nat):Value:=.slice A n c
theorem kI (C:Mem)(M:Tabs C)(g:Value)(B:Bk)(N:List Rat)(c:Nat->List RowQ)(o:BookIn C g B)(h:Calm B N c) :
  Jog.Fn cx.P 37 [g] C [] fun u D k=>∃ (d:Option Addr)(e bz:Nat)(vs:List Value),u=.tuple #[.agg ⟨[.int .i64 (bs B*bp B:Nat),.slice d (dp B c).length e,.slice (some ⟨bz,0,none⟩) (bs B*bp B) (bs B*bp B)]⟩,.int .i64 0]/\RowsOk D vs (dp B c) /\
   k=[.arr (.slice d (dp B c).length e) 140 2 (dp B c).length (ay vs (dp B c)).flatten,.arr (.slice (some ⟨bz,0,none⟩) (bs B*bp B) (bs B*bp B)) 32 1 (bs B*bp B) (List.replicate (bs B*bp B) (af [48]))]:=by
 have av:=o;have W:=h.rich.bookz M o;have X:=h.cnt (dm _);have Y:=h.n12;have ax:=h.ob;obtain ⟨l,x⟩:∃ l,bQ (bI B) c (List.range B.obs.length)=l:=⟨_,rfl⟩;have O:dp B c=l.map SrcQ.r:=by rw [<- EC,x]
 have az:l.length<=120:=by
  have:=X;rw [show nv B c (List.range B.obs.length)=dp B c from rfl,O,al] at this;exact this
 have aa:∀ D:Mem,C.le D->Pur cx.P 54 [g] D fun u E=>∃ v,u=.tuple #[v,.int .i64 0]/\BO E v l:=fun D p=>by
  have:=KK D (M.mono p) g B N c (o.mono p) h.rich om_ (by rw [x];omega);rw [x] at this;exact this
 obtain ⟨n,Q⟩:∃ n,bs B*bp B=n:=⟨_,rfl⟩;have ab:∀ D:Mem,C.le D->Gives cx.P 92 [g] D (.tuple #[.int .i64 n,.int .i64 0]):=fun D p=>by
  have h:=yO D g B 0 (W.mono p) om_;rw [aL rfl,Q] at h;exact h
 rw [O];rw [Q] at Y ⊢;obtain ⟨v1,v2,tv,cv,ov,rfl,h1,h2,h3,h4,h5⟩:=id o.ex;have aA:maxLen<=9223372036854775807:=by simp [maxLen]
 refine S4 func37 47 U3 fun w0=>SX fun R a=>Tf U6 fun b1=>Te U5 fun q=>C6 1 [1,2] a Z<|G.freeze 1 Z fun _ _ S=>SX fun R a=>SU (bkT S 5) U8<|Tv (aa _ mup) U7 (fun aB _ _ ad=>?_);obtain ⟨wv,rfl,ag⟩:=ad;obtain ⟨vs,y,z⟩:=ag;have T:=jr y;obtain ⟨Aw,cw,rfl,ah,aC,_⟩:=id z;have ai:(bT vs l).length=l.length:=by unfold bT;simp [T]
 rw [ai] at z ah ⊢;refine C6 5 [1,2,4,5] a Z<|SR 2 [1,2,4,5,16] Z<|G.cd (fun U=>?_) fun U=>?_
 ·exact absurd U dc_
 refine SX fun R a=>SU (bkT S 5) U8<|S8 (ab _ mup) U7<|C6 5 [2,4,5,6] a Z<|SR 2 [2,4,5,6,25] Z<|G.cd (fun V=>?_) fun V=>?_
 ·exact absurd V dc_
 refine Tk [(2,3)] Z fun R a=>SZ 2 Z<|D.call (lL _ n om_) Z (.inr dc_) U6 (Pk _) fl_ (fun aD _ aE _ aj=>?_);obtain ⟨bz,rfl,rfl⟩:=aj;refine Td [.int .i64 n,.slice none 0 0,.slice (some ⟨bz,0,none⟩) n n] U8<|Te U5 fun t=>S5 (j:=0) U12<|SY [2,4,7] a Z<|SR 3 [2,7,32,33,34] Z<|G.nilArr 140 2<|G.perm (L':=[.arr (sC7 none 0 0) 140 2 0 (prC (vs.take 0) (l.take 0)).flatten,.arr (.slice (some ⟨bz,0,none⟩) n n) 32 1 n (List.replicate n (af [48])),.obj t (.cells ⟨[.int .i64 n,.slice none 0 0,.slice (some ⟨bz,0,none⟩) n n]⟩ 74 (0,0)),.obj q (.cells ⟨[.int .i64 0,.slice none 0 0,.slice none 0 0]⟩ 74 (0,0))]) (pkL [0,1,0,0] Z)<|G.loop (fun fr C' k μ=>∃ (i:Nat)(d:Option Addr)(n1 e:Nat),(i<=l.length)/\fr=[(2,[],.pointer (some ⟨q,0,none⟩)),(7,[],.pointer (some ⟨t,0,none⟩)),(32,[],.slice Aw l.length cw),(33,[],.int .i64 l.length),(34,[],.int .i64 i)]/\k=[.arr (sC7 d n1 e) 140 2 i (prC (vs.take i) (l.take i)).flatten,.arr (.slice (some ⟨bz,0,none⟩) n n) 32 1 n (List.replicate n (af [48])),.obj t (.cells ⟨[.int .i64 n,.slice d n1 e,.slice (some ⟨bz,0,none⟩) n n]⟩ 74 (0,0)),.obj q (.cells ⟨[.int .i64 0,.slice none 0 0,.slice none 0 0]⟩ 74 (0,0))]/\μ=l.length-i) (hn_ [2,7,32,33,34] Z) ⟨0,none,0,0,Pm _,Z,Z,Z⟩ (fun fr aF aG m _ hI=>?_);obtain ⟨i,d,n1,e,hi,rfl,rfl,rfl⟩:=hI;refine SR 1 [2,7,32,33,34,35] Z<|G.cd (fun A=>?_) fun A=>?_
 ·have F:i<l.length:=by
   have:=OD A;omega
  obtain ⟨s,H⟩:∃ s,l[i]?=some s:=⟨l[i],ak F⟩;obtain ⟨w,I⟩:∃ w,vs[i]?=some w:=⟨vs[i]'om_,ak om_⟩;have am:=y.2 i w s.r I (by rw [Pi,H];rfl);obtain ⟨Ax,an,rfl,_⟩:=id am;have ao:=AM T I H;refine SX fun R a=>Ta z.m_ U10 om_ (J5 I H) fl_ fun aH ap=>SU ap U8<|Te U5 fun b9=>S5 (j:=0) U12<|SY [2,7,9,32,33,34] a Z<|G.freeze 0 Z fun _ _ aq=>SS 1 Z fun R a=>S1 ac U9<|SV U6<|SU (bkT aq 2) U8<|Th [[.slice Ax (s.r.f.map eD).length an,af (qtx s.r.b)]] U12 fun aI _ _ ar=>Tq (j:=0) U11 ar.m_ Z aw (by show (i+1)*40<=_;omega) fl_ fun J K L=>SV U6<|S5 (j:=2) U12<|SY [2,7,32,33,34] a Z<|SX fun R a=>S2 _ Z U6<|C6 1 [2,7,32,33,34] a Z<|G.perm (L':=[.arr (sC7 J K L) 140 2 (i+1) (prC (vs.take (i+1)) (l.take (i+1))).flatten,.arr (.slice (some ⟨bz,0,none⟩) n n) 32 1 n (List.replicate n (af [48])),.obj t (.cells ⟨[.int .i64 n,.slice J K L,.slice (some ⟨bz,0,none⟩) n n]⟩ 74 (0,0)),.obj q (.cells ⟨[.int .i64 0,.slice none 0 0,.slice none 0 0]⟩ 74 (0,0))]) (by rw [ao,PH];(exact pkL [1,1,0,0] Z))<|S6 (m':=l.length-(i+1)) om_ mup (hn_ [2,7,32,33,34] Z) ⟨i+1,J,K,L,om_,Z,Z,Z⟩
 have F:i=l.length:=by
  have:=Pj A;omega
 subst F;refine SX fun R a=>S1 ac U9<|S5 (j:=3) U12<|C6 1 [2,3] a Z ?_;rw [PZ (show vs.length<=l.length by omega),Pv];refine TC 3 Z<|UY ae (fun A0 c0 au _=>?_);obtain ⟨rfl,rfl,rfl⟩:d=A0/\n1=l.length/\e=c0:=by cases au;exact ⟨rfl,rfl,rfl⟩
 refine S7 (VE 0 Z Z Z Z Z Z ?_);exact ⟨d,e,bz,vs,by rw [al];rfl,RowsOk.mono y mup,by rw [al];rfl⟩
def Nq (s p:Nat)(pt:Nat->Rat):List (List Str):=chunks s p (((List.range (s*p)).map pt).map qtx)
abbrev Ea (B:Bk)(RO:Nat->List RowQ):Lp.Sys:=ck (bs B*bp B) (eG (dp B RO))
inductive BuiO (B:Bk) (RO:Nat->List RowQ) (D:Mem):Value->Prop where
 | yes (pt:Nat->Rat) (v:Value):(Ea B RO).At pt->Lp.CmD (bs B*bp B) 20 pt->(∀ j,QB 20 (pt j))->FieldsIn D v (Nq (bs B) (bp B) pt)->BuiO B RO D (.tuple #[v,.agg ⟨[.slice none 0 0]⟩,.bool true,.int .i64 0])
 | no (du:Nat->Rat) (vd:Value):Lp.InfR (Ea B RO) 20 du->Sl D 1 vd (((List.range (dp B RO).length).map du).map aP)->BuiO B RO D (.tuple #[.slice none 0 0,.agg ⟨[vd]⟩,.bool false,.int .i64 0])
theorem Gm {p:Lp.Sys}{D:Mem}(h:FeaO p D u):∃ (A:Option Addr)(n c:Nat)(A2:Option Addr)(n2 c2:Nat)(a:Bool),u=.tuple #[.slice A n c,.agg ⟨[.slice A2 n2 c2]⟩,.bool a,.int .i64 0] /\
  ((a=true/\A2=none/\n2=0/\c2=0/\∃ pt,p.At pt/\Lp.CmD p.n 20 pt/\(∀ j,QB 20 (pt j))/\Sl D 1 (.slice A n c) (((List.range p.n).map pt).map aP)) ∨
  (a=false/\∃ du,Lp.InfR p 20 du/\Sl D 1 (.slice A2 n2 c2) (((List.range p.m).map du).map aP))):=by
 cases h with
 | yes pt g b d e h1 =>
  obtain ⟨A,c,rfl,_⟩:=id h1;exact ⟨_,_,_,_,_,_,true,Z,.inl ⟨Z,Z,Z,Z,pt,b,d,e,h1⟩⟩
 | no du i f h1 =>
  obtain ⟨A,c,rfl,_⟩:=id h1;exact ⟨_,_,_,_,_,_,false,Z,.inr ⟨Z,du,f,h1⟩⟩
theorem Gq (l:List Rat):l.map aP=(l.map qtx).map jV:=by
 rw [Qe];rfl
theorem NK (n:Nat):∀ x∈List.replicate n (0:Rat),QB 22 x:=fun x a=>by rw [(List.mem_replicate.1 a).2];exact QB_zero.le dc_
theorem wM (a:∀ j,QB 20 (pt j)):qQ s p (((List.range (s*p)).map pt).map qtx)=0:=by
 unfold qQ;rw [aL am,PD.2 fun x b=>?_]
 ·rfl
 obtain ⟨q,c,rfl⟩:=Pn.1 b;obtain ⟨j,_,rfl⟩:=Pn.1 c;exact bC ((a j).le dc_)
theorem wa (a:∀ j,QB 20 (pt j)):∀ x∈((List.range (s*p)).map pt).map qtx,x.length<=999998:=fun x b=>by
 obtain ⟨q,c,rfl⟩:=Pn.1 b;obtain ⟨j,_,rfl⟩:=Pn.1 c;exact Py (bx (a j) dc_) dc_
theorem Ga (C:Mem)(d:Tabs C)(k:Value)(B:Bk)(l:List Rat)(b:Nat->List RowQ)(c:BookIn C k B)(h:Calm B l b) :
  Pur cx.P 26 [k] C fun u D=>BuiO B b D u:=by
 have n:=c;have A:=h.rich.bookz d c;have aa:=h.n12;have e:=dm B.obs.length;have E:=h.rowsQ e;have F:=h.q22 e;have H:=h.lim e;obtain ⟨v1,v2,tv,cv,ov,rfl,h1,h2,h3,h4,h5⟩:=id c.ex;have ab:maxLen<=9223372036854775807:=by simp [maxLen]
 refine S4 func26 43 U3 fun w0=>SX fun R a=>Tf U6 fun b1=>SV U6<|Te U5 fun b3=>C6 2 [1,3] a Z<|G.freeze 1 Z fun _ _ o=>Tk [(1,3)] Z fun R a=>SU (bkT o 5) U8<|D.call (kI _ d.m_ _ B l b n.m_ h) Z (.inr dc_) U6 (Pk _) fl_ (fun ac _ ad _ I=>?_);obtain ⟨Ar,cr,bo,vs,rfl,q,rfl⟩:=I;refine SZ 3 Z<|Te U5 fun b6=>S5 (j:=0) U12<|C6 1 [1,3,5,6] a Z<|SR 2 [1,3,5,6,14] Z<|G.cd (fun r=>?_) fun r=>?_
 ·exact absurd r dc_
 refine G.freezeArr 1 (ay vs (dp B b)) U2 (bP _ _) (by rw [bA q.1]) (fun _ _ J=>?_);rw [gF];refine G.freezeArr 1 ((List.replicate (bs B*bp B) (0:Rat)).map aP) U2 bH am fun _ _ K=>G.freeze 0 Z (fun L _ M=>?_);have N:=nJ (RowsOk.m_ q) (J.mono mup:Sl L 2 _ _);refine SX fun R a=>SU (bkT M 3) U8<|To (IB _ d.m_ (bs B*bp B) _ _ (eG (dp B b)) (List.replicate (bs B*bp B) 0) N.m_ K.m_ E (NK _) F om_ am H) U7 fl_ (fun ae _ _ O=>?_);obtain ⟨Q,S,T,U,nd,cd,t,rfl,v⟩:=Gm O;refine SZ 6 Z<|S5 (j:=0) U12<|C6 2 [1,3,4,5,7] a Z<|SS 5 Z fun R a=>Tt U8<|SY [1,3,5,7,29] a Z<|G.cd (fun f=>?_) fun f=>?_
 ·have g:t=false:=by simpa using f
  subst g;obtain ⟨du,V,w⟩:∃ du,Lp.InfR (Ea B b) 20 du/\Sl _ 1 (.slice U nd cd) (((List.range (Ea B b).m).map du).map aP):=by
   rcases v with ⟨h,_⟩ | ⟨_,h⟩
   ·cases h
   exact h
  refine Tg [0,1,2,3,4,5] [] Z kr_ fun R c a=>S1 ag U9<|SZ 2 Z<|S5 (j:=0) U12<|SZ 2 Z<|SY [2,3,4,5] a Z ?_;clear a c R;refine S7 (Uw ag U7 ?_);refine ⟨Z,.no du _ V ?_⟩;rw [show (Ea B b).m=(dp B b).length from al _] at w;exact w.mono mup
 have g:t=true:=by simpa using f
 subst g;obtain ⟨pt,W,X,i,x⟩:∃ pt,(Ea B b).At pt/\Lp.CmD (bs B*bp B) 20 pt/\(∀ j,QB 20 (pt j))/\Sl _ 1 (.slice Q S T) (((List.range (bs B*bp B)).map pt).map aP):=by
  rcases v with ⟨_,_,_,_,h⟩ | ⟨h,_⟩
  ·exact h
  cases h
 rw [Gq] at x;have y:=wM (s:=bs B) (p:=bp B) i;refine SX fun R a=>SU (bkT o 5) U8<|SV U6<|To (wQ _ d.m_ _ _ B (((List.range (bs B*bp B)).map pt).map qtx) n.m_ A.m_ om_ x.m_ (wa i) ap) U7 fl_ (fun af _ _ Y=>?_);obtain ⟨fv,rfl,z⟩:=Y;rw [y,aL rfl] at z;rw [y];refine C6 5 [2,3,5] a Z<|SS 1 Z fun R a=>Td ([.slice none 0 0]) U8<|SZ 4 Z<|S5 (j:=0) U12<|C6 2 [2,3,4,5] a Z<|S7 (Uw ag U7 ?_);exact ⟨Z,.yes pt _ W X i z.m_⟩
open Go Go.Jog Go.Shelf
set_option maxRecDepth 100000
def uj (e:Nat × Nat):List Value:=[.int .i64 e.1,.int .i64 e.2]
def ML (x y:Nat × Nat):Int:=Kp [x.1,x.2] [y.1,y.2]
theorem uA {x y:Nat × Nat}:ML x y<0 ↔ ltP x y:=by
 unfold ML ltP;simp only [Kp];split
 ·exact ⟨fun _=>.inl ‹_›,fun _=>by decide⟩
 split
 ·exact ⟨fun h=>absurd h dc_,fun h=>by omega⟩
 split
 ·exact ⟨fun _=>.inr ⟨by omega,‹_›⟩,fun _=>by decide⟩
 split
 ·exact ⟨fun h=>absurd h dc_,fun h=>by omega⟩
 exact ⟨fun h=>absurd h dc_,fun h=>by omega⟩
theorem JD:Sort.SWO (ltOf ML) where
 irrefl x:=by unfold ltOf;exact PT (fun h=>yp x (uA.1 h))
 trans x y z h1 h2:=by
  unfold ltOf at *;simp only [Pp] at *;rw [uA] at *;unfold ltP at *;omega
 ntrans x y z h1 h2:=by
  unfold ltOf at *;simp only [PP] at *;rw [uA] at *;unfold ltP at *;omega
def Br (ks:List fq)(s:fq):Bool:=decide (s.1<s.2) || !(decide (nt s∈ks))
def ly (s:fq):Nat × Nat:=((min s.1 s.2).toNat,(max s.1 s.2).toNat)
def kr (ks:List fq)(seen:List Nat):List (Nat × Nat):=((seen.map fun j=>ks.getD j (0,0)).filter (Br ks)).map ly
theorem Cp {seen:List Nat}{s:fq}(h:ks[j]?=some s):kr ks (seen++[j])=kr ks seen++if Br ks s then [ly s] else []:=by
 unfold kr;rw [PM,QK,PM];congr 1;rw [PU,Ri,ax,h,List.filter_cons];split <;> simp_all
theorem Gr {s:fq}(a:0<=s.1)(b:0<=s.2):uj (ly s)=[.int .i64 (min s.1 s.2),.int .i64 (max s.1 s.2)]:=by
 unfold uj ly;rw [show (((min s.1 s.2).toNat:Nat):Int)=min s.1 s.2 by omega,show (((max s.1 s.2).toNat:Nat):Int)=max s.1 s.2 by omega]
theorem sZ (h:∀ t∈tris,mR n t):∀ s∈bO tris,0<=s.1/\0<=s.2/\s.1.toNat<n/\s.2.toNat<n:=by
 intro s hs;obtain ⟨t,a,hs⟩:=List.mem_flatMap.1 hs;obtain ⟨h1,h2,h3⟩:=h t a;simp only [oK,Ps,Qh,Rz] at hs;rcases hs with rfl | rfl | rfl <;> simp [nu,DJ] <;> omega
structure EdgL (tris:List Tri)(es:List (Nat × Nat)):Prop where
 up:es.Pairwise ltP
 mem:∀ e,e∈es ↔ e.1<e.2/\(((e.1:Int),(e.2:Int))∈bO tris∨((e.2:Int),(e.1:Int))∈bO tris)
theorem EdgL.same {a:List (Nat × Nat)}(h:EdgL tris es)(k:EdgL tris a):es=a :=
 Dw yp IT h.up k.up fun e=>(h.mem e).trans (k.mem e).symm
theorem EdgL.ok (h:EdgL tris es)(a:∀ t∈tris,mR n t)(s:Nat):EdgeOk s n es:=⟨fun e b=>by
 obtain ⟨h1,h2⟩:=(h.mem e).1 b;rcases h2 with h2 | h2
 ·have:=sZ a _ h2;simp only [Rc] at this;omega
 have:=sZ a _ h2;simp only [Rc] at this;omega⟩
theorem EdgL.le (h:EdgL tris es)(a:∀ t∈tris,mR n t)(b:n<=6):es.length<=15/\(n<=4->es.length<=6):=IC b h.up (h.ok a 0).lt
theorem LW {s t:fq}(a:0<=s.1)(b:0<=s.2)(c:0<=t.1)(d:0<=t.2)(h:ly s=ly t):s=t∨t=nt s:=by
 obtain ⟨e,f⟩:=s;obtain ⟨g,i⟩:=t;unfold ly at h;simp only [Ro,nt] at *;omega
theorem Mv {l:List (Nat × Nat)}(c:ks.Perm (bO tris))(n:(bO tris).Nodup)(d:∀ s∈bO tris,0<=s.1/\0<=s.2)
  (o:l.Perm ((ks.filter (Br (bO tris))).map ly)) (p:es.Perm l) (b:es.Pairwise fun x y=>ltOf ML y x=false):EdgL tris es:=by
 have j:=p.trans o;have q:ks.Nodup:=c.nodup_iff.2 n;have f:∀ s∈ks.filter (Br (bO tris)),s∈bO tris/\Br (bO tris) s=true:=fun s b=>by
  obtain ⟨h1,h2⟩:=QG.1 b;exact ⟨c.mem_iff.1 h1,h2⟩
 have r:((ks.filter (Br (bO tris))).map ly).Nodup:=by
  rw [List.Nodup,List.pairwise_map];refine (q.filter _).imp_of_mem fun {s t} b u g v=>?_;obtain ⟨a,k1⟩:=f s b;obtain ⟨k,k2⟩:=f t u;obtain ⟨a1,a2⟩:=d s a;obtain ⟨w,z⟩:=d t k;rcases LW a1 a2 w z v with e | e
  ·exact g e
  subst e;unfold Br at k1 k2;have i:nt (nt s)=s:=rfl;simp only [i,a,k,decide_true,Bool.not_true,Bool.or_false,Pp] at k1 k2;simp only [nt] at k2;omega
 have g:es.Nodup:=j.nodup_iff.2 r;refine ⟨?_,fun e=>?_⟩
 ·refine (List.Pairwise.and g b).imp fun {x y} ⟨h1,h2⟩=>?_;unfold ltOf at h2;have h3:¬ ltP y x:=fun h=>absurd (uA.2 h) (Pj h2);unfold ltP at h3 ⊢;obtain ⟨x1,x2⟩:=x;obtain ⟨y1,y2⟩:=y;simp only [ne_eq,Ro] at *;omega
 rw [j.mem_iff];constructor
 ·intro h;obtain ⟨s,b,rfl⟩:=Pn.1 h;obtain ⟨a,k1⟩:=f s b;obtain ⟨a1,a2⟩:=d s a;have m:s.1≠s.2:=fun e=>by
   unfold Br at k1;have i:nt s=s:=by obtain ⟨x,y⟩:=s;simp only [nt] at *;rw [e]
   rw [i] at k1;simp only [a,decide_true,Bool.not_true,Bool.or_false,Pp] at k1;omega
  obtain ⟨x,y⟩:=s;unfold ly;simp only at a1 a2 m a ⊢;rcases Int.lt_or_gt_of_ne m with h | h
  ·refine ⟨by omega,.inl ?_⟩;rw [show (((min x y).toNat:Nat):Int)=x by omega,show (((max x y).toNat:Nat):Int)=y by omega];exact a
  refine ⟨by omega,.inr ?_⟩;rw [show (((min x y).toNat:Nat):Int)=y by omega,show (((max x y).toNat:Nat):Int)=x by omega];exact a
 rintro ⟨h1,h2⟩;have A:ly ((e.1:Int),(e.2:Int))=e:=by
  obtain ⟨x,y⟩:=e;unfold ly;simp only [Ro] at *;omega
 have B:ly ((e.2:Int),(e.1:Int))=e:=by
  obtain ⟨x,y⟩:=e;unfold ly;simp only [Ro] at *;omega
 by_cases h3:((e.1:Int),(e.2:Int))∈bO tris
 ·refine Pn.2 ⟨_,QG.2 ⟨c.mem_iff.2 h3, ?_⟩,A⟩;unfold Br;rw [PG (by show (e.1:Int)<e.2;omega)];rfl
 have h4:=h2.resolve_left h3;refine Pn.2 ⟨_,QG.2 ⟨c.mem_iff.2 h4, ?_⟩,B⟩;unfold Br;rw [show nt ((e.2:Int),(e.1:Int))=((e.1:Int),(e.2:Int)) from rfl,PT h3,Bool.not_false,Bool.or_true]
theorem wD (C:Mem)(a:Int):Gives cx.P 274 [.int .i64 a] C (.bool false):=by
 exact S4 func274 6 U3 fun w0=>SR 1 [0] Z<|SR 4 [2] Z<|S3 U2<|⟨by simp,Z⟩
theorem yQ (C:Mem)(a b:Int):Gives cx.P 216 [.int .i64 a,.int .i64 b] C (.int .i64 (KG a b)):=by
 refine S4 func216 20 U3 fun w0=>SR 1 [0,1] Z<|SS 1 Z fun R d=>S8 (wD _ _) U7<|C6 1 [0,1,5] d Z<|SS 1 Z fun R d=>S8 (wD _ _) U7<|C6 1 [0,1,5,6] d Z<|SR 1 [0,1,6,11] Z<|G.cd (fun f=>?_) fun f=>?_
 ·cases f
 refine SR 1 [0,1,13] Z<|G.cd (fun g=>?_) fun g=>?_
 ·cases g
 refine SR 3 [0,1,16] Z<|G.cd (fun c=>?_) fun c=>?_
 ·refine SR 1 [4] Z<|S3 U2 ?_;simp only [Pp] at c;exact ⟨by rw [KG,aL c],Z⟩
 refine SR 3 [19] Z<|G.cd (fun e=>?_) fun e=>?_
 ·refine SR 1 [4] Z<|S3 U2 ?_;simp only [Pp,PP] at c e;exact ⟨by rw [KG,aF c,aF om_],Z⟩
 refine SR 1 [4] Z<|S3 U2 ?_;simp only [PP] at c e;exact ⟨by rw [KG,aF c,aL om_],Z⟩
theorem yR (C:Mem)(v w:Value)(a b:List Nat)(l:Sl C 1 v (a.map aT))(n:Sl C 1 w (b.map aT))(L:a.length<=1000000)(_M:b.length<=1000000) :
  Gives cx.P 148 [v,w] C (.int .i64 (Kp a b)):=by
 obtain ⟨A,c,rfl,_⟩:=id l;obtain ⟨B,d,rfl,_⟩:=id n;simp only [al] at l n ⊢;refine S4 func148 36 U3 fun w0=>SR 1 [0,1] Z<|SR 3 [0,1,9,10,11] Z<|G.loop (fun fr N z D=>∃ (k:Nat),(k<=a.length/\k<=b.length/\Kp (a.drop k) (b.drop k)=Kp a b)/\fr=[(0,[],.slice A a.length c),(1,[],.slice B b.length d),(9,[],.slice A a.length c),(10,[],.int .i64 a.length),(11,[],.int .i64 k)]/\z=[]/\D=a.length-k) (hn_ [0,1,9,10,11] Z) ⟨0,⟨Pm _,Pm _,Z⟩,Z,Z,Z⟩ (fun fr O Q m _ E=>?_);obtain ⟨k,⟨S,T,g⟩,rfl,rfl,rfl⟩:=E;refine SR 1 [0,1,9,10,11,12] Z<|G.cd (fun o=>?_) fun o=>?_
 ·have h:k<a.length:=by simpa using o
  obtain ⟨x,t⟩:∃ x,a[k]?=some x:=⟨a[k],ak h⟩;have F:(a.map aT)[k]?=some (aT x):=by rw [Pi,t];rfl
  have p:a.drop k=x::a.drop (k+1):=by rw [PI h,(aJ.1 t).2]
  refine SS 1 Z fun R f=>Ta l.m_ U10 om_ F fl_ fun U H=>SU H U8<|C6 2 [0,1,5,6,9,10,11] f Z<|SR 4 [0,1,5,6,9,10,11,19] Z<|G.cd (fun q=>?_) fun q=>?_
  ·have i:b.length<=k:=by simpa using q
   have j:b.drop k=[]:=QY i;exact SR 1 [4] Z<|S3 U2<|⟨by rw [<- g,p,j];rfl,Z⟩
  have i:k<b.length:=by
   have:¬ b.length<=k:=by simpa using q
   omega
  obtain ⟨y,hy⟩:∃ y,b[k]?=some y:=⟨b[k],ak i⟩;have I:(b.map aT)[k]?=some (aT y):=by rw [Pi,hy];rfl
  have j:b.drop k=y::b.drop (k+1):=by rw [PI i,(aJ.1 hy).2]
  refine SS 2 Z fun R f=>Ta n.m_ U10 om_ I fl_ fun V J=>SU J U8<|C6 1 [0,1,6,7,9,10,11] f Z<|SS 2 Z fun R f=>S8 (yQ _ _ _) U7<|C6 1 [0,1,8,9,10,11] f Z<|SR 2 [0,1,8,9,10,11,28] Z<|G.cd (fun r=>?_) fun r=>?_
  ·have e:KG x y≠0:=by simpa using r
   refine SR 2 [4] Z<|S3 U2<|⟨?_,Z⟩;rw [<- g,p,j];simp only [Kp];unfold KG at e ⊢;by_cases h1:x<y
   ·have h3:(x:Int)<y:=by omega
    rw [aL h1,aL h3]
   have h3:¬ (x:Int)<y:=by omega
   rw [aF h1,aF h3];rw [aF h3] at e;by_cases h2:y<x
   ·have h4:¬ (x:Int)=y:=by omega
    rw [aL h2,aF h4]
   have h4:(x:Int)=y:=by omega
   rw [aL h4] at e;exact absurd Z e
  have e:KG x y=0:=by simpa using r
  have K:x=y:=by
   unfold KG at e;split at e
   ·cases e
   split at e
   ·omega
   cases e
  refine SX fun R f=>S2 _ Z U6<|C6 1 [0,1,9,10,11] f Z<|S6 (m':=a.length-(k+1)) om_ mup (hn_ [0,1,9,10,11] Z) ⟨k+1,⟨by omega,by omega,by rw [<- g,p,j,K];simp [Kp]⟩,Z,Z,Z⟩
 have h:k=a.length:=by
  have:¬ k<a.length:=by simpa using o
  omega
 subst h;rw [Qk] at g;refine SR 5 [35] Z<|G.cd (fun s=>?_) fun s=>?_
 ·have u:a.length<b.length:=by simpa using s
  refine SR 1 [4] Z<|S3 U2<|⟨?_,Z⟩;rw [<- g,PI u];rfl
 have u:¬ a.length<b.length:=by simpa using s
 refine SR 1 [4] Z<|S3 U2<|⟨?_,Z⟩;rw [<- g,QY om_];rfl
theorem Jl (C:Mem)(x y:Nat × Nat):Gives cx.P 147 [.agg ⟨uj x⟩,.agg ⟨uj y⟩] C (.int .i64 (ML x y)):=by
 refine S4 func147 8 U3 fun w0=>SX fun R a=>Tf U6 fun m=>Tf U6 fun n=>C6 1 [2,3] a Z<|G.freeze 1 Z fun _ _ f=>G.freeze 0 Z (fun d _ g=>?_);have e:∀ {b:Nat}(z:Nat × Nat){t:TypeId},d b=some (.cells ⟨uj z⟩ t (0,0))->Sl d 1 (.slice (some ⟨b,0,none⟩) 2 2) (([z.1,z.2]:List Nat).map aT):=fun z t h=>Sl.ofBlock (rows:=([z.1,z.2]:List Nat).map aT) (c:=2) h (by intro r hr;obtain ⟨y,_,rfl⟩:=Pn.1 hr;rfl) (fun j v i=>by simpa [uj,aT] using i) (Pf _) dc_;have k:=e x (Mem.get f mup);have l:=e y (Mem.get g mup);exact Tg [0,1,2,3] [(2,1)] Z kr_ fun R o a=>Ul 0 2 2 U12 (fun _=>⟨.inl ⟨Z,Z⟩,.inl ⟨Z,Z⟩,.inl ⟨Z,Z⟩,by omega,by omega,Pf _⟩) U2<|Ul 0 2 2 U12 (fun _=>⟨.inl ⟨Z,Z⟩,.inl ⟨Z,Z⟩,.inl ⟨Z,Z⟩,by omega,by omega,Pf _⟩) U2<|Tj (fun _=>(yR _ _ _ [x.1,x.2] [y.1,y.2] k.m_ l.m_ (by show 2<=1000000;decide) (by show 2<=1000000;decide))) U9<|C6 1 [4] a Z<|S3 U2<|⟨Z,Z⟩
theorem HS (C:Mem)(v:Value)(l:List (Nat × Nat))(d:l.length<=1000000):Jog.Fn cx.P 146 [v,.func (.func 147) #[] #[]] C [.arr v 163 2 l.length (l.map uj).flatten]
  fun u _e b=>∃ a:List (Nat × Nat),u=.tuple #[]/\b=[.arr v 163 2 l.length (a.map uj).flatten]/\a.Perm l/\a.Pairwise (fun x y=>ltOf ML y x=false) :=
 xS (P:=cx.P) (T:=tab) Tryz.sortE cx.hT rfl rfl uj fl_ (fun x=>rfl) ML JD 147 [] C (fun x y c _=>Jl c x y) v 163 l om_ kr_ kr_
abbrev sE (A:Option Addr)(n c:Nat):Value:=.slice A n c
theorem Jk (l:List (Nat × Nat)):∀ r∈l.map uj,r.length=2:=fun r hr=>by obtain ⟨y,_,rfl⟩:=Pn.1 hr;rfl
theorem vJ (b:List fq)(a:List Nat):(kr b a).length<=a.length:=by
 unfold kr;rw [al];refine Py (QQ _ _) ?_;rw [al];exact Pf _
theorem Bp (C:Mem)(hT:Tabs C)(N:Value)(B:List Pt)(f:List Tri)(O:MeshIn C N B f)(E:Good B f) :
  Pur cx.P 76 [N] C fun u D=>∃ es v,u=.tuple #[v,.int .i64 0]/\EdgL f es/\Sl D 2 v (es.map uj):=by
 have n:=E.ok;have ai:=O;obtain ⟨v1,v2,rfl,h1,h2⟩:=id O.ex;have aB:maxLen<=9223372036854775807:=by simp [maxLen]
 have x:=sZ n.ins;have aj:=mr f;have aC:=n.lt;refine S4 func76 63 U3 fun w0=>SX fun R c=>Tf U6 fun b1=>C6 2 [1] c Z<|G.freeze 0 Z fun _ _ Q=>SX fun R c=>SU (bkT Q 2) U8<|S8 (gp _ hT.m_ _ B f ai.m_ E) U7<|C6 1 [1,4] c Z<|SR 2 [1,4,14] Z<|G.cd (fun S=>?_) fun S=>?_
 ·exact absurd S dc_
 refine SX fun R c=>SU (bkT Q 2) U8<|Tv (wg _ _ _ f E.ne h2.m_ (rE n.sides)) U7 (fun aD _ _ am=>?_);obtain ⟨b,rfl,g⟩:=am;obtain ⟨m,T⟩:∃ m,wh f f.length=m:=⟨_,rfl⟩;have y:m.map (·.1)=bO f:=by
  have:=fE n.sides f.length (Pf _);rw [Pv,T] at this;exact this
 rw [T] at g;obtain ⟨ks,z⟩:∃ ks,bO f=ks:=⟨_,rfl⟩;rw [z] at y x aj;have U:ks.length=m.length:=by rw [<- y];simp
 have V:∀ s:fq,(dQ m (s.2,s.1)).isSome=decide (nt s∈ks):=fun s=>by
  have:=AV (m:=m) (s:=s);rw [y] at this;rw [this];unfold je;rw [Bool.not_not]
 refine C6 5 [5] c Z<|SR 1 [5,7] Z<|SS 1 Z fun R c=>UK kI2.enc (Mem.get g mup) Z Z Z Z Z Z Z fl_ fun A=>SY [5,7,22] c Z<|G.nilArr 163 2<|G.loop (fun fr C' F μ=>∃ (seen:List Nat)(o:Option Addr)(n1 r:Nat),(seen.Nodup/\(∀ j∈seen,j<ks.length))/\fr=[(5,[],.map (some b)),(7,[],.slice o n1 r),(22,[],.pointer (some ⟨A,0,none⟩))]/\F=[.arr (sE o n1 r) 163 2 (kr ks seen).length ((kr ks seen).map uj).flatten,.obj A (bi b m.length seen)]/\μ=ks.length-seen.length) (hn_ [5,7,22] Z) ⟨[],none,0,0,⟨List.nodup_nil,by simp⟩,Z,Z,Z⟩ (fun fr aE aF m _ hI=>?_);obtain ⟨seen,o,n1,r,⟨H,I⟩,rfl,rfl,rfl⟩:=hI;refine SX fun R c=>UM kI2.enc (q:=1) (Mem.get g mup) Z Z Z Z Z Z fl_ fun W aG k X=>C6 1 [5,7,22,24] c Z<|G.cd (fun t=>?_) fun t=>?_
 ·obtain ⟨aH,j,Y,an,rfl⟩:W=true/\∃ j,j<m.length/\j ∉ seen/\k=seen++[j]:=by
   rcases X with ⟨h1,_⟩ | h1
   ·rw [h1] at t;cases t
   exact h1
  rw [<- U] at Y;obtain ⟨⟨s,bv⟩,hs⟩:∃ p,m[j]?=some p:=⟨m[j]'om_,ak om_⟩;have aa:ks[j]?=some s:=by rw [<- y,Pi,hs];rfl
  have J:(seen++[j]).Nodup:=by
   rw [QJ];exact ⟨H,by simp,fun a ha b g e=>by rw [PE.1 g] at e;subst e;exact an ha⟩
  have K:∀ i∈seen++[j],i<ks.length:=fun i w=>by
   rcases Px.1 w with h | h
   ·exact I i h
   rw [PE.1 h];exact Y
  have ao:(seen++[j]).length<=ks.length:=by
   have:=List.Nodup.length_le_of_subset J (l₂:=List.range ks.length) (fun i w=>PC.2 (K i w));simpa using this
  have aI:(seen++[j]).length=seen.length+1:=by simp
  have l:=Cp aa (seen:=seen);obtain ⟨ap,aq,_⟩:=x s (Pe aa);have ar:=vJ ks seen;refine SX fun R c=>UL kI2.enc (Mem.get g mup) hs ag Z Z Z Z Z Z Z<|SV U6<|Te U5 fun b8=>S5 (j:=0) U12<|SY [5,7,8,22] c Z<|SS 1 Z fun R c=>Ti (1) U9 ah U2<|S1 ag U9<|Ti (0) U9 ah U2<|S1 ag U9<|Td [.int .i64 s.2,.int .i64 s.1] U8<|UQ kI2 (fun _=>(Mem.get g mup)) Z Z Z Z Z Z Z Z Z (lD _ (dQ m (s.2,s.1))) Z Z<|C6 5 [5,7,8,10,22] c Z<|SX fun R c=>Ti (0) U9 ah U2<|S1 ag U9<|Ti (1) U9 ah U2<|S1 ag U9<|SZ 4 Z<|Tt U8<|SY [5,7,8,22,45] c Z<|G.cd (fun L=>?_) fun L=>?_
  ·have M:Br ks s=true:=by
    unfold Br;rw [<- V];exact L
   rw [M,aL rfl] at l;have aJ:(kr ks (seen++[j])).length=(kr ks seen).length+1:=by rw [l];simp
   refine SS 1 Z fun R c=>Ti (0) U9 ah U2<|S1 ag U9<|Ti (1) U9 ah U2<|S1 ag U9<|D.min (min s.1 s.2) U6 Z U2<|Ti (0) U9 ah U2<|S1 ag U9<|Ti (1) U9 ah U2<|S1 ag U9<|D.max (max s.1 s.2) U6 Z U2<|Td [.int .i64 (min s.1 s.2),.int .i64 (max s.1 s.2)] U8<|Th [[.int .i64 (min s.1 s.2),.int .i64 (max s.1 s.2)]] U12 fun aK _ _ au=>Tq (j:=2) U11 au.m_ Z aw (by simp only [aY];omega) fl_ fun ab ac ad=>C6 1 [5,7,22] c Z<|TC 1 Z<|Tc (L':=[.arr (sE ab ac ad) 163 2 (kr ks (seen++[j])).length ((kr ks (seen++[j])).map uj).flatten,.obj A (bi b m.length (seen++[j]))]) (by rw [l,PM,PH,<- Gr ap aq];simp)<|S6 (m':=ks.length-(seen++[j]).length) om_ mup (hn_ [5,7,22] Z) ⟨seen++[j],ab,ac,ad,⟨J,K⟩,Z,Z,Z⟩
  have M:Br ks s=false:=by
   unfold Br;rw [<- V];exact L
  rw [M] at l;simp only [P8,QD,PF] at l;refine TC 0 Z<|G.perm (L':=[.arr (sE o n1 r) 163 2 (kr ks (seen++[j])).length ((kr ks (seen++[j])).map uj).flatten,.obj A (bi b m.length (seen++[j]))]) (by rw [l];exact List.Perm.swap _ _ _)<|S6 (m':=ks.length-(seen++[j]).length) om_ mup (hn_ [5,7,22] Z) ⟨seen++[j],o,n1,r,⟨J,K⟩,Z,Z,Z⟩
 obtain ⟨aM,rfl,ae⟩:W=false/\k=seen/\∀ j,j<m.length->j∈seen:=by
  rcases X with h1 | ⟨h1,_⟩
  ·exact h1
  rw [h1] at t;cases t
 rw [<- U] at ae;have hp:=oM (d:=((0:Int),(0:Int))) H I ae;have ar:=vJ ks k;have ao:k.length<=ks.length:=by
  have:=List.Nodup.length_le_of_subset H (l₂:=List.range ks.length) (fun i w=>PC.2 (I i w));simpa using this
 refine TC 0 Z<|Tk [(1,3)] Z fun R c=>SV U6<|D.call (HS _ _ (kr ks k) om_) Z (.inr dc_) U6 (Pk _) fl_ fun aN _ aO _ av=>SY [7] c Z ?_;obtain ⟨es,rfl,rfl,af,ax⟩:=av;have ay:EdgL f es:=Mv (ks:=k.map fun j=>ks.getD j (0,0)) (by rw [z];exact hp) n.sides (fun s hs=>by rw [z] at hs;exact ⟨(x s hs).1,(x s hs).2.1⟩) (by rw [z];exact Pk _) af ax;have az:es.length=(kr ks k).length:=af.length_eq;refine SR 3 [2,3] Z<|G.freezeArr 0 (es.map uj) U2 (Jk es) (by rw [al,az]) fun Cf aP aA=>S7 (G.dropAll (Tp U3 ?_));exact ⟨Z,es,_,Z,ay,aA⟩
theorem Lw {q:Rat}(h:q.den=1):q=(q.num:Rat):=Rat.ext rfl h
def wlB (D:Int)(q:Rat):Bool:=decide ((q*(D:Rat)).den=1) && decide ((q*(D:Rat)).num.natAbs<=999999999)
theorem DZ {D:Int}{q:Rat}(h:wlB D q=true):Wl D q:=by
 unfold wlB at h;simp only [Pu,Pp] at h;exact ⟨_,Lw h.1,h.2⟩
theorem Ie (D:Int)(a:D≠0)(c:D.natAbs<=999999999)(h:(r.f.all (wlB D) && wlB D r.b)=true):RowI r:=by
 simp only [Pu,PD] at h;exact ⟨D,a,c,fun q d=>DZ (h.1 q d),DZ h.2⟩
def xP (i:Nat):Pt:=if i<2 then (3,0) else if i=2 then (0,0) else (6,0)
def xD (i:Nat):Rat:=if i=1 then 5 else if i=3 then 1 else 4
def xX (i:Nat):Str:=if i=1 then [53] else if i=3 then [49] else [52]
def xN (i:Nat):Str:=if i % 2=0 then [97] else [98]
def xO (i:Nat):Obs:=⟨2,xN i,qtx (xP i).1,qtx (xP i).2,xX i,[66],[65],[],[],[]⟩
def xT (i:Nat):Obs:=⟨2,xN i,if i<2 then [51] else if i=2 then [48] else [54],[48],xX i,[66],[65],[],[],[]⟩
def xB (l:List Nat):Bk:=⟨[(0,0),(6,0),(0,4)],[(0,1,2)],[[49,48],[49,48],[49,48]],[⟨[65],0,none⟩,⟨[66],0,none⟩],l.map xO⟩
def xFs:List Rat:=[10,10,10]
theorem EQ:qtx 3=[51]:=gJ (z:=3) aq
theorem Kh:qtx 4=[52]:=gJ (z:=4) aq
theorem NQ:qtx 5=[53]:=gJ (z:=5) aq
theorem Ij:qtx 6=[54]:=gJ (z:=6) aq
theorem Ik:qtx 1=[49]:=gJ (z:=1) aq
theorem NP:qtx 10=[49,48]:=gJ (z:=10) aq
theorem xX_e (i:Nat):qtx (xD i)=xX i:=by
 unfold xD xX;split
 ·exact NQ
 split
 ·exact Ik
 exact Kh
theorem Hs (i:Nat):xO i=xT i:=by
 unfold xO xT xP;split
 ·simp only [EQ,qtx_zero]
 split <;> simp only [qtx_zero,Ij]
theorem JZ:∀ i<4,QB 22 (xD i)/\QB 22 (xP i).1/\QB 22 (xP i).2/\QB 22 (10-xD i)/\QP 23 (xP i):=by decide +kernel
theorem KT (i:Nat)(a:i<4):da (xX i)=xD i:=Lx (xD i) (xX_e i) (JZ i a).1
theorem OK (i:Nat)(a:i<4):aW (xX i)=true:=by rw [<- xX_e];exact bC (JZ i a).1
theorem x_pt (i:Nat)(a:i<4):ptO (xO i)=xP i:=by
 unfold ptO;show (da (qtx (xP i).1),da (qtx (xP i).2))=xP i;rw [cR (bC (JZ i a).2.1),cR (bC (JZ i a).2.2.1)]
theorem HA:∀ i<4,kF (xB []).pts (xB []).tris (xP i)=[0]:=by decide +kernel
theorem x_sh:∀ i<4,dR (xT i)=0:=by decide +kernel
theorem Nc:∀ i<4,J3 (xB []).col (xT i)=false/\ordB (xB []).col (xT i)=false/\Hz (xT i)=false/\0<=jT (isU (xT i).upper) (xB []).col 0:=by decide +kernel
theorem OH:∀ i<4,decide (xD i<0)=false:=by decide +kernel
theorem x_ov (i:Nat)(a:i<4):gQ (xB []).pts (xB []).tris (xB []).col (xO i)=0:=by
 obtain ⟨h1,h2,h3,_⟩:=Nc i a;unfold gQ;rw [aF (by rw [Hs i,x_sh i a];decide),aF (by unfold Jz;rw [x_pt i a,HA i a];decide),aF (by rw [Hs i,h1];decide),aF (by rw [Hs i,h2];decide),aF (by
  unfold depB;rw [show (xO i).depth=xX i from rfl,KT i a,OH i a,Bool.and_false];decide),aF (by rw [Hs i,h3];decide)]
theorem x_on:∀ i<4,onQ (xB []).pts xFs (0,1,2) (xP i)=10:=by decide +kernel
theorem Nb (i:Nat)(a:i<4):DI (xB []).pts (xB []).tris xFs (xP i)=.tuple #[af (qtx 10),.int .i64 0]:=by
 unfold DI;rw [HA i a];show CL (onQ (xB []).pts xFs (0,1,2) (xP i))=_;rw [x_on i a];unfold CL;rw [aL (bC aq)]
theorem x_w3:∀ i<4,∀ j<3,QB 22 (wgt (xB []).pts (0,1,2) (xP i) j):=by decide +kernel
theorem x_w (i:Nat)(a:i<4)(j:Nat):QB 22 (wgt (xB []).pts (0,1,2) (xP i) j):=by
 rw [KW];exact x_w3 i a _ (PY _ dc_)
theorem x_sl:∀ j,QP 22 (slf (xB []).pts (0,1,2) j):=by
 intro j;unfold slf;rw [HI];rcases (by omega:min j 2=0∨min j 2=1∨min j 2=2) with h | h | h <;> rw [h] <;> decide +kernel
theorem Nh:Good (xB []).pts (xB []).tris:=(Gb aq dc_ dc_ dc_).1
def xW (i:Nat):List Rat:=if i<2 then [1/2,1/2,0] else if i=2 then [1,0,0] else [0,1,0]
def xR (i:Nat):List RowQ:=[⟨xW i,10-xD i⟩,⟨(xW i).map (-1*·), -(10-xD i)⟩]
theorem KQ:∀ i<4,((cD (xB []).col (xT i)).flatMap fun k=>[1, -1].map (gE (bs (xB [])) (bp (xB [])) k (atT (0,1,2) (wgt (xB []).pts (0,1,2) (xP i))) (10-xD i)))=xR i:=by decide +kernel
theorem JX (l:List Nat)(i:Nat)(a:i<4):rowsO (xB l) (xO i) (xP i) (0,1,2) 10=xR i:=by
 unfold rowsO;rw [aF (by show ¬ ((2:Int)=1);decide),aL (by rfl)];unfold kQ;rw [show (xO i).depth=xX i from rfl,KT i a,Hs i];exact KQ i a
theorem Nf:∀ i<4,∀ r∈xR i,M5 r:=by unfold M5;decide +kernel
theorem JY (i:Nat)(a:i<4):∀ r∈xR i,RowI r:=by
 have:∀ i<4,∀ r∈xR i,(r.f.all (wlB 2) && wlB 2 r.b)=true:=by decide +kernel
 exact fun r hr=>Ie 2 dc_ dc_ (this i a r hr)
theorem OG (i:Nat)(a:i<4):ObsR (xO i):=by
 have:∀ i<4,(xT i).name.length<=9/\(xT i).x.length<=9/\(xT i).y.length<=9/\(xT i).depth.length<=9:=by decide +kernel
 obtain ⟨h1,h2,h3,h4⟩:=this i a;rw [Hs i];exact ⟨by omega,by omega,by omega,by omega,(by decide:1<=999998),(by decide:1<=999998),(by decide:0<=999998),(by decide:0<=999998),(by decide:0<=999998)⟩
theorem KV {o:Obs}(h:(xB l).obs[k]?=some o):∃ i,l[k]?=some i/\o=xO i:=by
 have a:(l.map xO)[k]?=some o:=h;rw [Pi] at a;cases b:l[k]? with
 | none=>rw [b] at a;cases a
 | some i=>rw [b] at a;exact ⟨i,rfl,(QS a).symm⟩
structure XOk (l:List Nat):Prop where
 lt:∀ i∈l,i<4
 nd:(l.map xN).Nodup
 len:l.length<=4
theorem J0 {l:List Nat}(b:XOk l):∀ n,n<=l.length->uU (xB l) n=0
 | 0,_=>rfl
 | n+1,m=>by
  have d:=J0 b n om_;show (if uU (xB l) n≠0 then uU (xB l) n else obZ (xB l) ((xB l).obs.take n) ((xB l).obs.getD n IL))=0;rw [aF (by rw [d];decide)];have c:l[n]?=some l[n]:=ak om_;have f:(xB l).obs.getD n IL=xO l[n]:=Ko (by
   show (l.map xO)[n]?=_;rw [Pi,c];rfl)
  rw [f];unfold obZ;rw [aF (by rw [show gQ (xB l).pts (xB l).tris (xB l).col (xO l[n])=0 from x_ov _ (b.lt _ (Qa _))];decide),aF fun hm=>?_];obtain ⟨o,g,e⟩:=Pn.1 hm;obtain ⟨j,a⟩:=Q6 g;rw [P5] at a;split at a
  ·rename_i p;obtain ⟨i,h,rfl⟩:=KV a;have k:xN i=xN l[n]:=e;have h1:(l.map xN)[j]?=some (xN l[n]):=by rw [Pi,h];exact congrArg some k
   have h2:(l.map xN)[n]?=some (xN l[n]):=by rw [Pi,c];rfl
   have:=(List.getElem?_inj (by rw [al];omega) b.nd).1 (h1.trans h2.symm);omega
  cases a
theorem og (l:List Nat):(xB l).obs.length=l.length:=by simp [xB]
theorem OM (a:XOk l):ip (xB l)=0:=by
 unfold ip;have:=a.len;rw [aF (by show ¬ (yD (xB []).pts.length (xB []).terr≠0);decide +kernel),aF (by show ¬ (qX (xB []).col≠0);decide +kernel),aF (by rw [og];omega),og];exact J0 a _ (Pf _)
theorem ON (b:XOk l):BookR (xB l):=by
 refine ⟨by show ∀ x∈(xB []).terr,_;decide, ?_,by show (xB []).col.length<=_;decide,fun o c=>?_⟩
 ·intro x a;simp only [xB,Ps,Qh,Rz] at a;rcases a with rfl | rfl
  ·exact ⟨by decide +kernel,fun q h=>by simp at h,by decide⟩
  exact ⟨by decide +kernel,fun q h=>by simp at h,by decide⟩
 obtain ⟨k,d⟩:=Q6 c;obtain ⟨i,e,rfl⟩:=KV d;exact OG i (b.lt i (Pe e))
theorem Nj (l:List Nat)(i:Nat)(a:i<4):Fine (xB l) xFs (xO i) (xP i) 0 (0,1,2) 10:=by
 obtain ⟨f,b,c,d,e⟩:=JZ i a;refine ⟨⟨Z,Z,e,⟨bC b,bC c⟩,fun _=>OK i a⟩,⟨[],HA i a⟩,Z,Nb i a,by decide +kernel, ?_,x_w i a, ?_,x_sl,fun _ h=>absurd Z h, ?_⟩
 ·unfold kQ;rw [aL (by rfl),show (xO i).depth=xX i from rfl,KT i a];exact d
 ·exact (Nc i a).2.2.2
 rw [JX l i a];exact Nf i a
theorem Nd (l:List Nat):Terr (xB l) xFs:=⟨by simp [xB,xFs,NP],rfl,by decide +kernel⟩
def xRO (l:List Nat)(k:Nat):List RowQ:=xR (l.getD k 0)
theorem xH (b:XOk l):Calm (xB l) xFs (xRO l):=by
 have c:∀ k,k<l.length->l.getD k 0<4:=fun k d=>by
  rw [ax,ak d];exact b.lt _ (Qa _)
 have h4:=b.len;refine ⟨⟨Nh,ON b,OM b,Nd l,(by decide:3<=60),fun k o e=>?_⟩,(by decide:3<=12),fun r hr=>?_,fun i a=>JY _ (c i (by rw [og] at a;exact a)), ?_,fun i a=>(by show 2<=8;decide),by rw [og];omega⟩
 ·obtain ⟨i,a,rfl⟩:=KV e;have h1:=b.lt i (Pe a);refine ⟨_,_,_,_,Nj l i h1, ?_⟩;rw [JX l i h1,xRO,ax,a];rfl
 ·have:bI (xB l)=[]:=rfl;rw [this] at hr;cases hr
 have:bI (xB l)=[]:=rfl;rw [this];decide
theorem ok0:XOk [0]:=⟨by decide,by decide,by decide⟩
theorem ok01:XOk [0,1]:=⟨by decide,by decide,by decide⟩
theorem ok23:XOk [2,3]:=⟨by decide,by decide,by decide⟩
theorem rows0:dp (xB [0]) (xRO [0])=xR 0:=by rw [dp,ju,og];rfl
theorem NG:dp (xB [0,1]) (xRO [0,1])=xR 0++xR 1:=by rw [dp,ju,og];rfl
theorem NF:dp (xB [2,3]) (xRO [2,3])=xR 2++xR 3:=by rw [dp,ju,og];rfl
theorem OI:Lp.Val (ck 3 (eG (xR 0))) (fun j=>([1/2,1/2,0]:List Rat).getD j 0) 1 6:=by
 refine .inl ⟨Z,⟨fun _=>6,jf.2 aq,by decide +kernel⟩,fun y hy=>?_⟩;have h1:=jf.1 hy ⟨[-1/2, -1/2,0], -6⟩ aq;show _<=Lp.sumN _ 3;simp only [Lp.sumN,ax,List.getElem?_cons_zero,QR,Qx] at h1 ⊢;grind
theorem Ng:Lp.Val (ck 3 (eG (xR 0))) (fun j=>([-1/2, -1/2,0]:List Rat).getD j 0) 1 (-6):=by
 refine .inl ⟨Z,⟨fun _=>6,jf.2 aq,by decide +kernel⟩,fun y hy=>?_⟩;have h1:=jf.1 hy ⟨[1/2,1/2,0],6⟩ aq;show _<=Lp.sumN _ 3;simp only [Lp.sumN,ax,List.getElem?_cons_zero,QR,Qx] at h1 ⊢;grind
theorem x_no:¬ (ck 3 (eG (xR 0++xR 1))).Hold:=by
 rintro ⟨y,hy⟩;have h1:=jf.1 hy ⟨[-1/2, -1/2,0], -6⟩ aq;have h2:=jf.1 hy ⟨[1/2,1/2,0],5⟩ aq;simp only [Lp.sumN,ax,List.getElem?_cons_zero,QR,Qx] at h1 h2;grind
def es3:List (Nat × Nat):=[(0,1),(0,2),(1,2)]
theorem Ob:EdgL [(0,1,2)] es3:=by
 refine ⟨by simp [es3,ltP],fun e=>?_⟩;rw [show bO [(0,1,2)]=[(0,1),(1,2),(2,0)] from rfl];obtain ⟨x,y⟩:=e;simp only [es3,Ps,Qh,Rz,Ro];omega
theorem Oa:EdgeOk 1 3 es3:=⟨by decide⟩
theorem Ni:Lp.Val (ck (1*3+1*es3.length) (eG (uR (xR 2++xR 3) (1*3) 3 es3 (1*es3.length)))) (fun j=>(kb (1*3) (1*es3.length)).getD j 0) 1 6:=by
 refine .inl ⟨Z,⟨fun j=>([6,9,6,3,0,3]:List Rat).getD j 0,jf.2 aq,by decide +kernel⟩,fun y hy=>?_⟩;obtain ⟨h0,h2⟩:=(Kb Oa aq).1 hy;have h1:=jf.1 h0 ⟨[1,0,0],6⟩ aq;have h3:=jf.1 h0 ⟨[0, -1,0], -9⟩ aq;have k0:=xu.1 (h2 0 dc_);have k1:=xu.1 (h2 1 dc_);have k2:=xu.1 (h2 2 dc_);rw [show M4 3 es3 y 0=y 0-y 1 from rfl] at k0;rw [show M4 3 es3 y 1=y 0-y 2 from rfl] at k1;rw [show M4 3 es3 y 2=y 1-y 2 from rfl] at k2;rw [show Lp.sumN (fun j=>(kb (1*3) (1*es3.length)).getD j 0*y j) (ck (1*3+1*es3.length) (eG (uR (xR 2++xR 3) (1*3) 3 es3 (1*es3.length)))).n=_ from Fm (h:=1*3) (more:=1*es3.length)];show _<=Lp.sumN (fun k=>y (3+k)) 3;simp only [R0,Lp.sumN,ax,List.getElem?_cons_zero,QR,Qx,Q9,Nat.reduceAdd] at h1 h3 k0 k1 k2 ⊢;grind
abbrev tq (q:Rat):Value:=af (qtx q)
theorem oy (l:List Rat):(l.map aP).flatten=l.map tq:=ek tq l
theorem dW {l:List Rat}(h:i<l.length):aE (l.map tq) [tq x] i=(l.set i x).map tq:=by
 rw [List.set_eq_take_append_cons_drop,aL h];unfold aE;simp [List.map_drop]
theorem EG (n:Nat):List.replicate n (af [48])=(List.replicate n (0:Rat)).map tq:=by rw [gF,oy]
def xI (n a:Nat)(t:Tri)(w:Nat->Rat):Nat->List Rat
 | 0=>List.replicate n 0
 | j+1=>(xI n a t w j).set (a+gD t j) (w j)
theorem fg (n a:Nat)(t:Tri)(w:Nat->Rat):∀ j,(xI n a t w j).length=n
 | 0=>PB
 | j+1=>by rw [xI,P3,fg n a t w j]
theorem HD (C:Mem)(k:Tabs C)(f:Value)(B:Bk)(L:List Rat)(M:Nat->List RowQ)(s:Nat)(p:Pt)(i:Nat)(r:List Nat)(t:Tri)(b:BookIn C f B)(h:Calm B L M)(N:s<bs B)(x:QP 23 p)(y:PtR p)
  (O:kF B.pts B.tris p=i::r) (l:B.tris[i]?=some t) (Q:∀ j,QB 22 (wgt B.pts t p j)) :
  Pur cx.P 59 [f,.int .i64 s,ptV p] C fun u D=>∃ v,u=.tuple #[v,.int .i64 0]/\Sl D 1 v ((xI (bs B*bp B) (s*bp B) t (wgt B.pts t p) 3).map aP):=by
 have S:=b;have o:=h.rich.good;have T:=h.rich.bookz k b;have U:=h.n12;have V:=o.ok.ins t (Pe l);have q:∀ D:Mem,C.le D->Gives cx.P 92 [f] D (.tuple #[.int .i64 (bs B*bp B:Nat),.int .i64 0]):=fun D W=>by
  have h:=yO D f B 0 (T.mono W) om_;rw [aL rfl] at h;exact h
 obtain ⟨z,A,tv,cv,ov,rfl,h1,h2,h3,h4,h5⟩:=id b.ex;have hm:MeshIn C (.agg ⟨[z,A]⟩) B.pts B.tris:=⟨z,A,rfl,h1,h2⟩;obtain ⟨A1,c1,rfl,X,_⟩:=id h1;obtain ⟨A2,c2,rfl,Y,_⟩:=id h2;have aa:(B.pts.map fZ).length=bp B:=al _;have ab:(B.tris.map ic).length=B.tris.length:=al _;simp only [aa,ab] at h1 X h2 Y hm S q ⊢;have am:maxLen<=9223372036854775807:=by simp [maxLen]
 obtain ⟨n,E⟩:∃ n,bs B*bp B=n:=⟨_,rfl⟩;have c:∀ j,s*bp B+gD t j<n:=fun j=>by rw [<- E];exact Bc N (eI V j)
 rw [E] at q U ⊢;have an:=c 0;have ao:=c 1;have aq:=c 2;refine S4 func59 78 U3 fun w0=>?_;refine SX fun R a=>?_;refine Tf U6 (fun b3=>?_);refine Tf U6 (fun b5=>?_);refine C6 2 [1,3,5] a Z ?_;clear a R;refine G.freeze 1 Z (fun _ _ d=>?_);refine G.freeze 0 Z (fun _ _ F=>?_);refine SX fun R a=>?_;refine SU (bkT d 5) U8 ?_;refine S8 (q _ mup) U7 ?_;refine C6 5 [1,3,5,8,9] a Z ?_;clear a R;refine SR 2 [1,3,5,8,9,21] Z ?_;refine G.cd (fun H=>?_) fun H=>?_
 ·exact absurd H dc_
 refine SS 1 Z fun R a=>?_;refine SU (bkT d 2) U8 ?_;refine SU (bkT F 2) U8 ?_;refine Tv (lF _ k.m_ _ B.pts B.tris p hm.m_ o x y) U7 (fun ar _ _ ac=>?_);obtain ⟨wv,rfl,g⟩:=ac;rw [O] at g;obtain ⟨Aw,cw,rfl,_⟩:=id g;refine C6 5 [1,3,5,8,9,10] a Z ?_;clear a R;refine SR 2 [1,3,5,8,9,10,31] Z ?_;refine G.cd (fun I=>?_) fun I=>?_
 ·exact absurd I dc_
 refine SR 3 [1,3,5,8,10,35] Z ?_;refine G.cd (fun J=>?_) fun J=>?_
 ·exact absurd (OD J) ap
 refine Tg [0,1,2,3,4,5,6,7,8,9,10,11,12] [(6,1)] Z kr_ (fun R b a=>?_);refine SV U6 ?_;refine SU (bkT d 2) U8 ?_;refine SV U6 ?_;refine Ta g.m_ U10 om_ (rfl:(List.map aT (i::r))[0]?=some (aT i)) fl_ (fun au ad=>?_);refine SU ad U8 ?_;refine SU (bkT F 2) U8 ?_;refine Tu (fun _=>(vH _ k.m_ _ B.pts B.tris p i t hm.m_ o x y l Q)) U9 ?_;refine SZ 3 Z ?_;refine Te U5 (fun ae=>?_);refine S5 (j:=0) U12 ?_;refine SV U6 ?_;refine SY [1,3,8,9,10,11] a Z ?_;clear a b R;refine SR 2 [1,3,8,9,10,11,47] Z ?_;refine G.cd (fun K=>?_) fun K=>?_
 ·exact absurd K dc_
 refine Tk [(1,3)] Z (fun R a=>?_);refine SV U6 ?_;refine D.call (lL _ n om_) Z (.inr dc_) U6 (Pk _) fl_ (fun av _ aw _ af=>?_);refine C6 1 [1,3,10,11,12] a Z ?_;clear a R;obtain ⟨bz,rfl,rfl⟩:=af;refine G.freeze 1 Z (fun _ _ w=>?_);refine Tg [0,1,2,3,4,5,6,7,8] [] Z kr_ (fun R b a=>?_);refine SZ 2 Z ?_;refine SU (bkT d 1) U8 ?_;refine SV U6 ?_;refine Ta g.m_ U10 om_ (rfl:(List.map aT (i::r))[0]?=some (aT i)) fl_ (fun ax ag=>?_);refine SU ag U8 ?_;refine Ta h2.m_ U10 om_ (by rw [Pi,l];rfl:(B.tris.map ic)[i]?=some (ic t)) fl_ (fun ay ai=>?_);refine SU ai U8 ?_;refine SV U6 ?_;refine SY [1,3,11,12,58,59] a Z ?_;clear a b R;refine Tc (L':=[.arr (.slice (some ⟨bz,0,none⟩) n n) 32 1 n ((xI n (s*bp B) t (wgt B.pts t p) 0).map tq)]) (by rw [EG];rfl) ?_;refine G.loop (fun fr C' e μ=>∃ (j:Nat),(j<=3)/\fr=[(1,[],.int .i64 s),(3,[],.pointer (some ⟨b3,0,none⟩)),(11,[],.pointer (some ⟨ae,0,none⟩)),(12,[],.slice (some ⟨bz,0,none⟩) n n),(58,[],.agg ⟨ic t⟩),(59,[],.int .i64 j)]/\e=[.arr (.slice (some ⟨bz,0,none⟩) n n) 32 1 n ((xI n (s*bp B) t (wgt B.pts t p) j).map tq)]/\μ=3-j) (hn_ [1,3,11,12,58,59] Z) ⟨0,Pm _,Z,Z,Z⟩ (fun fr az aA m _ hI=>?_);obtain ⟨j,hj,rfl,rfl,rfl⟩:=hI;refine SR 1 [1,3,11,12,58,59,60] Z ?_;refine G.cd (fun h60=>?_) fun h60=>?_
 ·have aB:j<3:=by
   have:=OD h60;omega
  rcases (by omega:j=0∨j=1∨j=2) with rfl | rfl | rfl
  ·refine SS 1 Z fun R a=>?_;refine TN U11 (fun _=>⟨by omega,by omega,(show (ic t)[((0:Nat):Int).toNat]?=some (.int .i64 ((gD t 0:Nat):Int)) from by rw [<- zN];exact pR t dc_)⟩) U2 ?_;refine C6 2 [1,3,11,12,13,14,58,59] a Z ?_;clear a R;refine Tg [0,1,2,3,4,5,6,7,8,9,10,11,12,13] [] Z kr_ (fun R b a=>?_);refine SZ 4 Z ?_;refine SU (bkT d 1) U8 ?_;refine SV U6 ?_;refine S2 (((s*bp B:Nat):Int)) (PL _ _) U6 ?_;refine SV U6 ?_;refine Ts (((s*bp B+gD t 0:Nat):Int)) U4 om_ om_ om_ U2 ?_;refine SV U6 ?_;refine Ti (0) U9 ah U2 ?_;refine SU (bkT w 1) U8 ?_;refine Tm ((s*bp B+gD t 0)) U10 (fun _=>⟨by omega,by omega,(Ql _).symm⟩) U2 ?_;refine Tr (j:=0) U11 (by rw [al,fg];have:=c 0;simp;omega) ?_;refine SY [1,3,11,12,58,59] a Z ?_;clear a b R;refine SX fun R a=>?_;refine S2 _ Z U6 ?_;refine C6 1 [1,3,11,12,58,59] a Z ?_;clear a R;refine Tc (L':=[.arr (.slice (some ⟨bz,0,none⟩) n n) 32 1 n ((xI n (s*bp B) t (wgt B.pts t p) 1).map tq)]) (by rw [dW (by rw [fg];exact c 0)];rfl) ?_;refine S6 (m':=2) om_ mup (hn_ [1,3,11,12,58,59] Z) ⟨1,by decide,Z,Z,Z⟩
  ·refine SS 1 Z fun R a=>?_;refine TN U11 (fun _=>⟨by omega,by omega,(show (ic t)[((1:Nat):Int).toNat]?=some (.int .i64 ((gD t 1:Nat):Int)) from by rw [<- zN];exact pR t dc_)⟩) U2 ?_;refine C6 2 [1,3,11,12,13,14,58,59] a Z ?_;clear a R;refine Tg [0,1,2,3,4,5,6,7,8,9,10,11,12,13] [] Z kr_ (fun R b a=>?_);refine SZ 4 Z ?_;refine SU (bkT d 1) U8 ?_;refine SV U6 ?_;refine S2 (((s*bp B:Nat):Int)) (PL _ _) U6 ?_;refine SV U6 ?_;refine Ts (((s*bp B+gD t 1:Nat):Int)) U4 om_ om_ om_ U2 ?_;refine SV U6 ?_;refine Ti (1) U9 ah U2 ?_;refine SU (bkT w 1) U8 ?_;refine Tm ((s*bp B+gD t 1)) U10 (fun _=>⟨by omega,by omega,(Ql _).symm⟩) U2 ?_;refine Tr (j:=0) U11 (by rw [al,fg];have:=c 1;simp;omega) ?_;refine SY [1,3,11,12,58,59] a Z ?_;clear a b R;refine SX fun R a=>?_;refine S2 _ Z U6 ?_;refine C6 1 [1,3,11,12,58,59] a Z ?_;clear a R;refine Tc (L':=[.arr (.slice (some ⟨bz,0,none⟩) n n) 32 1 n ((xI n (s*bp B) t (wgt B.pts t p) 2).map tq)]) (by rw [dW (by rw [fg];exact c 1)];rfl) ?_;refine S6 (m':=1) om_ mup (hn_ [1,3,11,12,58,59] Z) ⟨2,by decide,Z,Z,Z⟩
  refine SS 1 Z fun R a=>?_;refine TN U11 (fun _=>⟨by omega,by omega,(show (ic t)[((2:Nat):Int).toNat]?=some (.int .i64 ((gD t 2:Nat):Int)) from by rw [<- zN];exact pR t dc_)⟩) U2 ?_;refine C6 2 [1,3,11,12,13,14,58,59] a Z ?_;clear a R;refine Tg [0,1,2,3,4,5,6,7,8,9,10,11,12,13] [] Z kr_ (fun R b a=>?_);refine SZ 4 Z ?_;refine SU (bkT d 1) U8 ?_;refine SV U6 ?_;refine S2 (((s*bp B:Nat):Int)) (PL _ _) U6 ?_;refine SV U6 ?_;refine Ts (((s*bp B+gD t 2:Nat):Int)) U4 om_ om_ om_ U2 ?_;refine SV U6 ?_;refine Ti (2) U9 ah U2 ?_;refine SU (bkT w 1) U8 ?_;refine Tm ((s*bp B+gD t 2)) U10 (fun _=>⟨by omega,by omega,(Ql _).symm⟩) U2 ?_;refine Tr (j:=0) U11 (by rw [al,fg];have:=c 2;simp;omega) ?_;refine SY [1,3,11,12,58,59] a Z ?_;clear a b R;refine SX fun R a=>?_;refine S2 _ Z U6 ?_;refine C6 1 [1,3,11,12,58,59] a Z ?_;clear a R;refine Tc (L':=[.arr (.slice (some ⟨bz,0,none⟩) n n) 32 1 n ((xI n (s*bp B) t (wgt B.pts t p) 3).map tq)]) (by rw [dW (by rw [fg];exact c 2)];rfl) ?_;refine S6 (m':=0) om_ mup (hn_ [1,3,11,12,58,59] Z) ⟨3,by decide,Z,Z,Z⟩
 have aj:j=3:=by
  have:=Pj h60;omega
 subst aj;refine SR 3 [6,7] Z ?_;rw [<- oy];refine G.freezeArr 0 ((xI n (s*bp B) t (wgt B.pts t p) 3).map aP) U2 bH (by rw [al,fg]) (fun Cf aC ak=>?_);refine S7 (G.dropAll (Tp U3 ?_));exact ⟨Z,_,Z,ak⟩
theorem vz {A B:List Value}{x:Value}(h:A.length=j):aE (A++x::B) [v] j=A++v::B:=by
 subst h;unfold aE;rw [List.take_left,aY];have:List.drop (A.length+1) (A++x::B)=B:=by rw [RN];simp
 rw [this];simp
theorem EZ (C:Mem)(G:Tabs C)(n:Nat)(l d:Value)(b:List (List Rat × Rat))(a:List Rat)(H:RowsT C l (b.map fo))(I:RowsQ n b)(J:∀ x∈a,QB 22 x)(K:∀ r∈b,(∀ x∈r.1,QB 22 x)/\QB 22 r.2)(M:n<=60)(z:a.length=n)(N:Lp.Lim (ck n b) (fun j=>a.getD j 0) 20) :
  Jog.Fn cx.P 21 [.agg ⟨[.int .i64 n,l,d]⟩] C [.arr d 32 1 n (a.map tq)] fun u _ g=>(∃ (kd:Int)(v:Rat)(i:Str)(o:Option Addr)(n1 p:Nat)(A2:Option Addr)(n2 c2:Nat)(q:Option Addr)(t w:Nat),
   u=.tuple #[.agg ⟨[.int .i64 kd,af i,.slice o n1 p,.slice A2 n2 c2,.slice q t w]⟩,.int .i64 0]/\(kd=1->i=qtx v)/\Lp.Val (ck n b) (fun j=>a.getD j 0) kd v/\QB 20 v)/\g=[.arr d 32 1 n (a.map tq)]:=by
 have h1:=Ur (P:=cx.P) (f:=21) (args:=[.agg ⟨[.int .i64 n,l,d]⟩]) (C:=C) (L:=[]) (v:=d) (e:=32) (s:=1) (m:=n) (rows:=a.map aP)
  (post:=fun u g=>g=[]/\∃ (kd:Int)(v:Rat)(i:Str)(o:Option Addr)(n1 p:Nat)(A2:Option Addr)(n2 c2:Nat)(q:Option Addr)(t w:Nat),
   u=.tuple #[.agg ⟨[.int .i64 kd,af i,.slice o n1 p,.slice A2 n2 c2,.slice q t w]⟩,.int .i64 0]/\(kd=1->i=qtx v)/\Lp.Val (ck n b) (fun j=>a.getD j 0) kd v/\QB 20 v) kr_ bH (by rw [al,z]) fun D B hs=>by
  refine Fn.mono (E0 D (G.mono B) n l d b a (H.mono B) hs I J K M z N) fun u E g _ ⟨h0,r,h1,h2⟩=>⟨h0, ?_⟩;subst h1;cases h2 with
  | opt val pt du O Q F k y =>
   obtain ⟨A,c,rfl,_⟩:=id k;obtain ⟨A2,c2,rfl,_⟩:=id y;exact ⟨1,val,_,_,_,_,_,_,_,_,_,_,Z,fun _=>rfl,F.val,F.qv⟩
  | inf du Q R k =>
   obtain ⟨A,c,rfl,_⟩:=id k;exact ⟨2,0,_,_,_,_,_,_,_,_,_,_,Z,fun h=>absurd h dc_,R.val 0,QB_zero.le dc_⟩
  | unb pt ra O T S k y =>
   obtain ⟨A,c,rfl,_⟩:=id k;obtain ⟨A2,c2,rfl,_⟩:=id y;exact ⟨3,0,_,_,_,_,_,_,_,_,_,_,Z,fun h=>absurd h dc_,S.val 0,QB_zero.le dc_⟩
 rw [oy] at h1;exact Fn.mono h1 fun u E U _ ⟨g,h2,h3,h4⟩=>⟨h4,by rw [h2,h3]⟩
def nF (k:Nat):Rat:=if k=0 then 1 else -1
def DM (kd:Int)(v:Rat):Str:=if kd=1 then qtx (1*v) else []
def nA (kd:Int)(v:Rat):Str:=if kd=1 then qtx (-1*v) else []
def sgL (c:List Rat)(k:Nat):List Rat:=c.map (nF k*·)
def KL (p:Lp.Sys)(c:List Rat)(u:Value):Prop:=∃ (kd1:Int)(v1:Rat)(kd2:Int)(v2:Rat),Lp.Val p (fun j=>(sgL c 0).getD j 0) kd1 v1/\(kd1≠2->Lp.Val p (fun j=>(sgL c 1).getD j 0) kd2 v2) /\
 ((kd1=2/\u=.tuple #[af [],af [],.int .i64 22])∨(kd1≠2/\u=.tuple #[af (DM kd1 v1),af (nA kd2 v2),.int .i64 0]))
theorem HF {p:Lp.Sys}{d:Nat->Rat}{c:Int}{v w:Rat}(h:Lp.Val p cc kd v)(k:Lp.Val p d c w)(f:kd≠2):c≠2:=by
 intro e;have b:¬ p.Hold:=by
  rcases k with ⟨a,_⟩ | ⟨_,b⟩ | ⟨a,_⟩
  ·rw [a] at e;cases e
  ·exact b
  rw [a] at e;cases e
 rcases h with ⟨_,⟨y,hy,_⟩,_⟩ | ⟨a,_⟩ | ⟨_,hh,_⟩
 ·exact b ⟨y,hy⟩
 ·exact f a
 exact b hh
theorem yh:qtx (-1)=[45,49]:=gJ (z:=-1) aq
theorem OR:[[af [49]],[af [45,49]]]=([1, -1]:List Rat).map aP:=by
 show _=[[af (qtx 1)],[af (qtx (-1))]];rw [Ik,yh]
theorem Er (a:k<2):([1, -1]:List Rat)[k]?=some (nF k):=by
 rcases (by omega:k=0∨k=1) with rfl | rfl <;> rfl
theorem vI (k:Nat):QB 22 (nF k):=by
 unfold nF;split
 ·decide +kernel
 decide +kernel
abbrev sO2 (A:Option Addr)(n c:Nat):Value:=.slice A n c
theorem F6 (C:Mem)(H:Tabs C)(O:Value)(B:Bk)(L:List Rat)(o:Nat->List RowQ)(s:Nat)(p:Pt)(i:Nat)(r:List Nat)(t:Tri)(x0:Str)(v:BookIn C O B)(h:Calm B L o)(hs:s<bs B)(hq:QP 23 p)(hr:PtR p)
  (hl:kF B.pts B.tris p=i::r) (ht:B.tris[i]?=some t) (Q:∀ j,QB 22 (wgt B.pts t p j)) (hv:DI B.pts B.tris L p=.tuple #[af x0,.int .i64 0])
  (S:∀ k,k<2->Lp.Lim (Ea B o) (fun j=>(sgL (xI (bs B*bp B) (s*bp B) t (wgt B.pts t p) 3) k).getD j 0) 20) :
  Pur cx.P 14 [O,.int .i64 s,ptV p] C fun u _=>KL (Ea B o) (xI (bs B*bp B) (s*bp B) t (wgt B.pts t p) 3) u:=by
 have aG:=v;have hG:=h.rich.good;have aH:=h.n12;have hS:=dm B.obs.length;have an:=h.rowsQ hS;have aI:=h.q22 hS;have T:=h.rich.terr;obtain ⟨b,X⟩:∃ b,xI (bs B*bp B) (s*bp B) t (wgt B.pts t p) 3=b:=⟨_,rfl⟩;have I:b.length=bs B*bp B:=by rw [<- X];exact fg _ _ _ _ _
 have Y:∀ x∈b,QB 22 x:=fun x c=>by
  rw [<- X] at c;simp only [xI] at c;rcases Qw c with c | rfl
  ·rcases Qw c with c | rfl
   ·rcases Qw c with c | rfl
    ·rw [(List.mem_replicate.1 c).2];exact QB_zero.le dc_
    exact Q 0
   exact Q 1
  exact Q 2
 have aa:=fun (D:Mem)(z:C.le D)=>HD D (H.mono z) O B L o s p i r t (v.mono z) h hs hq hr hl ht Q;rw [X] at aa S ⊢;have ab:=fun (D:Mem)(z:C.le D)=>kI D (H.mono z) O B L o (v.mono z) h;unfold Ea at S ⊢;obtain ⟨n,hn⟩:∃ n,bs B*bp B=n:=⟨_,rfl⟩;rw [hn] at I aH an ab S ⊢;obtain ⟨v1,v2,tv,cv,ov,rfl,h1,h2,h3,h4,h5⟩:=id v.ex;have hm:MeshIn C (.agg ⟨[v1,v2]⟩) B.pts B.tris:=⟨v1,v2,rfl,h1,h2⟩;rw [T.e,<- mM] at h3;have ao:=fun (D:Mem)(z:C.le D)=>zC D (H.mono z) (.agg ⟨[v1,v2]⟩) tv B.pts B.tris L 22 dc_ dc_ (hm.mono z) hG (h3.mono z) T.l T.q (J4 T) p hq hr;rw [hv] at ao;obtain ⟨A4,c4,rfl,aJ,_⟩:=id h4;have aK:(B.col.map uV).length=bs B+1:=by rw [al];have:=h.rich.scol.1;omega
 simp only [aK] at h4 aJ aG aa ab ⊢;have a0:maxLen<=9223372036854775807:=by simp [maxLen]
 refine S4 func14 110 U3 fun w0=>?_;refine SX fun R a=>?_;refine Tf U6 (fun b3=>?_);refine Tf U6 (fun b5=>?_);refine C6 3 [1,3,5] a Z ?_;clear a R;refine G.freeze 1 Z (fun _ _ M=>?_);refine G.freeze 0 Z (fun _ _ aq=>?_);refine Tk [(1,3)] Z (fun R a=>?_);refine SU (bkT M 5) U8 ?_;refine D.call (ab _ mup) Z (.inr dc_) U6 (Pk _) fl_ (fun a1 aL a2 _ aM=>?_);obtain ⟨Ar,cr,A,vs,rfl,ar,rfl⟩:=aM;refine SZ 3 Z ?_;refine Te U5 (fun b9=>?_);refine S5 (j:=0) U12 ?_;refine C6 1 [1,3,5,8,9] a Z ?_;clear a R;refine SR 2 [1,3,5,8,9,26] Z ?_;refine G.cd (fun au=>?_) fun au=>?_
 ·exact absurd au dc_
 refine SS 5 Z fun R a=>?_;refine Tn U6 (fun _=>PtrTo.blockT (Mem.get M mup) _ 1) U3 ?_;refine SV U6 ?_;refine S2 _ Z U6 ?_;refine SV U6 ?_;refine Tt U8 ?_;refine SY [1,3,5,9,37] a Z ?_;clear a R;refine G.cd (fun av=>?_) fun av=>?_
 ·exact absurd av ap
 refine SS 1 Z fun R a=>?_;refine SU (bkT M 2) U8 ?_;refine SV U6 ?_;refine SU (bkT M 1) U8 ?_;refine SU (bkT aq 2) U8 ?_;refine S8 (ao _ mup) U7 ?_;refine C6 5 [1,3,5,9,11] a Z ?_;clear a R;refine SR 2 [1,3,5,9,11,48] Z ?_;refine G.cd (fun aw=>?_) fun aw=>?_
 ·exact absurd aw dc_
 refine SX fun R a=>?_;refine SU (bkT M 5) U8 ?_;refine SV U6 ?_;refine SU (bkT aq 2) U8 ?_;refine Tv (aa _ mup) U7 (fun a3 _ _ aN=>?_);obtain ⟨uv,rfl,ac⟩:=aN;obtain ⟨Au,cu,rfl,_⟩:=id ac;simp only [al,I] at ac ⊢;refine C6 5 [8,9,12] a Z ?_;clear a R;refine SR 2 [8,9,12,58] Z ?_;refine G.cd (fun ax=>?_) fun ax=>?_
 ·exact absurd ax dc_
 refine SX fun R a=>?_;refine Te U5 (fun f=>?_);refine SY [9,12,13] a Z ?_;clear a R;refine G.freezeArr 2 (ay vs (dp B o)) U2 (bP _ _) (by rw [bA ar.1]) (fun _ _ aO=>?_);refine G.freeze 1 Z (fun aQ _ az=>?_);have aR:=nJ (RowsOk.m_ ar) (aO.mono mup:Sl aQ 2 _ _);refine SX fun R a=>?_;refine TH [[af [49]],[af [45,49]]] U12 fl_ (fun aA _ _ aB=>?_);refine C6 2 [9,12,13,60,61,62] a Z ?_;clear a R;rw [OR] at aB;refine G.perm (L':=[.arr (sO2 (some ⟨A,0,none⟩) n n) 32 1 n (List.replicate n (af [48])),.obj f (.cells ⟨[af (if 0<0 then DM 0 0 else []),af (if 1<0 then nA 0 0 else [])]⟩ 144 (0,0))]) (pkL [1,0] Z) ?_;refine G.loop (fun fr C' g μ=>∃ (k:Nat)(xs:List Value)(d:Int)(w1:Rat)(E:Int)(F:Rat),(k<=2/\xs.length=n/\(0<k->Lp.Val (ck n (eG (dp B o))) (fun j=>(sgL b 0).getD j 0) d w1/\d≠2)/\(1<k->Lp.Val (ck n (eG (dp B o))) (fun j=>(sgL b 1).getD j 0) E F))/\fr=[(9,[],.pointer (some ⟨b9,0,none⟩)),(12,[],.slice Au n cu),(13,[],.pointer (some ⟨f,0,none⟩)),(60,[],.slice (some ⟨aA,0,none⟩) 2 2),(61,[],.int .i64 2),(62,[],.int .i64 k)]/\g=[.arr (sO2 (some ⟨A,0,none⟩) n n) 32 1 n xs,.obj f (.cells ⟨[af (if 0<k then DM d w1 else []),af (if 1<k then nA E F else [])]⟩ 144 (0,0))]/\μ=2-k) (hn_ [9,12,13,60,61,62] Z) ⟨0,List.replicate n (af [48]),0,0,0,0,⟨Pm _,PB,fun h=>absurd h om_,fun h=>absurd h om_⟩,Z,Z,Z⟩ (fun fr a4 a5 m _ hI=>?_);obtain ⟨k,xs,d,w1,E,F,⟨hk,a6,J,aS⟩,rfl,rfl,rfl⟩:=hI;refine SR 1 [9,12,13,60,61,62,63] Z ?_;refine G.cd (fun ad=>?_) fun ad=>?_
 ·have U:k<2:=by
   have:=OD ad;omega
  refine SS 1 Z fun R a=>?_;refine Ta aB.m_ U10 om_ (by rw [Pi,Er U];rfl:(([1, -1]:List Rat).map aP)[k]?=some (aP (nF k))) fl_ (fun a7 aT=>?_);refine SU aT U8 ?_;refine C6 2 [9,12,13,14,15,60,61,62] a Z ?_;clear a R;refine SR 3 [9,12,13,14,15,60,61,62,67,68,69] Z ?_;refine Tc (L':=[.arr (sO2 (some ⟨A,0,none⟩) n n) 32 1 n (((b.take 0).map fun x=>tq (nF k*x))++xs.drop 0),.obj f (.cells ⟨[af (if 0<k then DM d w1 else []),af (if 1<k then nA E F else [])]⟩ 144 (0,0))]) am ?_;refine G.loop (fun fr C' g μ=>∃ (j:Nat),(j<=n)/\fr=[(9,[],.pointer (some ⟨b9,0,none⟩)),(12,[],.slice Au n cu),(13,[],.pointer (some ⟨f,0,none⟩)),(14,[],.int .i64 k),(15,[],af (qtx (nF k))),(60,[],.slice (some ⟨aA,0,none⟩) 2 2),(61,[],.int .i64 2),(62,[],.int .i64 k),(67,[],.slice Au n cu),(68,[],.int .i64 n),(69,[],.int .i64 j)]/\g=[.arr (sO2 (some ⟨A,0,none⟩) n n) 32 1 n (((b.take j).map fun x=>tq (nF k*x))++xs.drop j),.obj f (.cells ⟨[af (if 0<k then DM d w1 else []),af (if 1<k then nA E F else [])]⟩ 144 (0,0))]/\μ=n-j) (hn_ [9,12,13,14,15,60,61,62,67,68,69] Z) ⟨0,Pm _,Z,Z,Z⟩ (fun fr a8 a9 m _ hI=>?_);obtain ⟨j,hj,rfl,rfl,rfl⟩:=hI;refine SR 1 [9,12,13,14,15,60,61,62,67,68,69,70] Z ?_;refine G.cd (fun ag=>?_) fun ag=>?_
  ·have aC:j<n:=by
    have:=OD ag;omega
   obtain ⟨x,c⟩:∃ x,b[j]?=some x:=⟨b[j]'om_,ak om_⟩;have aU:xs.drop j=xs[j]'om_::xs.drop (j+1):=PI om_;have aD:((b.take j).map fun x=>tq (nF k*x)).length=j:=by rw [al,Pw];omega
   refine SS 1 Z fun R a=>?_;refine Ta ac.m_ U10 om_ (by rw [Pi,c];rfl:(b.map aP)[j]?=some (aP x)) fl_ (fun ba aV=>?_);refine SU aV U8 ?_;refine C6 2 [9,12,13,14,15,16,17,60,61,62,67,68,69] a Z ?_;clear a R;refine Tg [0,1,2,3,4,5,6,7] [(5,1),(1,0)] Z kr_ (fun R v a=>?_);refine SV U6 ?_;refine TS (fun _=>((bkT az 2).mono v)) U9 ?_;refine SZ 3 Z ?_;refine Tj (fun _=>(df _ H.m_ (nF k) x 22 dc_ dc_ (vI k) (Y x (Pe c)))) U9 ?_;refine Tm (j) U10 (fun _=>⟨by omega,by omega,(Ql _).symm⟩) U2 ?_;refine Tr (j:=0) U11 (by rw [Po,aD,Rj];simp;omega) ?_;refine SY [9,12,13,14,15,60,61,62,67,68,69] a Z ?_;clear a v R;refine SX fun R a=>?_;refine S2 _ Z U6 ?_;refine C6 1 [9,12,13,14,15,60,61,62,67,68,69] a Z ?_;clear a R;refine Tc (L':=[.arr (sO2 (some ⟨A,0,none⟩) n n) 32 1 n (((b.take (j+1)).map fun x=>tq (nF k*x))++xs.drop (j+1)),.obj f (.cells ⟨[af (if 0<k then DM d w1 else []),af (if 1<k then nA E F else [])]⟩ 144 (0,0))]) (by rw [aU,vz aD,PN,c];simp) ?_;refine S6 (m':=n-(j+1)) om_ mup (hn_ [9,12,13,14,15,60,61,62,67,68,69] Z) ⟨j+1,om_,Z,Z,Z⟩
  have aC:j=n:=by
   have:=Pj ag;omega
  subst aC;refine Tc (L':=[.arr (sO2 (some ⟨A,0,none⟩) j j) 32 1 j ((sgL b k).map tq),.obj f (.cells ⟨[af (if 0<k then DM d w1 else []),af (if 1<k then nA E F else [])]⟩ 144 (0,0))]) (by rw [PZ om_,QY om_,PF];unfold sgL;rw [Qe];rfl) ?_;refine Tk [(1,3)] Z (fun R a=>?_);refine SU (bkT az 3) U8 ?_;refine D.call (EZ _ H.m_ j _ _ (eG (dp B o)) (sgL b k) aR.m_ an (fun y hy=>by
   obtain ⟨x,c,rfl⟩:=Pn.1 hy;unfold nF;split
   ·rw [Rat.one_mul];exact Y x c
   rw [show (-1:Rat)*x=-x by grind];exact Lp.qb_neg (Y x c)) aI om_ (by unfold sgL;rw [al];exact I) (S k U)) rfl (.inr dc_) U6 (Pk _) fl_ (fun bb _ bc _ aW=>?_)
  obtain ⟨⟨kd,w,vt,A1,n1,bd,A2,n2,be,A3,n3,bf,rfl,aX,K,aE⟩,rfl⟩:=aW;refine SZ 3 Z ?_;refine Te U5 (fun bg=>?_);refine S5 (j:=0) U12 ?_;refine C6 1 [9,12,13,14,15,18,19,60,61,62] a Z ?_;clear a R;refine G.freeze 0 Z (fun aL _ V=>?_);refine SR 3 [9,12,13,14,15,18,19,60,61,62,87] Z ?_;refine G.cd (fun aF=>?_) fun aF=>?_
  ·exact absurd aF dc_
  refine SS 1 Z fun R a=>?_;refine SU (bkT V 1) U8 ?_;refine C6 2 [9,12,13,14,15,18,60,61,62,91] a Z ?_;clear a R;refine G.cd (fun ai=>?_) fun ai=>?_
  ·have N:kd=2:=by simpa using ai
   have aZ:k=0:=by
    rcases Qj k with h | h
    ·exact h
    exact absurd N (HF (J h).1 K (J h).2)
   subst aZ;refine SR 3 [6,7,8] Z ?_;refine S7 (G.dropAll (TR U4 ?_));exact ⟨Z,kd,w,0,0,K,fun h=>absurd N h,.inl ⟨N,Z⟩⟩
  have N:kd≠2:=by simpa using ai
  refine SS 1 Z fun R a=>?_;refine SU (bkT V 1) U8 ?_;refine C6 2 [9,12,13,14,15,18,60,61,62,95] a Z ?_;clear a R;refine G.cd (fun aj=>?_) fun aj=>?_
  ·have W:kd=1:=by simpa using aj
   obtain rfl:=aX W;subst W;rcases (by omega:k=0∨k=1) with rfl | rfl
   ·refine SS 3 Z fun R a=>?_;refine SU (bkT V 1) U8 ?_;refine Tb (df _ H.m_ (nF 0) w 22 dc_ dc_ (vI 0) (aE.le dc_)) U7 fl_ ?_;refine Ti (0) U9 ah U2 ?_;refine S5 (j:=1) U12 ?_;refine SY [9,12,13,60,61,62] a Z ?_;clear a R;refine SX fun R a=>?_;refine S2 _ Z U6 ?_;refine C6 1 [9,12,13,60,61,62] a Z ?_;clear a R;refine G.perm (L':=[.arr (sO2 (some ⟨A,0,none⟩) j j) 32 1 j ((sgL b 0).map tq),.obj f (.cells ⟨[af (if 0<1 then DM 1 w else []),af (if 1<1 then nA 0 0 else [])]⟩ 144 (0,0))]) (pkL [1,0] Z) ?_;refine S6 (m':=1) om_ mup (hn_ [9,12,13,60,61,62] Z) ⟨1,(sgL b 0).map tq,1,w,0,0,⟨by decide,by unfold sgL;simp [I],fun _=>⟨K,by decide⟩,fun h=>absurd h dc_⟩,Z,Z,Z⟩
   refine SS 3 Z fun R a=>?_;refine SU (bkT V 1) U8 ?_;refine Tb (df _ H.m_ (nF 1) w 22 dc_ dc_ (vI 1) (aE.le dc_)) U7 fl_ ?_;refine Ti (1) U9 ah U2 ?_;refine S5 (j:=1) U12 ?_;refine SY [9,12,13,60,61,62] a Z ?_;clear a R;refine SX fun R a=>?_;refine S2 _ Z U6 ?_;refine C6 1 [9,12,13,60,61,62] a Z ?_;clear a R;refine G.perm (L':=[.arr (sO2 (some ⟨A,0,none⟩) j j) 32 1 j ((sgL b 1).map tq),.obj f (.cells ⟨[af (if 0<2 then DM d w1 else []),af (if 1<2 then nA 1 w else [])]⟩ 144 (0,0))]) (pkL [1,0] Z) ?_;refine S6 (m':=0) om_ mup (hn_ [9,12,13,60,61,62] Z) ⟨2,(sgL b 1).map tq,d,w1,1,w,⟨by decide,by unfold sgL;simp [I],fun _=>J dc_,fun _=>K⟩,Z,Z,Z⟩
  have W:kd≠1:=by simpa using aj
  refine SX fun R a=>?_;refine S2 _ Z U6 ?_;refine C6 1 [9,12,13,60,61,62] a Z ?_;clear a R;refine Tc (L':=[.arr (sO2 (some ⟨A,0,none⟩) j j) 32 1 j ((sgL b k).map tq),.obj f (.cells ⟨[af (if 0<k+1 then DM (if k=0 then kd else d) (if k=0 then w else w1) else []),af (if 1<k+1 then nA (if k=0 then 0 else kd) (if k=0 then 0 else w) else [])]⟩ 144 (0,0))]) (by rcases (by omega:k=0∨k=1) with rfl | rfl <;> simp [DM,nA,W]) ?_;refine S6 (m':=2-(k+1)) om_ mup (hn_ [9,12,13,60,61,62] Z) ⟨k+1,(sgL b k).map tq,if k=0 then kd else d,if k=0 then w else w1,if k=0 then 0 else kd,if k=0 then 0 else w,⟨by omega,by unfold sgL;simp [I],fun _=>by
   rcases (by omega:k=0∨k=1) with rfl | rfl
   ·exact ⟨K,N⟩
   ·exact J dc_,fun h=>by
   obtain rfl:k=1:=by omega
   exact K⟩,Z,Z,Z⟩
 have U:k=2:=by
  have:=Pj ad;omega
 subst U;refine Tg [0,1,2,3,4,5,6] [] Z kr_ (fun R v a=>?_);refine Ti (0) U9 ah U2 ?_;refine S1 ae U9 ?_;refine Ti (1) U9 ah U2 ?_;refine S1 ae U9 ?_;refine SZ 3 Z ?_;refine SY [6,7,8] a Z ?_;clear a v R;refine S7 (G.dropAll (TR U4 ?_));exact ⟨Z,d,w1,E,F,(J dc_).1,fun _=>aS dc_,.inr ⟨(J dc_).2,Z⟩⟩
end Go.Proofs.YtfjcldheldflbaaGreatDoor
