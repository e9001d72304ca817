/- Laws that the proofs of this seat share, part 14. -/
import Derived.Test.YtfjcldheldflbaaGreatDoorG13
import Derived.Test.YtfjcldheldflbaaGreatDoorShelf
set_option maxHeartbeats 4000000
namespace Go.Proofs.YtfjcldheldflbaaGreatDoor
open Go.Proofs.Tryz
open Go Go.Jog
set_option maxRecDepth 100000
variable {cc:Nat->Rat}{e:Nat × Nat}{es:List (Nat × Nat)}{h i j k:Nat}{kd:Int}{ks:List fo}{l:List Nat}{m more n p:Nat}{pt:Nat->Rat}{r:RowQ}{rows:List RowQ}{s:Nat}{sg:Rat}{tris:List Tri}{u v:Value}{vs:List Value}{w:Value}{x:Rat}{y:Nat->Rat}
theorem SolO.mono {p:Lp.Sys}{d:Nat->Rat}{D E:Mem}{u:Value}(h:SolO p d D u)(a:D.le E):SolO p d E u:=by
 cases h with
 | opt val pt du b c e h1 h2=>exact .opt val pt du b c e (h1.mono a) (h2.mono a)
 | inf du c f h1=>exact .inf du c f (h1.mono a)
 | unb pt ra b g i h1 h2=>exact .unb pt ra b g i (h1.mono a) (h2.mono a)
theorem SolO.m_ {p:Lp.Sys}{D E:Mem}(h:SolO p cc D u)(a:D.le E:=by exact mup):SolO p cc E u:=SolO.mono h a
theorem vw {p:Lp.Sys}{D:Mem}(h:SolO p cc D u):∃ (kd:Int)(val:Str)(e g i:Value)(a b c:List Rat),u=.agg ⟨[.int .i64 kd,ah val,e,g,i]⟩/\Sl D 1 e (a.map aQ)/\Sl D 1 g (b.map aQ)/\Sl D 1 i (c.map aQ) /\
  (∀ x∈a,QB 20 x)/\(∀ x∈b,QB 20 x)/\(∀ x∈c,QB 20 x)/\a.length<=p.n/\b.length<=p.m/\c.length<=p.n/\(kd=1->∃ q,val=qtx q/\QB 20 q):=by
 have hr:∀ (n:Nat)(f:Nat->Rat),(∀ j,QB 20 (f j))->∀ x∈(List.range n).map f,QB 20 x:=fun n f o x d=>by
  obtain ⟨j,_,rfl⟩:=PF.1 d;exact o j
 cases h with
 | opt val pt du e g k h1 h2=>exact ⟨1,qtx val,e,g,.slice none 0 0,_,_,[],rfl,h1,h2,Sl.nil _ _,hr _ _ k.qp,hr _ _ k.qd,fun x d=>(by cases d),by simp,by simp,PG _,fun _=>⟨val,rfl,k.qv⟩⟩
 | inf du g r h1=>exact ⟨2,[],.slice none 0 0,g,.slice none 0 0,[],_,[],rfl,Sl.nil _ _,h1,Sl.nil _ _,fun x d=>(by cases d),hr _ _ r.qd,fun x d=>(by cases d),PG _,by simp,PG _,fun h=>absurd h dc_⟩
 | unb pt ra e i l h1 h2=>exact ⟨3,[],e,.slice none 0 0,i,_,[],_,rfl,h1,Sl.nil _ _,h2,hr _ _ l.qp,fun x d=>(by cases d),hr _ _ l.qr,by simp,PG _,by simp,fun h=>absurd h dc_⟩
theorem sH {l:List Rat}(h:∀ x∈l,QB 22 x):(l.map qtx).all aV=true:=PT.2 fun s hs=>by
 obtain ⟨x,a,rfl⟩:=PF.1 hs;exact bC (h x a)
theorem oP {n:Nat}:∀ {rs:List (List Rat × Rat)},(∀ r∈rs,r.1.length=n)->(∀ r∈rs,(∀ x∈r.1,QB 22 x)/\QB 22 r.2)->tw n (rs.map fP)=0
 | [],_,_=>rfl
 | r::rs,b,a=>by
  have e:tw n ((r::rs).map fP)=if Ez n (fP r)≠0 then Ez n (fP r) else tw n (rs.map fP):=rfl;have h0:Ez n (fP r)=0:=Ey.2 ⟨rS.2 ⟨by show ((r.1.map qtx).length:Int)=n;rw [am,b r PB],sH (a r PB).1⟩,bC (a r PB).2⟩;rw [e,aF fun h=>h h0];exact oP (fun r hr=>b r (PK _ hr)) fun r hr=>a r (PK _ hr)
theorem sz {a:List (List Rat × Rat)}{b:List Rat}(g:n<=60)(i:a.length<=300)(c:∀ r∈a,r.1.length=n)(d:∀ r∈a,(∀ x∈r.1,QB 22 x)/\QB 22 r.2)(e:b.length=n)(f:∀ x∈b,QB 22 x):Hq n (a.map fP) (b.map qtx)=0:=by
 unfold Hq;rw [aF om_,aF (by rw [am];omega),aF fun h=>h (rS.2 ⟨by rw [am,e],sH f⟩)];exact oP c d
theorem EW (C:Mem)(o:Tabs C)(n:Nat)(g i:Value)(d:List (List Rat × Rat))(f:List Rat)(k:RowsT C g (d.map fP))(v:Sl C 1 i (f.map aQ))(p:RowsQ n d)(w:∀ x∈f,QB 22 x)(y:∀ r∈d,(∀ x∈r.1,QB 22 x)/\QB 22 r.2)(L:n<=60)(z:f.length=n)(M:Lp.Lim (ci n d) (fun j=>f.getD j 0) 20) :
  Pur cx.P 21 [.agg ⟨[.int .i64 n,g,i]⟩] C fun u D=>∃ r,u=.tuple #[r,.int .i64 0]/\SolO (ci n d) (fun j=>f.getD j 0) D r:=by
 have Y:maxLen<=9223372036854775807:=by simp [maxLen]
 have hm:=p.m;have N:Hq n (d.map fP) (f.map qtx)=0:=sz L om_ p.l y z w;have O:∀ D:Mem,C.le D->Gives cx.P 73 [.agg ⟨[.int .i64 n,g,i]⟩] D (.int .i64 0):=fun D q=>by
  have h:=vV D (o.mono q) n g i (d.map fP) (f.map qtx) (k.mono q) (by rw [<- wG];exact v.mono q) (fun r k=>by
   obtain ⟨r,Q,rfl⟩:=PF.1 k;obtain ⟨h1,h2⟩:=y r Q;refine ⟨fun s hs=>?_,PP (bl h2 dc_) dc_⟩;obtain ⟨x,t,rfl⟩:=PF.1 hs;exact PP (bl (h1 x t) dc_) dc_) (fun s hs=>by
   obtain ⟨x,t,rfl⟩:=PF.1 hs;exact PP (bl (w x t) dc_) dc_)
  rw [N] at h;exact h
 refine Tk func21 19 U3 fun w0=>Tf fun R e=>Tv U6 fun b1=>Tq U5 fun b2=>C6 1 [1,2] e Z<|G.freeze 1 Z fun _ _ A=>Tf fun R e=>Td (bkT A 3) U8<|To (O _ mup) U7<|C6 1 [1,2,4] e Z<|Tb 2 [1,2,4,9] Z<|G.cd (fun B=>?_) fun B=>?_
 ·exact absurd B dc_
 refine Tf fun R e=>Td (bkT A 3) U8<|TG (zP _ o.m_ n g i d f k.m_ v.m_ p om_ z M) U7 fl_ (fun aa _ _ E=>?_);obtain ⟨kd,val,vp,vd,vr,a,b,c,rfl,F,H,I,S,qb,T,U,V,W,X⟩:=vw E;obtain ⟨Ap,cp,rfl,_⟩:=id F;obtain ⟨Ad,cd,rfl,_⟩:=id H;obtain ⟨Ar,cr,rfl,_⟩:=id I;refine Tq U5 fun b5=>Tj (j:=0) U12<|Th [2,5] e Z<|G.freeze 0 Z fun _ _ J=>Tf fun R e=>Td (bkT J 5) U8<|Ts (zS _ o.m_ kd val _ _ _ a b c F.m_ H.m_ I.m_ S qb T (PP U (by show n<=_;omega)) (PP V (by show d.length<=_;omega)) (PP W (by show n<=_;omega)) X) U7 fl_<|C6 1 [2,5,16] e Z<|G.cd (fun K=>?_) fun K=>?_
 ·exact absurd K dc_
 refine Tf fun R e=>Td (bkT J 5) U8<|Tj (j:=0) U12<|C6 1 [2,3] e Z<|Tn (Uz ag U5 ?_);exact ⟨Z,_,Z,E.mono mup⟩
inductive FeaO (p:Lp.Sys) (D:Mem):Value->Prop where
 | yes (pt:Nat->Rat) (vp:Value):p.At pt->Lp.CmD p.n 20 pt->(∀ j,QB 20 (pt j))->Sl D 1 vp (((List.range p.n).map pt).map aQ)->FeaO p D (.tuple #[vp,.agg ⟨[.slice none 0 0]⟩,.bool true,.int .i64 0])
 | no (du:Nat->Rat) (vd:Value):Lp.InfR p 20 du->Sl D 1 vd (((List.range p.m).map du).map aQ)->FeaO p D (.tuple #[.slice none 0 0,.agg ⟨[vd]⟩,.bool false,.int .i64 0])
theorem HO {p:Lp.Sys}{D:Mem}{f a b e:Value}(h:SolO p cc D (.agg ⟨[.int .i64 kd,f,a,b,e]⟩)) :
  (kd=2/\∃ du,Lp.InfR p 20 du/\Sl D 1 b (((List.range p.m).map du).map aQ))∨(kd≠2/\∃ pt,p.At pt/\Lp.CmD p.n 20 pt/\(∀ j,QB 20 (pt j))/\Sl D 1 a (((List.range p.n).map pt).map aQ)):=by
 cases h with
 | opt w pt du a b c h1 h2=>exact .inr ⟨by decide,pt,c.row,c.cd,c.qp,h1⟩
 | inf du b g h1=>exact .inl ⟨rfl,du,g,h1⟩
 | unb pt ra a e d h1 h2=>exact .inr ⟨by decide,pt,d.row,d.cd,d.qp,h1⟩
theorem ld (n:Nat):List.replicate n (ah [48])=((List.replicate n (0:Rat)).map aQ).flatten:=by
 rw [Sd,Pd];induction n with
 | zero=>rfl
 | succ n a=>rw [QC,QC,QI,a];rfl
theorem EB (n j:Nat):(List.replicate n (0:Rat)).getD j 0=0:=by
 rw [ay,Q2];split <;> rfl
theorem Iy (C:Mem)(t:Tabs C)(n:Nat)(g k:Value)(f:List (List Rat × Rat))(i:List Rat)(o:RowsT C g (f.map fP))(v:Sl C 1 k (i.map aQ))(w:RowsQ n f)(A:∀ x∈i,QB 22 x)(B:∀ r∈f,(∀ x∈r.1,QB 22 x)/\QB 22 r.2)(N:n<=60)(O:i.length=n)(Q:Lp.Lim (ci n f) (fun _=>0) 20) :
  Pur cx.P 43 [.agg ⟨[.int .i64 n,g,k]⟩] C fun u D=>FeaO (ci n f) D u:=by
 have ah:maxLen<=9223372036854775807:=by simp [maxLen]
 have hm:=w.m;have S:Hq n (f.map fP) (i.map qtx)=0:=sz N om_ w.l B O A;have T:∀ D:Mem,C.le D->Gives cx.P 73 [.agg ⟨[.int .i64 n,g,k]⟩] D (.int .i64 0):=fun D y=>by
  have h:=vV D (t.mono y) n g k (f.map fP) (i.map qtx) (o.mono y) (by rw [<- wG];exact v.mono y) (fun r o=>by
   obtain ⟨r,U,rfl⟩:=PF.1 o;obtain ⟨h1,h2⟩:=B r U;refine ⟨fun s hs=>?_,PP (bl h2 dc_) dc_⟩;obtain ⟨x,z,rfl⟩:=PF.1 hs;exact PP (bl (h1 x z) dc_) dc_) (fun s hs=>by
   obtain ⟨x,z,rfl⟩:=PF.1 hs;exact PP (bl (A x z) dc_) dc_)
  rw [S] at h;exact h
 have V:Lp.Lim (ci n f) (fun j=>(List.replicate n (0:Rat)).getD j 0) 20:=by
  have e:(fun j=>(List.replicate n (0:Rat)).getD j 0)=fun _=>(0:Rat):=funext (EB n);rw [e];exact Q
 refine Tk func43 32 U3 fun w0=>Tf fun R d=>Tv U6 fun b1=>Te U6<|Tq U5 fun b3=>C6 2 [1,3] d Z<|Tf fun R d=>Ti af U9<|To (T _ mup) U7<|C6 1 [1,3,6] d Z<|Tb 2 [1,3,6,11] Z<|G.cd (fun E=>?_) fun E=>?_
 ·exact absurd E dc_
 refine TC [(2,3)] Z fun R d=>Te U6<|Ti af U9<|D.call (iN _ n om_) Z (.inr dc_) U6 (PC _) fl_ (fun ai _ aj _ W=>?_);obtain ⟨bz,rfl,rfl⟩:=W;rw [ld];refine Te U6<|Tj (j:=2) U12<|Th [1,3] d Z<|G.freezeArr 1 ((List.replicate n (0:Rat)).map aQ) Z Z bS ap fun _ _ X=>G.freeze 0 Z fun _ _ Y=>Tf fun R d=>Td (bkT Y 3) U8<|TG (zP _ t.m_ n g _ f (List.replicate n 0) o.m_ X.m_ w om_ ap V) U7 fl_ (fun ak _ _ F=>?_);obtain ⟨kd,val,vp,vd,vr,a,b,c,rfl,H,I,J,qa,qb,qc,aa,ab,ac,hv⟩:=vw F;have K:=HO F;obtain ⟨Ap,cp,rfl,_⟩:=id H;obtain ⟨Ad,cd,rfl,_⟩:=id I;obtain ⟨Ar,cr,rfl,_⟩:=id J;refine Tq U5 fun b7=>Tj (j:=0) U12<|Th [3,7] d Z<|G.freeze 0 Z fun _ _ p=>Tf fun R d=>Td (bkT p 5) U8<|Ts (zS _ t.m_ kd val _ _ _ a b c H.m_ I.m_ J.m_ qa qb qc (PP aa (by show n<=_;omega)) (PP ab (by show f.length<=_;omega)) (PP ac (by show n<=_;omega)) hv) U7 fl_<|C6 1 [3,7,22] d Z<|G.cd (fun L=>?_) fun L=>?_
 ·exact absurd L dc_
 refine Tc 1 Z fun R d=>Td (bkT p 1) U8<|C6 1 [3,7,26] d Z<|G.cd (fun q=>?_) fun q=>?_
 ·refine Tx [0,1,2,3,4,5] [(1,0)] Z kr_ fun R M d=>Te U6<|Uk (fun _=>((bkT p 1).mono M)) U9<|Te U6<|Tj (j:=0) U12<|Tg 2 Z<|Th [2,3,4,5] d Z ?_;clear d M R;refine Tn (UC ag U7 ?_);refine ⟨Z, ?_⟩;rcases K with ⟨_,du,hi,h1⟩ | ⟨h,_⟩
  ·exact .no du _ hi h1.m_
  exact absurd (by simpa using q) h
 refine Tc 1 Z fun R d=>Td (bkT p 1) U8<|Tw ([.slice none 0 0]) U8<|Te U6<|Tj (j:=0) U12<|C6 2 [2,3,4,5] d Z<|Tn (UC ag U7 ?_);refine ⟨Z, ?_⟩;rcases K with ⟨h,_⟩ | ⟨_,pt,v,ad,ae,h1⟩
 ·rw [h] at q;cases q
 exact .yes pt _ v ad ae h1.m_
def prC (vs:List Value)(l:List SrcQ):List (List Value):=aE vs (l.map SrcQ.r)
theorem Ir {l:List SrcQ}{s:SrcQ}(a:vs.length=l.length)(c:vs[i]?=some w)(d:l[i]?=some s):prC (vs.take (i+1)) (l.take (i+1))=prC (vs.take i) (l.take i)++[[w,ah (qtx s.r.b)]]:=by
 unfold prC;rw [P0,P0,c,d,Qb];exact eB (by simp [a]) w s.r
theorem Nx {l:List SrcQ}{s:SrcQ}(a:vs[i]?=some w)(c:l[i]?=some s):(ck vs l)[i]?=some [.int .i64 s.n,w,ah (qtx s.r.b)]:=by
 unfold ck;rw [List.getElem?_zipWith,a,c]
theorem tx {C:Mem}(h:RowsOk C vs rows)(b:Sl C 2 v (aE vs rows)):RowsT C v ((eQ rows).map fP):=by
 refine ⟨vs,by rw [h.1];simp [eQ],fun i w r c hr=>?_, ?_⟩
 ·rw [eQ,Qv,PD] at hr;cases a:rows[i]? with
  | none=>rw [a] at hr;cases hr
  | some x =>
   rw [a] at hr;cases hr
   have:=h.2 i w x c a;show Sl C 1 w ((x.f.map qtx).map yH);rw [<- wG];exact this
 have e:List.zipWith (fun w (r:List Str × Str)=>[w,ah r.2]) vs ((eQ rows).map fP)=aE vs rows:=by
  unfold eQ aE;rw [Qv,List.zipWith_map_right];rfl
 rw [e];exact b
structure Calm (B:Bk)(fs:List Rat)(RO:Nat->List RowQ):Prop where
 rich:Rich B fs RO
 n12:bs B*bp B<=12
 thI:∀ r∈bH B,RowI r
 roI:∀ i,i<B.obs.length->∀ r∈RO i,RowI r
 th:(bH B).length<=24
 ro:∀ i,i<B.obs.length->(RO i).length<=8
 ob:B.obs.length<=12
structure SetIn (n:Nat)(l:List Nat):Prop where
 lt:∀ i∈l,i<n
 nd:l.Nodup
def qO (B:Bk)(RO:Nat->List RowQ)(l:List Nat):List RowQ:=(bQ (bH B) RO l).map SrcQ.r
theorem js {B:Bk}{a:Nat->List RowQ}:qO B a l=bH B++l.flatMap a:=by
 unfold qO bQ kg;rw [Qb,Qv,List.map_flatMap];congr 1
 ·exact List.map_id _
 congr 1;funext i;rw [Qv];exact List.map_id _
theorem SetIn.len (h:SetIn n l):l.length<=n:=by
 have:=List.Nodup.length_le_of_subset (l₂:=List.range n) h.nd fun v a=>PS.2 (h.lt v a)
 rwa [QS] at this
section
variable {B:Bk} {fs:List Rat} {RO:Nat->List RowQ} {l:List Nat}
theorem Oj {c:Nat}{f:Nat->List RowQ}:∀ {l:List Nat},(∀ i∈l,(f i).length<=c)->(l.flatMap f).length<=c*l.length
 | [],_=>PG _
 | i::l,h=>by
  rw [List.flatMap_cons,PH,PR,Nat.mul_succ];have h1:=h i PB;have h2:=Oj (l:=l) fun j a=>h j (PK _ a);omega
theorem Calm.cnt (h:Calm B fs RO)(a:SetIn B.obs.length l):(qO B RO l).length<=120:=by
 rw [js,PH];have h1:=Oj (c:=8) (f:=RO) fun i b=>h.ro i (a.lt i b);have h2:=a.len;have h3:=h.ob;have h4:=h.th;omega
theorem Calm.rowI (h:Calm B fs RO)(a:SetIn B.obs.length l):∀ r∈qO B RO l,RowI r:=by
 intro r hr;rw [js] at hr;rcases PQ.1 hr with hr | hr
 ·exact h.thI r hr
 obtain ⟨i,b,hr⟩:=List.mem_flatMap.1 hr;exact h.roI i (a.lt i b) r hr
theorem vl {s p:Nat}{a:List Lay}:∀ n,∀ r∈bi s p a n,r.f.length=s*p
 | 0,r,hr=>by cases hr
 | n+1,r,hr=>by
  rcases PQ.1 hr with hr | hr
  ·exact vl n r hr
  have:∀ k,∀ r∈bq s p (a.getD (n+1) ⟨[],0,none⟩) (n+1) k,r.f.length=s*p:=by
   intro k;induction k with
   | zero=>intro r hr;cases hr
   | succ k b =>
    intro r hr;rcases PQ.1 hr with hr | hr
    ·exact b r hr
    unfold ni at hr;rcases PN.1 hr with rfl | hr
    ·exact jv _ _
    split at hr
    ·cases hr
    rw [PU.1 hr];exact jv _ _
  exact this p r hr
theorem Nr {D:Int}{q:Rat}(h:Wl D q)(a:D≠0)(b:D.natAbs<=999999999):QB 1 q:=by
 obtain ⟨z,h1,h2⟩:=h;exact LL a h1 om_ om_
theorem RowI.q {r:RowQ}(h:RowI r):(∀ x∈r.f,QB 1 x)/\QB 1 r.b:=by
 obtain ⟨D,h0,a,h1,h2⟩:=h;exact ⟨fun x c=>Nr (h1 x c) h0 a,Nr h2 h0 a⟩
theorem nN {a:List RowQ}{P:List Rat × Rat->Prop}(h:∀ r∈a,P (r.f,r.b)):∀ x∈eQ a,P x:=fun x c=>by
 obtain ⟨r,hr,rfl⟩:=PF.1 c;exact h r hr
theorem Calm.q22 (h:Calm B fs RO)(a:SetIn B.obs.length l):∀ r∈eQ (qO B RO l),(∀ x∈r.1,QB 22 x)/\QB 22 r.2 :=
 nN (P:=fun r=>(∀ x∈r.1,QB 22 x)/\QB 22 r.2) fun r hr=>⟨fun x b=>((h.rowI a r hr).q.1 x b).le dc_,(h.rowI a r hr).q.2.le dc_⟩
theorem Calm.rowsQ (h:Calm B fs RO)(a:SetIn B.obs.length l):RowsQ (bs B*bp B) (eQ (qO B RO l)):=by
 refine ⟨nN (P:=fun r=>r.1.length=bs B*bp B) fun r hr=>?_,fun r hr=>⟨fun x b=>((h.q22 a r hr).1 x b).le dc_,(h.q22 a r hr).2.le dc_⟩, ?_⟩
 ·rw [js] at hr;rcases PQ.1 hr with hr | hr
  ·exact vl _ r hr
  obtain ⟨i,c,hr⟩:=List.mem_flatMap.1 hr;exact (oQ h.rich (a.lt i c)).2 r hr
 have:=h.cnt a;rw [eQ,am];omega
theorem Calm.lim (h:Calm B fs RO)(a:SetIn B.obs.length l):Lp.Lim (ci (bs B*bp B) (eQ (qO B RO l))) (fun _=>0) 20:=IT h.n12 (h.rowI a)
end
def eg (B:Bk)(RO:Nat->List RowQ):List RowQ:=qO B RO (List.range B.obs.length)
theorem eo (n:Nat):SetIn n (List.range n):=⟨fun _a h=>PS.1 h,List.nodup_range⟩
theorem ud {l:List Rat}(a:i<l.length):(l.set i x).getD j 0=if j=i then x else l.getD j 0:=by
 rw [ay,List.getElem?_set,ay];by_cases h:i=j
 ·subst h;rw [aL rfl,aL a,aL rfl];rfl
 rw [aF h,aF fun e=>h e.symm]
theorem pI (n j:Nat):(List.replicate n (0:Rat)).getD j 0=0:=EB n j
def rgF (n h p m k:Nat)(e:Nat × Nat)(sg:Rat):List Rat:=(((List.replicate n (0:Rat)).set (k / m*p+e.1) sg).set (k / m*p+e.2) (-sg)).set (h+k) (-1)
def edg (es:List (Nat × Nat))(k:Nat):Nat × Nat:=es.getD (k % es.length) (0,0)
def rgK (n h p:Nat)(es:List (Nat × Nat))(k:Nat):List RowQ:=[⟨rgF n h p es.length k (edg es k) 1,0⟩,⟨rgF n h p es.length k (edg es k) (-1),0⟩]
def rgL (n h p:Nat)(es:List (Nat × Nat))(t:Nat):List RowQ:=(List.range t).flatMap (rgK n h p es)
def fc (more:Nat)(r:RowQ):RowQ:=⟨r.f++List.replicate more 0,r.b⟩
def ya (rows:List RowQ)(h p:Nat)(es:List (Nat × Nat))(more:Nat):List RowQ:=rows.map (fc more)++rgL (h+more) h p es more
def mC (h more:Nat):List Rat:=List.replicate h 0++List.replicate more 1
theorem yd (n h p m k:Nat)(e:Nat × Nat)(a:Rat):(rgF n h p m k e a).length=n:=by unfold rgF;simp
theorem zZ (n h p:Nat)(a:List (Nat × Nat))(t:Nat):rgL n h p a (t+1)=rgL n h p a t++rgK n h p a t:=by
 unfold rgL;rw [QF,List.flatMap_append,List.flatMap_cons,List.flatMap_nil,PY]
theorem yc (n h p:Nat)(a:List (Nat × Nat)):∀ t,(rgL n h p a t).length=2*t
 | 0=>rfl
 | t+1=>by rw [zZ,PH,yc n h p a t];rfl
theorem Ia (a:List RowQ)(h p:Nat)(c:List (Nat × Nat))(b:Nat):(ya a h p c b).length=a.length+2*b:=by
 unfold ya;rw [PH,am,yc]
theorem zY (h a:Nat):(mC h a).length=h+a:=by unfold mC;simp
structure EdgeOk (s p:Nat)(es:List (Nat × Nat)):Prop where
 lt:∀ e∈es,e.1<e.2/\e.2<p
theorem Gg (a:k<s*es.length):edg es k∈es/\k / es.length<s:=by
 have h0:0<es.length:=by
  rcases Qz es.length with h | h
  ·rw [h] at a;omega
  exact h
 refine ⟨?_,(Rn h0).2 a⟩;unfold edg;have hm:=P2 k h0;rw [ay,al hm];exact Qq hm
theorem Fh {a:Nat}(b:a<s)(c:i<p):a*p+i<s*p:=by
 have:(a+1)*p<=s*p:=Qp _ b;rw [Nat.succ_mul] at this;omega
theorem KD (h:EdgeOk s p es)(a:k<s*es.length):k / es.length*p+(edg es k).1<s*p/\k / es.length*p+(edg es k).2<s*p/\(edg es k).1≠(edg es k).2:=by
 obtain ⟨h1,h2⟩:=Gg a;obtain ⟨h3,h4⟩:=h.lt _ h1;exact ⟨Fh h2 om_,Fh h2 h4,by omega⟩
theorem LB (a:k / m*p+e.1<h)(b:k / m*p+e.2<h)(c:h+k<n)(j:Nat):(rgF n h p m k e sg).getD j 0=if j=h+k then -1 else if j=k / m*p+e.2 then -sg else if j=k / m*p+e.1 then sg else 0:=by
 unfold rgF;rw [ud aq,ud aq,ud aq,pI]
theorem yg (a:i<n):Lp.sumN (fun j=>(if j=i then x else 0)*y j) n=x*y i:=by
 rw [Lp.sumN_at a,Lp.sumN_zero fun j _=>?_]
 ·rw [aL rfl];grind
 by_cases h:j=i
 ·rw [aL h]
 rw [aF h,aF h];grind
theorem Lz (a:k / m*p+e.1<h)(b:k / m*p+e.2<h)(d:e.1≠e.2)(c:h+k<n) :
  Lp.sumN (fun j=>(rgF n h p m k e sg).getD j 0*y j) n=sg*y (k / m*p+e.1)+(-sg*y (k / m*p+e.2) + -1*y (h+k)):=by
 rw [<- yg (i:=k / m*p+e.1) (n:=n) (x:=sg) om_,<- yg (i:=k / m*p+e.2) (n:=n) (x:=-sg) om_,<- yg (i:=h+k) (n:=n) (x:=-1) om_,<- Lp.sumN_add,<- Lp.sumN_add];refine Lp.sumN_congr fun j _=>?_;rw [LB a b c];by_cases h1:j=h+k
 ·rw [aL h1,aF om_,aF om_,aL h1];grind
 by_cases h2:j=k / m*p+e.2
 ·rw [aF h1,aL h2,aF om_,aL h2,aF h1];grind
 by_cases h3:j=k / m*p+e.1
 ·rw [aF h1,aF h2,aL h3,aF h2,aF h1];grind
 rw [aF h1,aF h2,aF h3,aF h2,aF h1];grind
theorem jh :(ci n (eQ rows)).At y ↔ ∀ r∈rows,Lp.sumN (fun j=>r.f.getD j 0*y j) n<=r.b:=by
 have hm:(ci n (eQ rows)).m=rows.length:=am _;constructor
 ·intro h r hr;obtain ⟨i,c,rfl⟩:=List.mem_iff_getElem.1 hr;have h1:=h i (by rw [hm];exact c);have d:(ci n (eQ rows)).a i=fun j=>rows[i].f.getD j 0:=by show (fun j=>((eQ rows).getD i ([],0)).1.getD j 0)=_;rw [mB c]
  have e:(ci n (eQ rows)).b i=rows[i].b:=by show ((eQ rows).getD i ([],0)).2=_;rw [mB c]
  rw [d,e] at h1;exact h1
 intro h i c;rw [hm] at c;have h1:=h rows[i] (Qq c);have d:(ci n (eQ rows)).a i=fun j=>rows[i].f.getD j 0:=by show (fun j=>((eQ rows).getD i ([],0)).1.getD j 0)=_;rw [mB c]
 have e:(ci n (eQ rows)).b i=rows[i].b:=by show ((eQ rows).getD i ([],0)).2=_;rw [mB c]
 rw [d,e];exact h1
theorem zw (a:r.f.length=h):Lp.sumN (fun j=>(fc more r).f.getD j 0*y j) (h+more)=Lp.sumN (fun j=>r.f.getD j 0*y j) h:=by
 rw [Lp.sumN_split,Lp.sumN_zero (n:=more) fun j _=>?_]
 ·rw [show Lp.sumN (fun j=>(fc more r).f.getD j 0*y j) h=Lp.sumN (fun j=>r.f.getD j 0*y j) h from Lp.sumN_congr fun j b=>?_]
  ·grind
  show (r.f++List.replicate more 0).getD j 0*y j=_;rw [ay,Qh om_,<- ay]
 show (r.f++List.replicate more 0).getD (h+j) 0*y (h+j)=0;rw [ay,PX om_,<- ay,pI];grind
theorem Fe :Lp.sumN (fun j=>(mC h more).getD j 0*y j) (h+more)=Lp.sumN (fun k=>y (h+k)) more:=by
 rw [Lp.sumN_split,Lp.sumN_zero (n:=h) fun j a=>?_]
 ·rw [show Lp.sumN (fun r=>(mC h more).getD (h+r) 0*y (h+r)) more=Lp.sumN (fun k=>y (h+k)) more from Lp.sumN_congr fun j a=>?_]
  ·grind
  unfold mC;rw [ay,PX ap,Q2,aL aq];show 1*_=_;grind
 unfold mC;rw [ay,Qh aq,<- ay,pI];grind
def abR (x:Rat):Rat:=if x<0 then -x else x
theorem xl {y:Rat}:abR x<=y ↔ x<=y/\-x<=y:=by
 unfold abR;split <;> grind
theorem MX (x:Rat):0<=abR x:=by
 unfold abR;split <;> grind
def Nc (p:Nat)(es:List (Nat × Nat))(y:Nat->Rat)(k:Nat):Rat:=y (k / es.length*p+(edg es k).1)-y (k / es.length*p+(edg es k).2)
section
variable {rows:List RowQ} {s p:Nat} {es:List (Nat × Nat)} {y:Nat->Rat}
theorem Kb (e:EdgeOk s p es)(d:∀ r∈rows,r.f.length=s*p):(ci (s*p+s*es.length) (eQ (ya rows (s*p) p es (s*es.length)))).At y ↔ (ci (s*p) (eQ rows)).At y/\∀ k,k<s*es.length->abR (Nc p es y k)<=y (s*p+k):=by
 rw [jh,jh];have c:∀ k,k<s*es.length->∀ sg,Lp.sumN (fun j=>(rgF (s*p+s*es.length) (s*p) p es.length k (edg es k) sg).getD j 0*y j) (s*p+s*es.length)=sg*Nc p es y k-y (s*p+k):=fun k a sg=>by
  obtain ⟨h1,h2,h3⟩:=KD e a;rw [Lz h1 h2 h3 om_];unfold Nc;grind
 constructor
 ·intro h;refine ⟨fun r hr=>?_,fun k a=>?_⟩
  ·have:=h (fc _ r) (Ra _ (RD hr));rw [zw (d r hr)] at this;exact this
  have hm:∀ x∈rgK (s*p+s*es.length) (s*p) p es k,x∈ya rows (s*p) p es (s*es.length):=fun x b=>Rm _ (List.mem_flatMap.2 ⟨k,PS.2 a,b⟩);have h1:=h _ (hm _ PB);have h2:=h _ (hm _ (PK _ PB));rw [c k a] at h1 h2;rw [xl];simp only at h1 h2;constructor <;> grind
 rintro ⟨h1,h2⟩ r hr;rcases PQ.1 hr with hr | hr
 ·obtain ⟨x,b,rfl⟩:=PF.1 hr;rw [zw (d x b)];exact h1 x b
 obtain ⟨k,a,hr⟩:=List.mem_flatMap.1 hr;have a:=PS.1 a;have h3:=xl.1 (h2 k a);rcases PN.1 hr with rfl | hr
 ·rw [c k a];simp only;grind
 rw [PU.1 hr,c k a];simp only;grind
theorem Lv {a:Nat}{b c:Nat->Rat}(d:EdgeOk s p es)(e:∀ r∈rows,r.f.length=s*p)(h:Lp.UnbR (ci (s*p+s*es.length) (eQ (ya rows (s*p) p es (s*es.length)))) (fun j=>(mC (s*p) (s*es.length)).getD j 0) a b c):False:=by
 obtain ⟨y,hy,g⟩:=h.below 0;rw [show (ci (s*p+s*es.length) (eQ (ya rows (s*p) p es (s*es.length)))).n=s*p+s*es.length from rfl,Fe] at g;have h1:=((Kb d e).1 hy).2;have h2:0<=Lp.sumN (fun k=>y (s*p+k)) (s*es.length):=Lp.sumN_ge fun k i=>Rat.le_trans (MX _) (h1 k i);grind
end
theorem NQ (h:∀ r∈rows,RowI r):∀ r∈ya rows (s*p) p es (s*es.length),RowI r:=by
 intro r hr;have d:Wl 1 1:=⟨1,by decide +kernel,by decide⟩;have b:Wl 1 (-1):=⟨-1,by decide +kernel,by decide⟩;rcases PQ.1 hr with hr | hr
 ·obtain ⟨x,e,rfl⟩:=PF.1 hr;obtain ⟨D,h0,f,h1,h2⟩:=h x e;refine ⟨D,h0,f,fun q a=>?_,h2⟩;rcases PQ.1 a with a | a
  ·exact h1 q a
  rw [(List.mem_replicate.1 a).2];exact Wl.zero _
 obtain ⟨k,g,hr⟩:=List.mem_flatMap.1 hr;have c:∀ sg:Rat,Wl 1 sg->∀ q∈rgF (s*p+s*es.length) (s*p) p es.length k (edg es k) sg,Wl 1 q:=fun sg hs q a=>by
  unfold rgF at a;rcases Qx a with a | rfl
  ·rcases Qx a with a | rfl
   ·rcases Qx a with a | rfl
    ·rw [(List.mem_replicate.1 a).2];exact Wl.zero _
    exact hs
   exact hs.neg
  exact b
 rcases PN.1 hr with rfl | hr
 ·exact ⟨1,by decide,by decide,c 1 d,Wl.zero _⟩
 rw [PU.1 hr];exact ⟨1,by decide,by decide,c (-1) b,Wl.zero _⟩
theorem Lx (h b j:Nat):Wl 1 ((mC h b).getD j 0):=by
 unfold mC;rw [ay];cases a:(List.replicate h (0:Rat)++List.replicate b 1)[j]? with
 | none=>exact Wl.zero _
 | some q =>
  rcases PQ.1 (Px a) with a | a
  ·rw [(List.mem_replicate.1 a).2];exact Wl.zero _
  rw [(List.mem_replicate.1 a).2];exact ⟨1,by decide +kernel,by decide⟩
theorem Lw (a:s*p+s*es.length<=12)(h:∀ r∈rows,RowI r):Lp.Lim (ci (s*p+s*es.length) (eQ (ya rows (s*p) p es (s*es.length)))) (fun j=>(mC (s*p) (s*es.length)).getD j 0) 20:=tV a (NQ h) ⟨1,by decide,by decide,fun j _=>Lx _ _ j⟩
theorem N6 {z:Int}(h:s*p<=60):ofE z s p=z:=by
 unfold ofE;split
 ·rfl
 rename_i h2;have:z=0:=by simpa using h2
 rw [aF om_,this]
theorem yM (C:Mem)(a:Value)(B:Bk)(z:Int)(b:BookZ C a B z)(h:bs B*bp B<=60):Gives cx.P 92 [a] C (.tuple #[.int .i64 (if z=0 then ((bs B*bp B:Nat):Int) else 0),.int .i64 z]):=by
 have h1:=Ju C a B z b;rw [N6 h] at h1;exact h1
theorem lK (C:Mem)(n:Nat)(h:n<=100000):Jog.Fn cx.P 77 [.int .i64 n] C [] fun u _f a=>∃ b,u=.slice (some ⟨b,0,none⟩) n n/\a=[.arr u 32 1 n (List.replicate n (ah [48]))]:=by
 refine Tk func77 6 U3 fun w0=>Tb 1 [0] Z<|TC [(2,3)] Z fun R c=>Tz [[ah [48]]] U12 fun g _ _ d=>Te U6<|D.call (mD _ _ n [48] d.m_ om_) Z (.inr dc_) U6 (PC _) fl_ fun i _ j _ e=>C6 1 [2] c Z ?_;obtain ⟨bz,rfl,rfl⟩:=e;refine Tn (TQ Z Z ?_);exact ⟨bz,Z,Z⟩
theorem Lt (B:Bk)(a:Nat->List RowQ):(bQ (bH B) a (List.range B.obs.length)).map SrcQ.r=eg B a:=rfl
abbrev sC7 (A:Option Addr)(n c:Nat):Value:=.slice A n c
theorem kC (C:Mem)(L:Tabs C)(g:Value)(B:Bk)(M:List Rat)(c:Nat->List RowQ)(o:BookIn C g B)(h:Calm B M c) :
  Jog.Fn cx.P 37 [g] C [] fun u D k=>∃ (d:Option Addr)(e bz:Nat)(vs:List Value),u=.tuple #[.agg ⟨[.int .i64 (bs B*bp B:Nat),.slice d (eg B c).length e,.slice (some ⟨bz,0,none⟩) (bs B*bp B) (bs B*bp B)]⟩,.int .i64 0]/\RowsOk D vs (eg B c) /\
   k=[.arr (.slice d (eg B c).length e) 140 2 (eg B c).length (aE vs (eg B c)).flatten,.arr (.slice (some ⟨bz,0,none⟩) (bs B*bp B) (bs B*bp B)) 32 1 (bs B*bp B) (List.replicate (bs B*bp B) (ah [48]))]:=by
 have au:=o;have V:=h.rich.bookz L o;have W:=h.cnt (eo _);have X:=h.n12;have av:=h.ob;obtain ⟨l,t⟩:∃ l,bQ (bH B) c (List.range B.obs.length)=l:=⟨_,rfl⟩;have N:eg B c=l.map SrcQ.r:=by rw [<- Lt,t]
 have aw:l.length<=120:=by
  have:=W;rw [show qO B c (List.range B.obs.length)=eg B c from rfl,N,am] at this;exact this
 have Y:∀ D:Mem,C.le D->Pur cx.P 54 [g] D fun u E=>∃ v,u=.tuple #[v,.int .i64 0]/\Hc E v l:=fun D p=>by
  have:=Oz D (L.mono p) g B M c (o.mono p) h.rich om_ (by rw [t];omega);rw [t] at this;exact this
 obtain ⟨n,O⟩:∃ n,bs B*bp B=n:=⟨_,rfl⟩;have aa:∀ D:Mem,C.le D->Gives cx.P 92 [g] D (.tuple #[.int .i64 n,.int .i64 0]):=fun D p=>by
  have h:=yM D g B 0 (V.mono p) om_;rw [aL rfl,O] at h;exact h
 rw [N];rw [O] at X ⊢;obtain ⟨v1,v2,tv,cv,ov,rfl,h1,h2,h3,h4,h5⟩:=id o.ex;have ay:maxLen<=9223372036854775807:=by simp [maxLen]
 refine Tk func37 47 U3 fun w0=>Tf fun R a=>Tv U6 fun b1=>Tq U5 fun b2=>C6 1 [1,2] a Z<|G.freeze 1 Z fun _ _ Q=>Tf fun R a=>Td (bkT Q 5) U8<|TM (Y _ mup) U7 (fun az _ _ ab=>?_);obtain ⟨wv,rfl,ac⟩:=ab;obtain ⟨vs,x,y⟩:=ac;have S:=kX x;obtain ⟨Aw,cw,rfl,ad,aA,_⟩:=id y;have ag:(ck vs l).length=l.length:=by unfold ck;simp [S]
 rw [ag] at y ad ⊢;refine C6 5 [1,2,4,5] a Z<|Tb 2 [1,2,4,5,16] Z<|G.cd (fun T=>?_) fun T=>?_
 ·exact absurd T dc_
 refine Tf fun R a=>Td (bkT Q 5) U8<|To (aa _ mup) U7<|C6 5 [2,4,5,6] a Z<|Tb 2 [2,4,5,6,25] Z<|G.cd (fun U=>?_) fun U=>?_
 ·exact absurd U dc_
 refine TC [(2,3)] Z fun R a=>Tg 2 Z<|D.call (lK _ n om_) Z (.inr dc_) U6 (PC _) fl_ (fun aB _ aC _ ai=>?_);obtain ⟨bz,rfl,rfl⟩:=ai;refine Tw [.int .i64 n,.slice none 0 0,.slice (some ⟨bz,0,none⟩) n n] U8<|Tq U5 fun q=>Tj (j:=0) U12<|Th [2,4,7] a Z<|Tb 3 [2,7,32,33,34] Z<|G.nilArr 140 2<|G.perm (L':=[.arr (sC7 none 0 0) 140 2 0 (prC (vs.take 0) (l.take 0)).flatten,.arr (.slice (some ⟨bz,0,none⟩) n n) 32 1 n (List.replicate n (ah [48])),.obj q (.cells ⟨[.int .i64 n,.slice none 0 0,.slice (some ⟨bz,0,none⟩) n n]⟩ 74 (0,0)),.obj b2 (.cells ⟨[.int .i64 0,.slice none 0 0,.slice none 0 0]⟩ 74 (0,0))]) (pkL [0,1,0,0] Z)<|G.loop (fun fr C' k μ=>∃ (i:Nat)(d:Option Addr)(n1 e:Nat),(i<=l.length)/\fr=[(2,[],.pointer (some ⟨b2,0,none⟩)),(7,[],.pointer (some ⟨q,0,none⟩)),(32,[],.slice Aw l.length cw),(33,[],.int .i64 l.length),(34,[],.int .i64 i)]/\k=[.arr (sC7 d n1 e) 140 2 i (prC (vs.take i) (l.take i)).flatten,.arr (.slice (some ⟨bz,0,none⟩) n n) 32 1 n (List.replicate n (ah [48])),.obj q (.cells ⟨[.int .i64 n,.slice d n1 e,.slice (some ⟨bz,0,none⟩) n n]⟩ 74 (0,0)),.obj b2 (.cells ⟨[.int .i64 0,.slice none 0 0,.slice none 0 0]⟩ 74 (0,0))]/\μ=l.length-i) (hn_ [2,7,32,33,34] Z) ⟨0,none,0,0,PG _,Z,Z,Z⟩ (fun fr aD aF m _ hI=>?_);obtain ⟨i,d,n1,e,hi,rfl,rfl,rfl⟩:=hI;refine Tb 1 [2,7,32,33,34,35] Z<|G.cd (fun z=>?_) fun z=>?_
 ·have A:i<l.length:=by
   have:=OQ z;omega
  obtain ⟨s,F⟩:∃ s,l[i]?=some s:=⟨l[i],al A⟩;obtain ⟨w,H⟩:∃ w,vs[i]?=some w:=⟨vs[i]'om_,al om_⟩;have aj:=x.2 i w s.r H (by rw [PD,F];rfl);obtain ⟨Ax,ak,rfl,_⟩:=id aj;have an:=Ir S H F;refine Tf fun R a=>Tt y.m_ U10 om_ (Nx H F) fl_ fun aG ao=>Td ao U8<|Tq U5 fun b9=>Tj (j:=0) U12<|Th [2,7,9,32,33,34] a Z<|G.freeze 0 Z fun _ _ ap=>Tc 1 Z fun R a=>Ti ae U9<|Te U6<|Td (bkT ap 2) U8<|Tz [[.slice Ax (s.r.f.map eh).length ak,ah (qtx s.r.b)]] U12 fun aH _ _ aq=>TH (j:=0) U11 aq.m_ Z ax (by show (i+1)*40<=_;omega) fl_ fun I J K=>Te U6<|Tj (j:=2) U12<|Th [2,7,32,33,34] a Z<|Tf fun R a=>Tm _ U7<|C6 1 [2,7,32,33,34] a Z<|G.perm (L':=[.arr (sC7 I J K) 140 2 (i+1) (prC (vs.take (i+1)) (l.take (i+1))).flatten,.arr (.slice (some ⟨bz,0,none⟩) n n) 32 1 n (List.replicate n (ah [48])),.obj q (.cells ⟨[.int .i64 n,.slice I J K,.slice (some ⟨bz,0,none⟩) n n]⟩ 74 (0,0)),.obj b2 (.cells ⟨[.int .i64 0,.slice none 0 0,.slice none 0 0]⟩ 74 (0,0))]) (by rw [an,Qj];(exact pkL [1,1,0,0] Z))<|Tp (m':=l.length-(i+1)) om_ mup (hn_ [2,7,32,33,34] Z) ⟨i+1,I,J,K,om_,Z,Z,Z⟩
 have A:i=l.length:=by
  have:=PE z;omega
 subst A;refine Tf fun R a=>Ti ae U9<|Tj (j:=3) U12<|C6 1 [2,3] a Z ?_;rw [Qg (show vs.length<=l.length by omega),PO];refine TV 3 Z<|Vo af (fun A0 c0 ar _=>?_);obtain ⟨rfl,rfl,rfl⟩:d=A0/\n1=l.length/\e=c0:=by cases ar;exact ⟨rfl,rfl,rfl⟩
 refine Tn (VY 0 Z Z Z Z Z Z ?_);exact ⟨d,e,bz,vs,by rw [am];rfl,RowsOk.mono x mup,by rw [am];rfl⟩
def Nw (s p:Nat)(pt:Nat->Rat):List (List Str):=chunks s p (((List.range (s*p)).map pt).map qtx)
abbrev D4 (B:Bk)(RO:Nat->List RowQ):Lp.Sys:=ci (bs B*bp B) (eQ (eg B RO))
inductive BuiO (B:Bk) (RO:Nat->List RowQ) (D:Mem):Value->Prop where
 | yes (pt:Nat->Rat) (v:Value):(D4 B RO).At pt->Lp.CmD (bs B*bp B) 20 pt->(∀ j,QB 20 (pt j))->FieldsIn D v (Nw (bs B) (bp B) pt)->BuiO B RO D (.tuple #[v,.agg ⟨[.slice none 0 0]⟩,.bool true,.int .i64 0])
 | no (du:Nat->Rat) (vd:Value):Lp.InfR (D4 B RO) 20 du->Sl D 1 vd (((List.range (eg B RO).length).map du).map aQ)->BuiO B RO D (.tuple #[.slice none 0 0,.agg ⟨[vd]⟩,.bool false,.int .i64 0])
theorem Gc {p:Lp.Sys}{D:Mem}(h:FeaO p D u):∃ (A:Option Addr)(n c:Nat)(A2:Option Addr)(n2 c2:Nat)(a:Bool),u=.tuple #[.slice A n c,.agg ⟨[.slice A2 n2 c2]⟩,.bool a,.int .i64 0] /\
  ((a=true/\A2=none/\n2=0/\c2=0/\∃ pt,p.At pt/\Lp.CmD p.n 20 pt/\(∀ j,QB 20 (pt j))/\Sl D 1 (.slice A n c) (((List.range p.n).map pt).map aQ)) ∨
  (a=false/\∃ du,Lp.InfR p 20 du/\Sl D 1 (.slice A2 n2 c2) (((List.range p.m).map du).map aQ))):=by
 cases h with
 | yes pt g b d e h1 =>
  obtain ⟨A,c,rfl,_⟩:=id h1;exact ⟨_,_,_,_,_,_,true,Z,.inl ⟨Z,Z,Z,Z,pt,b,d,e,h1⟩⟩
 | no du i f h1 =>
  obtain ⟨A,c,rfl,_⟩:=id h1;exact ⟨_,_,_,_,_,_,false,Z,.inr ⟨Z,du,f,h1⟩⟩
theorem Ge (l:List Rat):l.map aQ=(l.map qtx).map gi:=by
 rw [Qv];rfl
theorem NS (n:Nat):∀ x∈List.replicate n (0:Rat),QB 22 x:=fun x a=>by rw [(List.mem_replicate.1 a).2];exact QB_zero.le dc_
theorem wC (a:∀ j,QB 20 (pt j)):qX s p (((List.range (s*p)).map pt).map qtx)=0:=by
 unfold qX;rw [aL ap,PT.2 fun x b=>?_]
 ·rfl
 obtain ⟨q,c,rfl⟩:=PF.1 b;obtain ⟨j,_,rfl⟩:=PF.1 c;exact bC ((a j).le dc_)
theorem vR (a:∀ j,QB 20 (pt j)):∀ x∈((List.range (s*p)).map pt).map qtx,x.length<=999998:=fun x b=>by
 obtain ⟨q,c,rfl⟩:=PF.1 b;obtain ⟨j,_,rfl⟩:=PF.1 c;exact PP (bl (a j) dc_) dc_
theorem F0 (C:Mem)(d:Tabs C)(k:Value)(B:Bk)(l:List Rat)(b:Nat->List RowQ)(c:BookIn C k B)(h:Calm B l b) :
  Pur cx.P 26 [k] C fun u D=>BuiO B b D u:=by
 have n:=c;have A:=h.rich.bookz d c;have aa:=h.n12;have e:=eo B.obs.length;have E:=h.rowsQ e;have F:=h.q22 e;have H:=h.lim e;obtain ⟨v1,v2,tv,cv,ov,rfl,h1,h2,h3,h4,h5⟩:=id c.ex;have ab:maxLen<=9223372036854775807:=by simp [maxLen]
 refine Tk func26 43 U3 fun w0=>Tf fun R a=>Tv U6 fun b1=>Te U6<|Tq U5 fun b3=>C6 2 [1,3] a Z<|G.freeze 1 Z fun _ _ o=>TC [(1,3)] Z fun R a=>Td (bkT o 5) U8<|D.call (kC _ d.m_ _ B l b n.m_ h) Z (.inr dc_) U6 (PC _) fl_ (fun ac _ ad _ I=>?_);obtain ⟨Ar,cr,bo,vs,rfl,q,rfl⟩:=I;refine Tg 3 Z<|Tq U5 fun b6=>Tj (j:=0) U12<|C6 1 [1,3,5,6] a Z<|Tb 2 [1,3,5,6,14] Z<|G.cd (fun r=>?_) fun r=>?_
 ·exact absurd r dc_
 refine G.freezeArr 1 (aE vs (eg B b)) Z Z (bX _ _) (by rw [bN q.1]) (fun _ _ J=>?_);rw [ld];refine G.freezeArr 1 ((List.replicate (bs B*bp B) (0:Rat)).map aQ) Z Z bS ap fun _ _ K=>G.freeze 0 Z (fun L _ M=>?_);have N:=tx (RowsOk.m_ q) (J.mono mup:Sl L 2 _ _);refine Tf fun R a=>Td (bkT M 3) U8<|TG (Iy _ d.m_ (bs B*bp B) _ _ (eQ (eg B b)) (List.replicate (bs B*bp B) 0) N.m_ K.m_ E (NS _) F om_ ap H) U7 fl_ (fun ae _ _ O=>?_);obtain ⟨Q,S,T,U,nd,cd,t,rfl,v⟩:=Gc O;refine Tg 6 Z<|Tj (j:=0) U12<|C6 2 [1,3,4,5,7] a Z<|Tc 5 Z fun R a=>TN U8<|Th [1,3,5,7,29] a Z<|G.cd (fun f=>?_) fun f=>?_
 ·have g:t=false:=by simpa using f
  subst g;obtain ⟨du,V,w⟩:∃ du,Lp.InfR (D4 B b) 20 du/\Sl _ 1 (.slice U nd cd) (((List.range (D4 B b).m).map du).map aQ):=by
   rcases v with ⟨h,_⟩ | ⟨_,h⟩
   ·cases h
   exact h
  refine Tx [0,1,2,3,4,5] [] Z kr_ fun R c a=>Ti ag U9<|Tg 2 Z<|Tj (j:=0) U12<|Tg 2 Z<|Th [2,3,4,5] a Z ?_;clear a c R;refine Tn (UC ag U7 ?_);refine ⟨Z,.no du _ V ?_⟩;rw [show (D4 B b).m=(eg B b).length from am _] at w;exact w.mono mup
 have g:t=true:=by simpa using f
 subst g;obtain ⟨pt,W,X,i,x⟩:∃ pt,(D4 B b).At pt/\Lp.CmD (bs B*bp B) 20 pt/\(∀ j,QB 20 (pt j))/\Sl _ 1 (.slice Q S T) (((List.range (bs B*bp B)).map pt).map aQ):=by
  rcases v with ⟨_,_,_,_,h⟩ | ⟨h,_⟩
  ·exact h
  cases h
 rw [Ge] at x;have y:=wC (s:=bs B) (p:=bp B) i;refine Tf fun R a=>Td (bkT o 5) U8<|Te U6<|TG (wE _ d.m_ _ _ B (((List.range (bs B*bp B)).map pt).map qtx) n.m_ A.m_ om_ x.m_ (vR i) aq) U7 fl_ (fun af _ _ Y=>?_);obtain ⟨fv,rfl,z⟩:=Y;rw [y,aL rfl] at z;rw [y];refine C6 5 [2,3,5] a Z<|Tc 1 Z fun R a=>Tw ([.slice none 0 0]) U8<|Tg 4 Z<|Tj (j:=0) U12<|C6 2 [2,3,4,5] a Z<|Tn (UC ag U7 ?_);exact ⟨Z,.yes pt _ W X i z.m_⟩
open Go Go.Jog Go.Shelf
set_option maxRecDepth 100000
def wH (e:Nat × Nat):List Value:=[.int .i64 e.1,.int .i64 e.2]
def MO (x y:Nat × Nat):Int:=Ks [x.1,x.2] [y.1,y.2]
theorem uA {x y:Nat × Nat}:MO x y<0 ↔ ltP x y:=by
 unfold MO ltP;simp only [Ks];split
 ·exact ⟨fun _=>.inl ‹_›,fun _=>by decide⟩
 split
 ·exact ⟨fun h=>absurd h dc_,fun h=>by omega⟩
 split
 ·exact ⟨fun _=>.inr ⟨by omega,‹_›⟩,fun _=>by decide⟩
 split
 ·exact ⟨fun h=>absurd h dc_,fun h=>by omega⟩
 exact ⟨fun h=>absurd h dc_,fun h=>by omega⟩
theorem JA:Sort.SWO (ltOf MO) where
 irrefl x:=by unfold ltOf;exact P7 (fun h=>ym x (uA.1 h))
 trans x y z h1 h2:=by
  unfold ltOf at *;simp only [PI] at *;rw [uA] at *;unfold ltP at *;omega
 ntrans x y z h1 h2:=by
  unfold ltOf at *;simp only [P3] at *;rw [uA] at *;unfold ltP at *;omega
def Bb (ks:List fo)(s:fo):Bool:=decide (s.1<s.2) || !(decide (nF s∈ks))
def lj (s:fo):Nat × Nat:=((min s.1 s.2).toNat,(max s.1 s.2).toNat)
def kh (ks:List fo)(seen:List Nat):List (Nat × Nat):=((seen.map fun j=>ks.getD j (0,0)).filter (Bb ks)).map lj
theorem B8 {seen:List Nat}{s:fo}(h:ks[j]?=some s):kh ks (seen++[j])=kh ks seen++if Bb ks s then [lj s] else []:=by
 unfold kh;rw [Qb,QZ,Qb];congr 1;rw [Qa,Rz,ay,h,List.filter_cons];split <;> simp_all
theorem Gf {s:fo}(a:0<=s.1)(b:0<=s.2):wH (lj s)=[.int .i64 (min s.1 s.2),.int .i64 (max s.1 s.2)]:=by
 unfold wH lj;rw [show (((min s.1 s.2).toNat:Nat):Int)=min s.1 s.2 by omega,show (((max s.1 s.2).toNat:Nat):Int)=max s.1 s.2 by omega]
theorem tr (h:∀ t∈tris,mV n t):∀ s∈bO tris,0<=s.1/\0<=s.2/\s.1.toNat<n/\s.2.toNat<n:=by
 intro s hs;obtain ⟨t,a,hs⟩:=List.mem_flatMap.1 hs;obtain ⟨h1,h2,h3⟩:=h t a;simp only [oL,PN,QH,R8] at hs;rcases hs with rfl | rfl | rfl <;> simp [nG,Dx] <;> omega
structure EdgL (tris:List Tri)(es:List (Nat × Nat)):Prop where
 up:es.Pairwise ltP
 mem:∀ e,e∈es ↔ e.1<e.2/\(((e.1:Int),(e.2:Int))∈bO tris∨((e.2:Int),(e.1:Int))∈bO tris)
theorem EdgL.same {a:List (Nat × Nat)}(h:EdgL tris es)(k:EdgL tris a):es=a :=
 Dl ym IQ h.up k.up fun e=>(h.mem e).trans (k.mem e).symm
theorem EdgL.ok (h:EdgL tris es)(a:∀ t∈tris,mV n t)(s:Nat):EdgeOk s n es:=⟨fun e b=>by
 obtain ⟨h1,h2⟩:=(h.mem e).1 b;rcases h2 with h2 | h2
 ·have:=tr a _ h2;simp only [Rk] at this;omega
 have:=tr a _ h2;simp only [Rk] at this;omega⟩
theorem EdgL.le (h:EdgL tris es)(a:∀ t∈tris,mV n t)(b:n<=6):es.length<=15/\(n<=4->es.length<=6):=Iz b h.up (h.ok a 0).lt
theorem Mc {s t:fo}(a:0<=s.1)(b:0<=s.2)(c:0<=t.1)(d:0<=t.2)(h:lj s=lj t):s=t∨t=nF s:=by
 obtain ⟨e,f⟩:=s;obtain ⟨g,i⟩:=t;unfold lj at h;simp only [RF,nF] at *;omega
theorem Mz {l:List (Nat × Nat)}(d:ks.Perm (bO tris))(p:(bO tris).Nodup)(f:∀ s∈bO tris,0<=s.1/\0<=s.2)
  (q:l.Perm ((ks.filter (Bb (bO tris))).map lj)) (r:es.Perm l) (b:es.Pairwise fun x y=>ltOf MO y x=false):EdgL tris es:=by
 have m:=r.trans q;have u:ks.Nodup:=d.nodup_iff.2 p;have g:∀ s∈ks.filter (Bb (bO tris)),s∈bO tris/\Bb (bO tris) s=true:=fun s b=>by
  obtain ⟨h1,h2⟩:=Q4.1 b;exact ⟨d.mem_iff.1 h1,h2⟩
 have v:((ks.filter (Bb (bO tris))).map lj).Nodup:=by
  rw [List.Nodup,List.pairwise_map];refine (u.filter _).imp_of_mem fun {s t} b w i z=>?_;obtain ⟨a,c⟩:=g s b;obtain ⟨n,j⟩:=g t w;obtain ⟨a1,a2⟩:=f s a;obtain ⟨b1,b2⟩:=f t n;rcases Mc a1 a2 b1 b2 z with e | e
  ·exact i e
  subst e;unfold Bb at c j;have k:nF (nF s)=s:=rfl;simp only [k,a,n,decide_true,Bool.not_true,Bool.or_false,PI] at c j;simp only [nF] at j;omega
 have i:es.Nodup:=m.nodup_iff.2 v;refine ⟨?_,fun e=>?_⟩
 ·refine (List.Pairwise.and i b).imp fun {x y} ⟨h1,h2⟩=>?_;unfold ltOf at h2;have h3:¬ ltP y x:=fun h=>absurd (uA.2 h) (PE h2);unfold ltP at h3 ⊢;obtain ⟨C,D⟩:=x;obtain ⟨E,F⟩:=y;simp only [ne_eq,RF] at *;omega
 rw [m.mem_iff];constructor
 ·intro h;obtain ⟨s,b,rfl⟩:=PF.1 h;obtain ⟨a,c⟩:=g s b;obtain ⟨a1,a2⟩:=f s a;have o:s.1≠s.2:=fun e=>by
   unfold Bb at c;have k:nF s=s:=by obtain ⟨x,y⟩:=s;simp only [nF] at *;rw [e]
   rw [k] at c;simp only [a,decide_true,Bool.not_true,Bool.or_false,PI] at c;omega
  obtain ⟨x,y⟩:=s;unfold lj;simp only at a1 a2 o a ⊢;rcases Int.lt_or_gt_of_ne o with h | h
  ·refine ⟨by omega,.inl ?_⟩;rw [show (((min x y).toNat:Nat):Int)=x by omega,show (((max x y).toNat:Nat):Int)=y by omega];exact a
  refine ⟨by omega,.inr ?_⟩;rw [show (((min x y).toNat:Nat):Int)=y by omega,show (((max x y).toNat:Nat):Int)=x by omega];exact a
 rintro ⟨h1,h2⟩;have A:lj ((e.1:Int),(e.2:Int))=e:=by
  obtain ⟨x,y⟩:=e;unfold lj;simp only [RF] at *;omega
 have B:lj ((e.2:Int),(e.1:Int))=e:=by
  obtain ⟨x,y⟩:=e;unfold lj;simp only [RF] at *;omega
 by_cases h3:((e.1:Int),(e.2:Int))∈bO tris
 ·refine PF.2 ⟨_,Q4.2 ⟨d.mem_iff.2 h3, ?_⟩,A⟩;unfold Bb;rw [PV (by show (e.1:Int)<e.2;omega)];rfl
 have h4:=h2.resolve_left h3;refine PF.2 ⟨_,Q4.2 ⟨d.mem_iff.2 h4, ?_⟩,B⟩;unfold Bb;rw [show nF ((e.2:Int),(e.1:Int))=((e.1:Int),(e.2:Int)) from rfl,P7 h3,Bool.not_false,Bool.or_true]
theorem wq (C:Mem)(a:Int):Gives cx.P 274 [.int .i64 a] C (.bool false):=by
 exact Tk func274 6 U3 fun w0=>Tb 1 [0] Z<|Tb 4 [2] Z<|Tl U2<|⟨by simp,Z⟩
theorem yO (C:Mem)(a b:Int):Gives cx.P 216 [.int .i64 a,.int .i64 b] C (.int .i64 (KM a b)):=by
 refine Tk func216 20 U3 fun w0=>Tb 1 [0,1] Z<|Tc 1 Z fun R d=>To (wq _ _) U7<|C6 1 [0,1,5] d Z<|Tc 1 Z fun R d=>To (wq _ _) U7<|C6 1 [0,1,5,6] d Z<|Tb 1 [0,1,6,11] Z<|G.cd (fun f=>?_) fun f=>?_
 ·cases f
 refine Tb 1 [0,1,13] Z<|G.cd (fun g=>?_) fun g=>?_
 ·cases g
 refine Tb 3 [0,1,16] Z<|G.cd (fun c=>?_) fun c=>?_
 ·refine Tb 1 [4] Z<|Tl U2 ?_;simp only [PI] at c;exact ⟨by rw [KM,aL c],Z⟩
 refine Tb 3 [19] Z<|G.cd (fun e=>?_) fun e=>?_
 ·refine Tb 1 [4] Z<|Tl U2 ?_;simp only [PI,P3] at c e;exact ⟨by rw [KM,aF c,aF om_],Z⟩
 refine Tb 1 [4] Z<|Tl U2 ?_;simp only [P3] at c e;exact ⟨by rw [KM,aF c,aL om_],Z⟩
theorem yP (C:Mem)(v w:Value)(a b:List Nat)(l:Sl C 1 v (a.map aS))(n:Sl C 1 w (b.map aS))(L:a.length<=1000000)(_M:b.length<=1000000) :
  Gives cx.P 148 [v,w] C (.int .i64 (Ks a b)):=by
 obtain ⟨A,c,rfl,_⟩:=id l;obtain ⟨B,d,rfl,_⟩:=id n;simp only [am] at l n ⊢;refine Tk func148 36 U3 fun w0=>Tb 1 [0,1] Z<|Tb 3 [0,1,9,10,11] Z<|G.loop (fun fr N z D=>∃ (k:Nat),(k<=a.length/\k<=b.length/\Ks (a.drop k) (b.drop k)=Ks a b)/\fr=[(0,[],.slice A a.length c),(1,[],.slice B b.length d),(9,[],.slice A a.length c),(10,[],.int .i64 a.length),(11,[],.int .i64 k)]/\z=[]/\D=a.length-k) (hn_ [0,1,9,10,11] Z) ⟨0,⟨PG _,PG _,Z⟩,Z,Z,Z⟩ (fun fr O Q m _ E=>?_);obtain ⟨k,⟨S,T,g⟩,rfl,rfl,rfl⟩:=E;refine Tb 1 [0,1,9,10,11,12] Z<|G.cd (fun o=>?_) fun o=>?_
 ·have h:k<a.length:=by simpa using o
  obtain ⟨x,t⟩:∃ x,a[k]?=some x:=⟨a[k],al h⟩;have F:(a.map aS)[k]?=some (aS x):=by rw [PD,t];rfl
  have p:a.drop k=x::a.drop (k+1):=by rw [PW h,(aJ.1 t).2]
  refine Tc 1 Z fun R f=>Tt l.m_ U10 om_ F fl_ fun U H=>Td H U8<|C6 2 [0,1,5,6,9,10,11] f Z<|Tb 4 [0,1,5,6,9,10,11,19] Z<|G.cd (fun q=>?_) fun q=>?_
  ·have i:b.length<=k:=by simpa using q
   have j:b.drop k=[]:=Rf i;exact Tb 1 [4] Z<|Tl U2<|⟨by rw [<- g,p,j];rfl,Z⟩
  have i:k<b.length:=by
   have:¬ b.length<=k:=by simpa using q
   omega
  obtain ⟨y,hy⟩:∃ y,b[k]?=some y:=⟨b[k],al i⟩;have I:(b.map aS)[k]?=some (aS y):=by rw [PD,hy];rfl
  have j:b.drop k=y::b.drop (k+1):=by rw [PW i,(aJ.1 hy).2]
  refine Tc 2 Z fun R f=>Tt n.m_ U10 om_ I fl_ fun V J=>Td J U8<|C6 1 [0,1,6,7,9,10,11] f Z<|Tc 2 Z fun R f=>To (yO _ _ _) U7<|C6 1 [0,1,8,9,10,11] f Z<|Tb 2 [0,1,8,9,10,11,28] Z<|G.cd (fun r=>?_) fun r=>?_
  ·have e:KM x y≠0:=by simpa using r
   refine Tb 2 [4] Z<|Tl U2<|⟨?_,Z⟩;rw [<- g,p,j];simp only [Ks];unfold KM at e ⊢;by_cases h1:x<y
   ·have h3:(x:Int)<y:=by omega
    rw [aL h1,aL h3]
   have h3:¬ (x:Int)<y:=by omega
   rw [aF h1,aF h3];rw [aF h3] at e;by_cases h2:y<x
   ·have h4:¬ (x:Int)=y:=by omega
    rw [aL h2,aF h4]
   have h4:(x:Int)=y:=by omega
   rw [aL h4] at e;exact absurd Z e
  have e:KM x y=0:=by simpa using r
  have K:x=y:=by
   unfold KM at e;split at e
   ·cases e
   split at e
   ·omega
   cases e
  refine Tf fun R f=>Tm _ U7<|C6 1 [0,1,9,10,11] f Z<|Tp (m':=a.length-(k+1)) om_ mup (hn_ [0,1,9,10,11] Z) ⟨k+1,⟨by omega,by omega,by rw [<- g,p,j,K];simp [Ks]⟩,Z,Z,Z⟩
 have h:k=a.length:=by
  have:¬ k<a.length:=by simpa using o
  omega
 subst h;rw [QA] at g;refine Tb 5 [35] Z<|G.cd (fun s=>?_) fun s=>?_
 ·have u:a.length<b.length:=by simpa using s
  refine Tb 1 [4] Z<|Tl U2<|⟨?_,Z⟩;rw [<- g,PW u];rfl
 have u:¬ a.length<b.length:=by simpa using s
 refine Tb 1 [4] Z<|Tl U2<|⟨?_,Z⟩;rw [<- g,Rf om_];rfl
theorem Jj (C:Mem)(x y:Nat × Nat):Gives cx.P 147 [.agg ⟨wH x⟩,.agg ⟨wH y⟩] C (.int .i64 (MO x y)):=by
 refine Tk func147 8 U3 fun w0=>Tf fun R a=>Tv U6 fun b2=>Tv U6 fun m=>C6 1 [2,3] a Z<|G.freeze 1 Z fun _ _ f=>G.freeze 0 Z (fun d _ g=>?_);have e:∀ {b:Nat}(z:Nat × Nat){t:TypeId},d b=some (.cells ⟨wH z⟩ t (0,0))->Sl d 1 (.slice (some ⟨b,0,none⟩) 2 2) (([z.1,z.2]:List Nat).map aS):=fun z t h=>Sl.ofBlock (rows:=([z.1,z.2]:List Nat).map aS) (c:=2) h (by intro r hr;obtain ⟨y,_,rfl⟩:=PF.1 hr;rfl) (fun j v i=>by simpa [wH,aS] using i) (Py _) dc_;have k:=e x (Mem.get f mup);have l:=e y (Mem.get g mup);exact Tx [0,1,2,3] [(2,1)] Z kr_ fun R n a=>Uu 0 2 2 U12 (fun _=>⟨.inl ⟨Z,Z⟩,.inl ⟨Z,Z⟩,.inl ⟨Z,Z⟩,by omega,by omega,Py _⟩) U2<|Uu 0 2 2 U12 (fun _=>⟨.inl ⟨Z,Z⟩,.inl ⟨Z,Z⟩,.inl ⟨Z,Z⟩,by omega,by omega,Py _⟩) U2<|TA (fun _=>(yP _ _ _ [x.1,x.2] [y.1,y.2] k.m_ l.m_ (by show 2<=1000000;decide) (by show 2<=1000000;decide))) U9<|C6 1 [4] a Z<|Tl U2<|⟨Z,Z⟩
theorem HM (C:Mem)(v:Value)(l:List (Nat × Nat))(d:l.length<=1000000):Jog.Fn cx.P 146 [v,.func (.func 147) #[] #[]] C [.arr v 163 2 l.length (l.map wH).flatten]
  fun u _e b=>∃ a:List (Nat × Nat),u=.tuple #[]/\b=[.arr v 163 2 l.length (a.map wH).flatten]/\a.Perm l/\a.Pairwise (fun x y=>ltOf MO y x=false) :=
 xJ (P:=cx.P) (T:=tab) Tryz.sortE cx.hT rfl rfl wH fl_ (fun x=>rfl) MO JA 147 [] C (fun x y c _=>Jj c x y) v 163 l om_ kr_ kr_
abbrev sE (A:Option Addr)(n c:Nat):Value:=.slice A n c
theorem Jh (l:List (Nat × Nat)):∀ r∈l.map wH,r.length=2:=fun r hr=>by obtain ⟨y,_,rfl⟩:=PF.1 hr;rfl
theorem vD (b:List fo)(a:List Nat):(kh b a).length<=a.length:=by
 unfold kh;rw [am];refine PP (Q5 _ _) ?_;rw [am];exact Py _
theorem Ji (C:Mem)(hT:Tabs C)(N:Value)(B:List Pt)(f:List Tri)(O:MeshIn C N B f)(E:Good B f) :
  Pur cx.P 76 [N] C fun u D=>∃ es v,u=.tuple #[v,.int .i64 0]/\EdgL f es/\Sl D 2 v (es.map wH):=by
 have n:=E.ok;have ah:=O;obtain ⟨v1,v2,rfl,h1,h2⟩:=id O.ex;have aB:maxLen<=9223372036854775807:=by simp [maxLen]
 have x:=tr n.ins;have aj:=my f;have aC:=n.lt;refine Tk func76 63 U3 fun w0=>Tf fun R c=>Tv U6 fun b1=>C6 2 [1] c Z<|G.freeze 0 Z fun _ _ Q=>Tf fun R c=>Td (bkT Q 2) U8<|To (gv _ hT.m_ _ B f ah.m_ E) U7<|C6 1 [1,4] c Z<|Tb 2 [1,4,14] Z<|G.cd (fun S=>?_) fun S=>?_
 ·exact absurd S dc_
 refine Tf fun R c=>Td (bkT Q 2) U8<|TM (vW _ _ _ f E.ne h2.m_ (rH n.sides)) U7 (fun aD _ _ ak=>?_);obtain ⟨b,rfl,g⟩:=ak;obtain ⟨m,T⟩:∃ m,vX f f.length=m:=⟨_,rfl⟩;have y:m.map (·.1)=bO f:=by
  have:=fC n.sides f.length (Py _);rw [PO,T] at this;exact this
 rw [T] at g;obtain ⟨ks,z⟩:∃ ks,bO f=ks:=⟨_,rfl⟩;rw [z] at y x aj;have U:ks.length=m.length:=by rw [<- y];simp
 have V:∀ s:fo,(dU m (s.2,s.1)).isSome=decide (nF s∈ks):=fun s=>by
  have:=AG (m:=m) (s:=s);rw [y] at this;rw [this];unfold jg;rw [Bool.not_not]
 refine C6 5 [5] c Z<|Tb 1 [5,7] Z<|Tc 1 Z fun R c=>U0 kI2.enc (Mem.get g mup) Z Z Z Z Z Z Z fl_ fun A=>Th [5,7,22] c Z<|G.nilArr 163 2<|G.loop (fun fr C' F μ=>∃ (seen:List Nat)(o:Option Addr)(n1 r:Nat),(seen.Nodup/\(∀ j∈seen,j<ks.length))/\fr=[(5,[],.map (some b)),(7,[],.slice o n1 r),(22,[],.pointer (some ⟨A,0,none⟩))]/\F=[.arr (sE o n1 r) 163 2 (kh ks seen).length ((kh ks seen).map wH).flatten,.obj A (bj b m.length seen)]/\μ=ks.length-seen.length) (hn_ [5,7,22] Z) ⟨[],none,0,0,⟨List.nodup_nil,by simp⟩,Z,Z,Z⟩ (fun fr aE aF m _ hI=>?_);obtain ⟨seen,o,n1,r,⟨H,I⟩,rfl,rfl,rfl⟩:=hI;refine Tf fun R c=>Vb kI2.enc (q:=1) (Mem.get g mup) Z Z Z Z Z Z fl_ fun W aG k X=>C6 1 [5,7,22,24] c Z<|G.cd (fun t=>?_) fun t=>?_
 ·obtain ⟨aH,j,Y,an,rfl⟩:W=true/\∃ j,j<m.length/\j ∉ seen/\k=seen++[j]:=by
   rcases X with ⟨h1,_⟩ | h1
   ·rw [h1] at t;cases t
   exact h1
  rw [<- U] at Y;obtain ⟨⟨s,bv⟩,hs⟩:∃ p,m[j]?=some p:=⟨m[j]'om_,al om_⟩;have aa:ks[j]?=some s:=by rw [<- y,PD,hs];rfl
  have J:(seen++[j]).Nodup:=by
   rw [QX];exact ⟨H,by simp,fun a ha b g e=>by rw [PU.1 g] at e;subst e;exact an ha⟩
  have K:∀ i∈seen++[j],i<ks.length:=fun i w=>by
   rcases PQ.1 w with h | h
   ·exact I i h
   rw [PU.1 h];exact Y
  have ao:(seen++[j]).length<=ks.length:=by
   have:=List.Nodup.length_le_of_subset J (l₂:=List.range ks.length) (fun i w=>PS.2 (K i w));simpa using this
  have aI:(seen++[j]).length=seen.length+1:=by simp
  have l:=B8 aa (seen:=seen);obtain ⟨ap,aq,_⟩:=x s (Px aa);have ar:=vD ks seen;refine Tf fun R c=>U1 kI2.enc (Mem.get g mup) hs ag Z Z Z Z Z Z Z<|Te U6<|Tq U5 fun b8=>Tj (j:=0) U12<|Th [5,7,8,22] c Z<|Tc 1 Z fun R c=>Ty (1) U9 ai U2<|Ti ag U9<|Ty (0) U9 ai U2<|Ti ag U9<|Tw [.int .i64 s.2,.int .i64 s.1] U8<|Vf kI2 (fun _=>(Mem.get g mup)) Z Z Z Z Z Z Z Z Z (lA _ (dU m (s.2,s.1))) Z Z<|C6 5 [5,7,8,10,22] c Z<|Tf fun R c=>Ty (0) U9 ai U2<|Ti ag U9<|Ty (1) U9 ai U2<|Ti ag U9<|Tg 4 Z<|TN U8<|Th [5,7,8,22,45] c Z<|G.cd (fun L=>?_) fun L=>?_
  ·have M:Bb ks s=true:=by
    unfold Bb;rw [<- V];exact L
   rw [M,aL rfl] at l;have aJ:(kh ks (seen++[j])).length=(kh ks seen).length+1:=by rw [l];simp
   refine Tc 1 Z fun R c=>Ty (0) U9 ai U2<|Ti ag U9<|Ty (1) U9 ai U2<|Ti ag U9<|D.min (min s.1 s.2) U6 Z U2<|Ty (0) U9 ai U2<|Ti ag U9<|Ty (1) U9 ai U2<|Ti ag U9<|D.max (max s.1 s.2) U6 Z U2<|Tw [.int .i64 (min s.1 s.2),.int .i64 (max s.1 s.2)] U8<|Tz [[.int .i64 (min s.1 s.2),.int .i64 (max s.1 s.2)]] U12 fun aK _ _ au=>TH (j:=2) U11 au.m_ Z ax (by simp only [ba];omega) fl_ fun ab ac ad=>C6 1 [5,7,22] c Z<|TV 1 Z<|Tu (L':=[.arr (sE ab ac ad) 163 2 (kh ks (seen++[j])).length ((kh ks (seen++[j])).map wH).flatten,.obj A (bj b m.length (seen++[j]))]) (by rw [l,Qb,Qj,<- Gf ap aq];simp)<|Tp (m':=ks.length-(seen++[j]).length) om_ mup (hn_ [5,7,22] Z) ⟨seen++[j],ab,ac,ad,⟨J,K⟩,Z,Z,Z⟩
  have M:Bb ks s=false:=by
   unfold Bb;rw [<- V];exact L
  rw [M] at l;simp only [Qr,QY,PY] at l;refine TV 0 Z<|G.perm (L':=[.arr (sE o n1 r) 163 2 (kh ks (seen++[j])).length ((kh ks (seen++[j])).map wH).flatten,.obj A (bj b m.length (seen++[j]))]) (by rw [l];exact List.Perm.swap _ _ _)<|Tp (m':=ks.length-(seen++[j]).length) om_ mup (hn_ [5,7,22] Z) ⟨seen++[j],o,n1,r,⟨J,K⟩,Z,Z,Z⟩
 obtain ⟨aM,rfl,ae⟩:W=false/\k=seen/\∀ j,j<m.length->j∈seen:=by
  rcases X with h1 | ⟨h1,_⟩
  ·exact h1
  rw [h1] at t;cases t
 rw [<- U] at ae;have hp:=oN (d:=((0:Int),(0:Int))) H I ae;have ar:=vD ks k;have ao:k.length<=ks.length:=by
  have:=List.Nodup.length_le_of_subset H (l₂:=List.range ks.length) (fun i w=>PS.2 (I i w));simpa using this
 refine TV 0 Z<|TC [(1,3)] Z fun R c=>Te U6<|D.call (HM _ _ (kh ks k) om_) Z (.inr dc_) U6 (PC _) fl_ fun aN _ aO _ av=>Th [7] c Z ?_;obtain ⟨es,rfl,rfl,af,aw⟩:=av;have ay:EdgL f es:=Mz (ks:=k.map fun j=>ks.getD j (0,0)) (by rw [z];exact hp) n.sides (fun s hs=>by rw [z] at hs;exact ⟨(x s hs).1,(x s hs).2.1⟩) (by rw [z];exact PC _) af aw;have az:es.length=(kh ks k).length:=af.length_eq;refine Tb 3 [2,3] Z<|G.freezeArr 0 (es.map wH) Z Z (Jh es) (by rw [am,az]) fun Cf aP aA=>Tn (G.dropAll (TD U3 ?_));exact ⟨Z,es,_,Z,ay,aA⟩
theorem LH {q:Rat}(h:q.den=1):q=(q.num:Rat):=Rat.ext rfl h
def wlB (D:Int)(q:Rat):Bool:=decide ((q*(D:Rat)).den=1) && decide ((q*(D:Rat)).num.natAbs<=999999999)
theorem DM {D:Int}{q:Rat}(h:wlB D q=true):Wl D q:=by
 unfold wlB at h;simp only [PL,PI] at h;exact ⟨_,LH h.1,h.2⟩
theorem H8 (D:Int)(a:D≠0)(c:D.natAbs<=999999999)(h:(r.f.all (wlB D) && wlB D r.b)=true):RowI r:=by
 simp only [PL,PT] at h;exact ⟨D,a,c,fun q d=>DM (h.1 q d),DM h.2⟩
def xP (i:Nat):Pt:=if i<2 then (3,0) else if i=2 then (0,0) else (6,0)
def xD (i:Nat):Rat:=if i=1 then 5 else if i=3 then 1 else 4
def xX (i:Nat):Str:=if i=1 then [53] else if i=3 then [49] else [52]
def xN (i:Nat):Str:=if i % 2=0 then [97] else [98]
def xO (i:Nat):Obs:=⟨2,xN i,qtx (xP i).1,qtx (xP i).2,xX i,[66],[65],[],[],[]⟩
def xT (i:Nat):Obs:=⟨2,xN i,if i<2 then [51] else if i=2 then [48] else [54],[48],xX i,[66],[65],[],[],[]⟩
def xB (l:List Nat):Bk:=⟨[(0,0),(6,0),(0,4)],[(0,1,2)],[[49,48],[49,48],[49,48]],[⟨[65],0,none⟩,⟨[66],0,none⟩],l.map xO⟩
def xFs:List Rat:=[10,10,10]
theorem EK:qtx 3=[51]:=gK (z:=3) ar
theorem Kh:qtx 4=[52]:=gK (z:=4) ar
theorem NZ:qtx 5=[53]:=gK (z:=5) ar
theorem Ii:qtx 6=[54]:=gK (z:=6) ar
theorem LM:qtx 1=[49]:=gK (z:=1) ar
theorem NY:qtx 10=[49,48]:=gK (z:=10) ar
theorem xX_e (i:Nat):qtx (xD i)=xX i:=by
 unfold xD xX;split
 ·exact NZ
 split
 ·exact LM
 exact Kh
theorem Hm (i:Nat):xO i=xT i:=by
 unfold xO xT xP;split
 ·simp only [EK,qtx_zero]
 split <;> simp only [qtx_zero,Ii]
theorem JX:∀ i<4,QB 22 (xD i)/\QB 22 (xP i).1/\QB 22 (xP i).2/\QB 22 (10-xD i)/\QP 23 (xP i):=by decide +kernel
theorem KY (i:Nat)(a:i<4):dB (xX i)=xD i:=LI (xD i) (xX_e i) (JX i a).1
theorem OY (i:Nat)(a:i<4):aV (xX i)=true:=by rw [<- xX_e];exact bC (JX i a).1
theorem x_pt (i:Nat)(a:i<4):ptO (xO i)=xP i:=by
 unfold ptO;show (dB (qtx (xP i).1),dB (qtx (xP i).2))=xP i;rw [gt (bC (JX i a).2.1),gt (bC (JX i a).2.2.1)]
theorem Ht:∀ i<4,nt (xB []).pts (xB []).tris (xP i)=[0]:=by decide +kernel
theorem x_sh:∀ i<4,dD (xT i)=0:=by decide +kernel
theorem Nk:∀ i<4,J1 (xB []).col (xT i)=false/\ordB (xB []).col (xT i)=false/\Hs (xT i)=false/\0<=jS (isU (xT i).upper) (xB []).col 0:=by decide +kernel
theorem OV:∀ i<4,decide (xD i<0)=false:=by decide +kernel
theorem x_ov (i:Nat)(a:i<4):gd (xB []).pts (xB []).tris (xB []).col (xO i)=0:=by
 obtain ⟨h1,h2,h3,_⟩:=Nk i a;unfold gd;rw [aF (by rw [Hm i,x_sh i a];decide),aF (by unfold Jw;rw [x_pt i a,Ht i a];decide),aF (by rw [Hm i,h1];decide),aF (by rw [Hm i,h2];decide),aF (by
  unfold depB;rw [show (xO i).depth=xX i from rfl,KY i a,OV i a,Bool.and_false];decide),aF (by rw [Hm i,h3];decide)]
theorem x_on:∀ i<4,onQ (xB []).pts xFs (0,1,2) (xP i)=10:=by decide +kernel
theorem Nj (i:Nat)(a:i<4):Hn (xB []).pts (xB []).tris xFs (xP i)=.tuple #[ah (qtx 10),.int .i64 0]:=by
 unfold Hn;rw [Ht i a];show Ff (onQ (xB []).pts xFs (0,1,2) (xP i))=_;rw [x_on i a];unfold Ff;rw [aL (bC ar)]
theorem x_w3:∀ i<4,∀ j<3,QB 22 (wgt (xB []).pts (0,1,2) (xP i) j):=by decide +kernel
theorem x_w (i:Nat)(a:i<4)(j:Nat):QB 22 (wgt (xB []).pts (0,1,2) (xP i) j):=by
 rw [K1];exact x_w3 i a _ (P2 _ dc_)
theorem x_sl:∀ j,QP 22 (slf (xB []).pts (0,1,2) j):=by
 intro j;unfold slf;rw [HC];rcases (by omega:min j 2=0∨min j 2=1∨min j 2=2) with h | h | h <;> rw [h] <;> decide +kernel
theorem No:Good (xB []).pts (xB []).tris:=(F1 ar dc_ dc_ dc_).1
def xW (i:Nat):List Rat:=if i<2 then [1/2,1/2,0] else if i=2 then [1,0,0] else [0,1,0]
def xR (i:Nat):List RowQ:=[⟨xW i,10-xD i⟩,⟨(xW i).map (-1*·), -(10-xD i)⟩]
theorem KV:∀ i<4,((cQ (xB []).col (xT i)).flatMap fun k=>[1, -1].map (ju (bs (xB [])) (bp (xB [])) k (atT (0,1,2) (wgt (xB []).pts (0,1,2) (xP i))) (10-xD i)))=xR i:=by decide +kernel
theorem JV (l:List Nat)(i:Nat)(a:i<4):rowsO (xB l) (xO i) (xP i) (0,1,2) 10=xR i:=by
 unfold rowsO;rw [aF (by show ¬ ((2:Int)=1);decide),aL (by rfl)];unfold nU;rw [show (xO i).depth=xX i from rfl,KY i a,Hm i];exact KV i a
theorem Nm:∀ i<4,∀ r∈xR i,ON r:=by unfold ON;decide +kernel
theorem JW (i:Nat)(a:i<4):∀ r∈xR i,RowI r:=by
 have:∀ i<4,∀ r∈xR i,(r.f.all (wlB 2) && wlB 2 r.b)=true:=by decide +kernel
 exact fun r hr=>H8 2 dc_ dc_ (this i a r hr)
theorem OU (i:Nat)(a:i<4):ObsR (xO i):=by
 have:∀ i<4,(xT i).name.length<=9/\(xT i).x.length<=9/\(xT i).y.length<=9/\(xT i).depth.length<=9:=by decide +kernel
 obtain ⟨h1,h2,h3,h4⟩:=this i a;rw [Hm i];exact ⟨by omega,by omega,by omega,by omega,(by decide:1<=999998),(by decide:1<=999998),(by decide:0<=999998),(by decide:0<=999998),(by decide:0<=999998)⟩
theorem K0 {o:Obs}(h:(xB l).obs[k]?=some o):∃ i,l[k]?=some i/\o=xO i:=by
 have a:(l.map xO)[k]?=some o:=h;rw [PD] at a;cases b:l[k]? with
 | none=>rw [b] at a;cases a
 | some i=>rw [b] at a;exact ⟨i,rfl,(Q8 a).symm⟩
structure XOk (l:List Nat):Prop where
 lt:∀ i∈l,i<4
 nd:(l.map xN).Nodup
 len:l.length<=4
theorem JY {l:List Nat}(b:XOk l):∀ n,n<=l.length->tN (xB l) n=0
 | 0,_=>rfl
 | n+1,m=>by
  have d:=JY b n om_;show (if tN (xB l) n≠0 then tN (xB l) n else obZ (xB l) ((xB l).obs.take n) ((xB l).obs.getD n II))=0;rw [aF (by rw [d];decide)];have c:l[n]?=some l[n]:=al om_;have f:(xB l).obs.getD n II=xO l[n]:=Kr (by
   show (l.map xO)[n]?=_;rw [PD,c];rfl)
  rw [f];unfold obZ;rw [aF (by rw [show gd (xB l).pts (xB l).tris (xB l).col (xO l[n])=0 from x_ov _ (b.lt _ (Qq _))];decide),aF fun hm=>?_];obtain ⟨o,g,e⟩:=PF.1 hm;obtain ⟨j,a⟩:=Rr g;rw [Qm] at a;split at a
  ·rename_i p;obtain ⟨i,h,rfl⟩:=K0 a;have k:xN i=xN l[n]:=e;have h1:(l.map xN)[j]?=some (xN l[n]):=by rw [PD,h];exact congrArg some k
   have h2:(l.map xN)[n]?=some (xN l[n]):=by rw [PD,c];rfl
   have:=(List.getElem?_inj (by rw [am];omega) b.nd).1 (h1.trans h2.symm);omega
  cases a
theorem om (l:List Nat):(xB l).obs.length=l.length:=by simp [xB]
theorem O0 (a:XOk l):fK (xB l)=0:=by
 unfold fK;have:=a.len;rw [aF (by show ¬ (uf (xB []).pts.length (xB []).terr≠0);decide +kernel),aF (by show ¬ (nY (xB []).col≠0);decide +kernel),aF (by rw [om];omega),om];exact JY a _ (Py _)
theorem O1 (b:XOk l):BookR (xB l):=by
 refine ⟨by show ∀ x∈(xB []).terr,_;decide, ?_,by show (xB []).col.length<=_;decide,fun o c=>?_⟩
 ·intro x a;simp only [xB,PN,QH,R8] at a;rcases a with rfl | rfl
  ·exact ⟨by decide +kernel,fun q h=>by simp at h,by decide⟩
  exact ⟨by decide +kernel,fun q h=>by simp at h,by decide⟩
 obtain ⟨k,d⟩:=Rr c;obtain ⟨i,e,rfl⟩:=K0 d;exact OU i (b.lt i (Px e))
theorem Nq (l:List Nat)(i:Nat)(a:i<4):Fine (xB l) xFs (xO i) (xP i) 0 (0,1,2) 10:=by
 obtain ⟨f,b,c,d,e⟩:=JX i a;refine ⟨⟨Z,Z,e,⟨bC b,bC c⟩,fun _=>OY i a⟩,⟨[],Ht i a⟩,Z,Nj i a,by decide +kernel, ?_,x_w i a, ?_,x_sl,fun _ h=>absurd Z h, ?_⟩
 ·unfold nU;rw [aL (by rfl),show (xO i).depth=xX i from rfl,KY i a];exact d
 ·exact (Nk i a).2.2.2
 rw [JV l i a];exact Nm i a
theorem Nl (l:List Nat):Terr (xB l) xFs:=⟨by simp [xB,xFs,NY],rfl,by decide +kernel⟩
def xRO (l:List Nat)(k:Nat):List RowQ:=xR (l.getD k 0)
theorem xz (b:XOk l):Calm (xB l) xFs (xRO l):=by
 have c:∀ k,k<l.length->l.getD k 0<4:=fun k d=>by
  rw [ay,al d];exact b.lt _ (Qq _)
 have h4:=b.len;refine ⟨⟨No,O1 b,O0 b,Nl l,(by decide:3<=60),fun k o e=>?_⟩,(by decide:3<=12),fun r hr=>?_,fun i a=>JW _ (c i (by rw [om] at a;exact a)), ?_,fun i a=>(by show 2<=8;decide),by rw [om];omega⟩
 ·obtain ⟨i,a,rfl⟩:=K0 e;have h1:=b.lt i (Px a);refine ⟨_,_,_,_,Nq l i h1, ?_⟩;rw [JV l i h1,xRO,ay,a];rfl
 ·have:bH (xB l)=[]:=rfl;rw [this] at hr;cases hr
 have:bH (xB l)=[]:=rfl;rw [this];decide
theorem ok0:XOk [0]:=⟨by decide,by decide,by decide⟩
theorem ok01:XOk [0,1]:=⟨by decide,by decide,by decide⟩
theorem ok23:XOk [2,3]:=⟨by decide,by decide,by decide⟩
theorem rows0:eg (xB [0]) (xRO [0])=xR 0:=by rw [eg,js,om];rfl
theorem NN:eg (xB [0,1]) (xRO [0,1])=xR 0++xR 1:=by rw [eg,js,om];rfl
theorem NM:eg (xB [2,3]) (xRO [2,3])=xR 2++xR 3:=by rw [eg,js,om];rfl
theorem OW:Lp.Val (ci 3 (eQ (xR 0))) (fun j=>([1/2,1/2,0]:List Rat).getD j 0) 1 6:=by
 refine .inl ⟨Z,⟨fun _=>6,jh.2 ar,by decide +kernel⟩,fun y hy=>?_⟩;have h1:=jh.1 hy ⟨[-1/2, -1/2,0], -6⟩ ar;show _<=Lp.sumN _ 3;simp only [Lp.sumN,ay,List.getElem?_cons_zero,Q6,QQ] at h1 ⊢;grind
theorem Nn:Lp.Val (ci 3 (eQ (xR 0))) (fun j=>([-1/2, -1/2,0]:List Rat).getD j 0) 1 (-6):=by
 refine .inl ⟨Z,⟨fun _=>6,jh.2 ar,by decide +kernel⟩,fun y hy=>?_⟩;have h1:=jh.1 hy ⟨[1/2,1/2,0],6⟩ ar;show _<=Lp.sumN _ 3;simp only [Lp.sumN,ay,List.getElem?_cons_zero,Q6,QQ] at h1 ⊢;grind
theorem x_no:¬ (ci 3 (eQ (xR 0++xR 1))).Hold:=by
 rintro ⟨y,hy⟩;have h1:=jh.1 hy ⟨[-1/2, -1/2,0], -6⟩ ar;have h2:=jh.1 hy ⟨[1/2,1/2,0],5⟩ ar;simp only [Lp.sumN,ay,List.getElem?_cons_zero,Q6,QQ] at h1 h2;grind
def es3:List (Nat × Nat):=[(0,1),(0,2),(1,2)]
theorem Oq:EdgL [(0,1,2)] es3:=by
 refine ⟨by simp [es3,ltP],fun e=>?_⟩;rw [show bO [(0,1,2)]=[(0,1),(1,2),(2,0)] from rfl];obtain ⟨x,y⟩:=e;simp only [es3,PN,QH,R8,RF];omega
theorem Oo:EdgeOk 1 3 es3:=⟨by decide⟩
theorem Np:Lp.Val (ci (1*3+1*es3.length) (eQ (ya (xR 2++xR 3) (1*3) 3 es3 (1*es3.length)))) (fun j=>(mC (1*3) (1*es3.length)).getD j 0) 1 6:=by
 refine .inl ⟨Z,⟨fun j=>([6,9,6,3,0,3]:List Rat).getD j 0,jh.2 ar,by decide +kernel⟩,fun y hy=>?_⟩;obtain ⟨h0,h2⟩:=(Kb Oo ar).1 hy;have h1:=jh.1 h0 ⟨[1,0,0],6⟩ ar;have h3:=jh.1 h0 ⟨[0, -1,0], -9⟩ ar;have a:=xl.1 (h2 0 dc_);have b:=xl.1 (h2 1 dc_);have c:=xl.1 (h2 2 dc_);rw [show Nc 3 es3 y 0=y 0-y 1 from rfl] at a;rw [show Nc 3 es3 y 1=y 0-y 2 from rfl] at b;rw [show Nc 3 es3 y 2=y 1-y 2 from rfl] at c;rw [show Lp.sumN (fun j=>(mC (1*3) (1*es3.length)).getD j 0*y j) (ci (1*3+1*es3.length) (eQ (ya (xR 2++xR 3) (1*3) 3 es3 (1*es3.length)))).n=_ from Fe (h:=1*3) (more:=1*es3.length)];show _<=Lp.sumN (fun k=>y (3+k)) 3;simp only [Sg,Lp.sumN,ay,List.getElem?_cons_zero,Q6,QQ,Ru,Nat.reduceAdd] at h1 h3 a b c ⊢;grind
abbrev tq (q:Rat):Value:=ah (qtx q)
theorem tf (l:List Rat):(l.map aQ).flatten=l.map tq:=ef tq l
theorem ff {l:List Rat}(h:i<l.length):aD (l.map tq) [tq x] i=(l.set i x).map tq:=by
 rw [List.set_eq_take_append_cons_drop,aL h];unfold aD;simp [List.map_drop]
theorem Kd (n:Nat):List.replicate n (ah [48])=(List.replicate n (0:Rat)).map tq:=by rw [ld,tf]
def xA (n a:Nat)(t:Tri)(w:Nat->Rat):Nat->List Rat
 | 0=>List.replicate n 0
 | j+1=>(xA n a t w j).set (a+iq t j) (w j)
theorem fe (n a:Nat)(t:Tri)(w:Nat->Rat):∀ j,(xA n a t w j).length=n
 | 0=>P9
 | j+1=>by rw [xA,Qf,fe n a t w j]
theorem Hw (C:Mem)(k:Tabs C)(f:Value)(B:Bk)(L:List Rat)(M:Nat->List RowQ)(s:Nat)(p:Pt)(i:Nat)(r:List Nat)(t:Tri)(b:BookIn C f B)(h:Calm B L M)(N:s<bs B)(x:QP 23 p)(y:PtR p)
  (O:nt B.pts B.tris p=i::r) (l:B.tris[i]?=some t) (Q:∀ j,QB 22 (wgt B.pts t p j)) :
  Pur cx.P 59 [f,.int .i64 s,ptV p] C fun u D=>∃ v,u=.tuple #[v,.int .i64 0]/\Sl D 1 v ((xA (bs B*bp B) (s*bp B) t (wgt B.pts t p) 3).map aQ):=by
 have S:=b;have o:=h.rich.good;have T:=h.rich.bookz k b;have U:=h.n12;have V:=o.ok.ins t (Px l);have q:∀ D:Mem,C.le D->Gives cx.P 92 [f] D (.tuple #[.int .i64 (bs B*bp B:Nat),.int .i64 0]):=fun D W=>by
  have h:=yM D f B 0 (T.mono W) om_;rw [aL rfl] at h;exact h
 obtain ⟨z,A,tv,cv,ov,rfl,h1,h2,h3,h4,h5⟩:=id b.ex;have hm:MeshIn C (.agg ⟨[z,A]⟩) B.pts B.tris:=⟨z,A,rfl,h1,h2⟩;obtain ⟨A1,c1,rfl,X,_⟩:=id h1;obtain ⟨A2,c2,rfl,Y,_⟩:=id h2;have aa:(B.pts.map cY).length=bp B:=am _;have ab:(B.tris.map gz).length=B.tris.length:=am _;simp only [aa,ab] at h1 X h2 Y hm S q ⊢;have al:maxLen<=9223372036854775807:=by simp [maxLen]
 obtain ⟨n,E⟩:∃ n,bs B*bp B=n:=⟨_,rfl⟩;have c:∀ j,s*bp B+iq t j<n:=fun j=>by rw [<- E];exact Fh N (eH V j)
 rw [E] at q U ⊢;have an:=c 0;have ao:=c 1;have ap:=c 2;refine Tk func59 78 U3 fun w0=>?_;refine Tf fun R a=>?_;refine Tv U6 (fun b3=>?_);refine Tv U6 (fun b5=>?_);refine C6 2 [1,3,5] a Z ?_;clear a R;refine G.freeze 1 Z (fun _ _ d=>?_);refine G.freeze 0 Z (fun _ _ F=>?_);refine Tf fun R a=>?_;refine Td (bkT d 5) U8 ?_;refine To (q _ mup) U7 ?_;refine C6 5 [1,3,5,8,9] a Z ?_;clear a R;refine Tb 2 [1,3,5,8,9,21] Z ?_;refine G.cd (fun H=>?_) fun H=>?_
 ·exact absurd H dc_
 refine Tc 1 Z fun R a=>?_;refine Td (bkT d 2) U8 ?_;refine Td (bkT F 2) U8 ?_;refine TM (lC _ k.m_ _ B.pts B.tris p hm.m_ o x y) U7 (fun ar _ _ ac=>?_);obtain ⟨wv,rfl,g⟩:=ac;rw [O] at g;obtain ⟨Aw,cw,rfl,_⟩:=id g;refine C6 5 [1,3,5,8,9,10] a Z ?_;clear a R;refine Tb 2 [1,3,5,8,9,10,31] Z ?_;refine G.cd (fun I=>?_) fun I=>?_
 ·exact absurd I dc_
 refine Tb 3 [1,3,5,8,10,35] Z ?_;refine G.cd (fun J=>?_) fun J=>?_
 ·exact absurd (OQ J) aq
 refine Tx [0,1,2,3,4,5,6,7,8,9,10,11,12] [(6,1)] Z kr_ (fun R b a=>?_);refine Te U6 ?_;refine Td (bkT d 2) U8 ?_;refine Te U6 ?_;refine Tt g.m_ U10 om_ (rfl:(List.map aS (i::r))[0]?=some (aS i)) fl_ (fun au ad=>?_);refine Td ad U8 ?_;refine Td (bkT F 2) U8 ?_;refine TO (fun _=>(vC _ k.m_ _ B.pts B.tris p i t hm.m_ o x y l Q)) U9 ?_;refine Tg 3 Z ?_;refine Tq U5 (fun ae=>?_);refine Tj (j:=0) U12 ?_;refine Te U6 ?_;refine Th [1,3,8,9,10,11] a Z ?_;clear a b R;refine Tb 2 [1,3,8,9,10,11,47] Z ?_;refine G.cd (fun K=>?_) fun K=>?_
 ·exact absurd K dc_
 refine TC [(1,3)] Z (fun R a=>?_);refine Te U6 ?_;refine D.call (lK _ n om_) Z (.inr dc_) U6 (PC _) fl_ (fun av _ aw _ af=>?_);refine C6 1 [1,3,10,11,12] a Z ?_;clear a R;obtain ⟨bz,rfl,rfl⟩:=af;refine G.freeze 1 Z (fun _ _ w=>?_);refine Tx [0,1,2,3,4,5,6,7,8] [] Z kr_ (fun R b a=>?_);refine Tg 2 Z ?_;refine Td (bkT d 1) U8 ?_;refine Te U6 ?_;refine Tt g.m_ U10 om_ (rfl:(List.map aS (i::r))[0]?=some (aS i)) fl_ (fun ax ag=>?_);refine Td ag U8 ?_;refine Tt h2.m_ U10 om_ (by rw [PD,l];rfl:(B.tris.map gz)[i]?=some (gz t)) fl_ (fun ay ah=>?_);refine Td ah U8 ?_;refine Te U6 ?_;refine Th [1,3,11,12,58,59] a Z ?_;clear a b R;refine Tu (L':=[.arr (.slice (some ⟨bz,0,none⟩) n n) 32 1 n ((xA n (s*bp B) t (wgt B.pts t p) 0).map tq)]) (by rw [Kd];rfl) ?_;refine G.loop (fun fr C' e μ=>∃ (j:Nat),(j<=3)/\fr=[(1,[],.int .i64 s),(3,[],.pointer (some ⟨b3,0,none⟩)),(11,[],.pointer (some ⟨ae,0,none⟩)),(12,[],.slice (some ⟨bz,0,none⟩) n n),(58,[],.agg ⟨gz t⟩),(59,[],.int .i64 j)]/\e=[.arr (.slice (some ⟨bz,0,none⟩) n n) 32 1 n ((xA n (s*bp B) t (wgt B.pts t p) j).map tq)]/\μ=3-j) (hn_ [1,3,11,12,58,59] Z) ⟨0,PG _,Z,Z,Z⟩ (fun fr az aA m _ hI=>?_);obtain ⟨j,hj,rfl,rfl,rfl⟩:=hI;refine Tb 1 [1,3,11,12,58,59,60] Z ?_;refine G.cd (fun h60=>?_) fun h60=>?_
 ·have aB:j<3:=by
   have:=OQ h60;omega
  rcases (by omega:j=0∨j=1∨j=2) with rfl | rfl | rfl
  ·refine Tc 1 Z fun R a=>?_;refine Uf U11 (fun _=>⟨by omega,by omega,(show (gz t)[((0:Nat):Int).toNat]?=some (.int .i64 ((iq t 0:Nat):Int)) from by rw [<- zG];exact pP t dc_)⟩) U2 ?_;refine C6 2 [1,3,11,12,13,14,58,59] a Z ?_;clear a R;refine Tx [0,1,2,3,4,5,6,7,8,9,10,11,12,13] [] Z kr_ (fun R b a=>?_);refine Tg 4 Z ?_;refine Td (bkT d 1) U8 ?_;refine Te U6 ?_;refine TL (((s*bp B:Nat):Int)) U4 (Qe _ _) om_ om_ U2 ?_;refine Te U6 ?_;refine TL (((s*bp B+iq t 0:Nat):Int)) U4 om_ om_ om_ U2 ?_;refine Te U6 ?_;refine Ty (0) U9 ai U2 ?_;refine Td (bkT w 1) U8 ?_;refine TE ((s*bp B+iq t 0)) U10 (fun _=>⟨by omega,by omega,(QG _).symm⟩) U2 ?_;refine TJ (j:=0) U11 (by rw [am,fe];have:=c 0;simp;omega) ?_;refine Th [1,3,11,12,58,59] a Z ?_;clear a b R;refine Tf fun R a=>?_;refine Tm _ U7 ?_;refine C6 1 [1,3,11,12,58,59] a Z ?_;clear a R;refine Tu (L':=[.arr (.slice (some ⟨bz,0,none⟩) n n) 32 1 n ((xA n (s*bp B) t (wgt B.pts t p) 1).map tq)]) (by rw [ff (by rw [fe];exact c 0)];rfl) ?_;refine Tp (m':=2) om_ mup (hn_ [1,3,11,12,58,59] Z) ⟨1,by decide,Z,Z,Z⟩
  ·refine Tc 1 Z fun R a=>?_;refine Uf U11 (fun _=>⟨by omega,by omega,(show (gz t)[((1:Nat):Int).toNat]?=some (.int .i64 ((iq t 1:Nat):Int)) from by rw [<- zG];exact pP t dc_)⟩) U2 ?_;refine C6 2 [1,3,11,12,13,14,58,59] a Z ?_;clear a R;refine Tx [0,1,2,3,4,5,6,7,8,9,10,11,12,13] [] Z kr_ (fun R b a=>?_);refine Tg 4 Z ?_;refine Td (bkT d 1) U8 ?_;refine Te U6 ?_;refine TL (((s*bp B:Nat):Int)) U4 (Qe _ _) om_ om_ U2 ?_;refine Te U6 ?_;refine TL (((s*bp B+iq t 1:Nat):Int)) U4 om_ om_ om_ U2 ?_;refine Te U6 ?_;refine Ty (1) U9 ai U2 ?_;refine Td (bkT w 1) U8 ?_;refine TE ((s*bp B+iq t 1)) U10 (fun _=>⟨by omega,by omega,(QG _).symm⟩) U2 ?_;refine TJ (j:=0) U11 (by rw [am,fe];have:=c 1;simp;omega) ?_;refine Th [1,3,11,12,58,59] a Z ?_;clear a b R;refine Tf fun R a=>?_;refine Tm _ U7 ?_;refine C6 1 [1,3,11,12,58,59] a Z ?_;clear a R;refine Tu (L':=[.arr (.slice (some ⟨bz,0,none⟩) n n) 32 1 n ((xA n (s*bp B) t (wgt B.pts t p) 2).map tq)]) (by rw [ff (by rw [fe];exact c 1)];rfl) ?_;refine Tp (m':=1) om_ mup (hn_ [1,3,11,12,58,59] Z) ⟨2,by decide,Z,Z,Z⟩
  refine Tc 1 Z fun R a=>?_;refine Uf U11 (fun _=>⟨by omega,by omega,(show (gz t)[((2:Nat):Int).toNat]?=some (.int .i64 ((iq t 2:Nat):Int)) from by rw [<- zG];exact pP t dc_)⟩) U2 ?_;refine C6 2 [1,3,11,12,13,14,58,59] a Z ?_;clear a R;refine Tx [0,1,2,3,4,5,6,7,8,9,10,11,12,13] [] Z kr_ (fun R b a=>?_);refine Tg 4 Z ?_;refine Td (bkT d 1) U8 ?_;refine Te U6 ?_;refine TL (((s*bp B:Nat):Int)) U4 (Qe _ _) om_ om_ U2 ?_;refine Te U6 ?_;refine TL (((s*bp B+iq t 2:Nat):Int)) U4 om_ om_ om_ U2 ?_;refine Te U6 ?_;refine Ty (2) U9 ai U2 ?_;refine Td (bkT w 1) U8 ?_;refine TE ((s*bp B+iq t 2)) U10 (fun _=>⟨by omega,by omega,(QG _).symm⟩) U2 ?_;refine TJ (j:=0) U11 (by rw [am,fe];have:=c 2;simp;omega) ?_;refine Th [1,3,11,12,58,59] a Z ?_;clear a b R;refine Tf fun R a=>?_;refine Tm _ U7 ?_;refine C6 1 [1,3,11,12,58,59] a Z ?_;clear a R;refine Tu (L':=[.arr (.slice (some ⟨bz,0,none⟩) n n) 32 1 n ((xA n (s*bp B) t (wgt B.pts t p) 3).map tq)]) (by rw [ff (by rw [fe];exact c 2)];rfl) ?_;refine Tp (m':=0) om_ mup (hn_ [1,3,11,12,58,59] Z) ⟨3,by decide,Z,Z,Z⟩
 have aj:j=3:=by
  have:=PE h60;omega
 subst aj;refine Tb 3 [6,7] Z ?_;rw [<- tf];refine G.freezeArr 0 ((xA n (s*bp B) t (wgt B.pts t p) 3).map aQ) Z Z bS (by rw [am,fe]) (fun Cf aC ak=>?_);refine Tn (G.dropAll (TD U3 ?_));exact ⟨Z,_,Z,ak⟩
theorem vo {A B:List Value}{x:Value}(h:A.length=j):aD (A++x::B) [v] j=A++v::B:=by
 subst h;unfold aD;rw [List.take_left,ba];have:List.drop (A.length+1) (A++x::B)=B:=by rw [R5];simp
 rw [this];simp
theorem EV (C:Mem)(G:Tabs C)(n:Nat)(l d:Value)(b:List (List Rat × Rat))(a:List Rat)(H:RowsT C l (b.map fP))(I:RowsQ n b)(J:∀ x∈a,QB 22 x)(K:∀ r∈b,(∀ x∈r.1,QB 22 x)/\QB 22 r.2)(M:n<=60)(z:a.length=n)(N:Lp.Lim (ci n b) (fun j=>a.getD j 0) 20) :
  Jog.Fn cx.P 21 [.agg ⟨[.int .i64 n,l,d]⟩] C [.arr d 32 1 n (a.map tq)] fun u _ g=>(∃ (kd:Int)(v:Rat)(i:Str)(o:Option Addr)(n1 p:Nat)(A2:Option Addr)(n2 c2:Nat)(q:Option Addr)(t w:Nat),
   u=.tuple #[.agg ⟨[.int .i64 kd,ah i,.slice o n1 p,.slice A2 n2 c2,.slice q t w]⟩,.int .i64 0]/\(kd=1->i=qtx v)/\Lp.Val (ci n b) (fun j=>a.getD j 0) kd v/\QB 20 v)/\g=[.arr d 32 1 n (a.map tq)]:=by
 have h1:=UK (P:=cx.P) (f:=21) (args:=[.agg ⟨[.int .i64 n,l,d]⟩]) (C:=C) (L:=[]) (v:=d) (e:=32) (s:=1) (m:=n) (rows:=a.map aQ)
  (post:=fun u g=>g=[]/\∃ (kd:Int)(v:Rat)(i:Str)(o:Option Addr)(n1 p:Nat)(A2:Option Addr)(n2 c2:Nat)(q:Option Addr)(t w:Nat),
   u=.tuple #[.agg ⟨[.int .i64 kd,ah i,.slice o n1 p,.slice A2 n2 c2,.slice q t w]⟩,.int .i64 0]/\(kd=1->i=qtx v)/\Lp.Val (ci n b) (fun j=>a.getD j 0) kd v/\QB 20 v) kr_ bS (by rw [am,z]) fun D B hs=>by
  refine Fn.mono (EW D (G.mono B) n l d b a (H.mono B) hs I J K M z N) fun u E g _ ⟨h0,r,h1,h2⟩=>⟨h0, ?_⟩;subst h1;cases h2 with
  | opt val pt du O Q F k y =>
   obtain ⟨A,c,rfl,_⟩:=id k;obtain ⟨A2,c2,rfl,_⟩:=id y;exact ⟨1,val,_,_,_,_,_,_,_,_,_,_,Z,fun _=>rfl,F.val,F.qv⟩
  | inf du Q R k =>
   obtain ⟨A,c,rfl,_⟩:=id k;exact ⟨2,0,_,_,_,_,_,_,_,_,_,_,Z,fun h=>absurd h dc_,R.val 0,QB_zero.le dc_⟩
  | unb pt ra O T S k y =>
   obtain ⟨A,c,rfl,_⟩:=id k;obtain ⟨A2,c2,rfl,_⟩:=id y;exact ⟨3,0,_,_,_,_,_,_,_,_,_,_,Z,fun h=>absurd h dc_,S.val 0,QB_zero.le dc_⟩
 rw [tf] at h1;exact Fn.mono h1 fun u E U _ ⟨g,h2,h3,h4⟩=>⟨h4,by rw [h2,h3]⟩
def rx (k:Nat):Rat:=if k=0 then 1 else -1
def DB (kd:Int)(v:Rat):Str:=if kd=1 then qtx (1*v) else []
def nH (kd:Int)(v:Rat):Str:=if kd=1 then qtx (-1*v) else []
def sgL (c:List Rat)(k:Nat):List Rat:=c.map (rx k*·)
def KP (p:Lp.Sys)(c:List Rat)(u:Value):Prop:=∃ (kd1:Int)(v1:Rat)(kd2:Int)(v2:Rat),(QB 20 v1/\QB 20 v2)/\Lp.Val p (fun j=>(sgL c 0).getD j 0) kd1 v1/\(kd1≠2->Lp.Val p (fun j=>(sgL c 1).getD j 0) kd2 v2) /\
 ((kd1=2/\u=.tuple #[ah [],ah [],.int .i64 22])∨(kd1≠2/\u=.tuple #[ah (DB kd1 v1),ah (nH kd2 v2),.int .i64 0]))
theorem Hy {p:Lp.Sys}{d:Nat->Rat}{c:Int}{v w:Rat}(h:Lp.Val p cc kd v)(k:Lp.Val p d c w)(f:kd≠2):c≠2:=by
 intro e;have b:¬ p.Hold:=by
  rcases k with ⟨a,_⟩ | ⟨_,b⟩ | ⟨a,_⟩
  ·rw [a] at e;cases e
  ·exact b
  rw [a] at e;cases e
 rcases h with ⟨_,⟨y,hy,_⟩,_⟩ | ⟨a,_⟩ | ⟨_,hh,_⟩
 ·exact b ⟨y,hy⟩
 ·exact f a
 exact b hh
theorem EL:qtx (-1)=[45,49]:=gK (z:=-1) ar
theorem sgns:[[ah [49]],[ah [45,49]]]=([1, -1]:List Rat).map aQ:=by
 show _=[[ah (qtx 1)],[ah (qtx (-1))]];rw [LM,EL]
theorem J9 (a:k<2):([1, -1]:List Rat)[k]?=some (rx k):=by
 rcases (by omega:k=0∨k=1) with rfl | rfl <;> rfl
theorem zT (k:Nat):QB 22 (rx k):=by
 unfold rx;split
 ·decide +kernel
 decide +kernel
abbrev sO2 (A:Option Addr)(n c:Nat):Value:=.slice A n c
theorem FU (C:Mem)(H:Tabs C)(Q:Value)(B:Bk)(M:List Rat)(o:Nat->List RowQ)(s:Nat)(p:Pt)(i:Nat)(r:List Nat)(t:Tri)(x0:Str)(v:BookIn C Q B)(h:Calm B M o)(hs:s<bs B)(hq:QP 23 p)(hr:PtR p)
  (hl:nt B.pts B.tris p=i::r) (ht:B.tris[i]?=some t) (S:∀ j,QB 22 (wgt B.pts t p j)) (hv:Hn B.pts B.tris M p=.tuple #[ah x0,.int .i64 0])
  (T:∀ k,k<2->Lp.Lim (D4 B o) (fun j=>(sgL (xA (bs B*bp B) (s*bp B) t (wgt B.pts t p) 3) k).getD j 0) 20) :
  Pur cx.P 14 [Q,.int .i64 s,ptV p] C fun u _=>KP (D4 B o) (xA (bs B*bp B) (s*bp B) t (wgt B.pts t p) 3) u:=by
 have aH:=v;have hG:=h.rich.good;have aI:=h.n12;have hS:=eo B.obs.length;have ao:=h.rowsQ hS;have aJ:=h.q22 hS;have U:=h.rich.terr;obtain ⟨b,Y⟩:∃ b,xA (bs B*bp B) (s*bp B) t (wgt B.pts t p) 3=b:=⟨_,rfl⟩;have J:b.length=bs B*bp B:=by rw [<- Y];exact fe _ _ _ _ _
 have aa:∀ x∈b,QB 22 x:=fun x c=>by
  rw [<- Y] at c;simp only [xA] at c;rcases Qx c with c | rfl
  ·rcases Qx c with c | rfl
   ·rcases Qx c with c | rfl
    ·rw [(List.mem_replicate.1 c).2];exact QB_zero.le dc_
    exact S 0
   exact S 1
  exact S 2
 have ab:=fun (D:Mem)(z:C.le D)=>Hw D (H.mono z) Q B M o s p i r t (v.mono z) h hs hq hr hl ht S;rw [Y] at ab T ⊢;have ac:=fun (D:Mem)(z:C.le D)=>kC D (H.mono z) Q B M o (v.mono z) h;unfold D4 at T ⊢;obtain ⟨n,hn⟩:∃ n,bs B*bp B=n:=⟨_,rfl⟩;rw [hn] at J aI ao ac T ⊢;obtain ⟨v1,v2,tv,cv,ov,rfl,h1,h2,h3,h4,h5⟩:=id v.ex;have hm:MeshIn C (.agg ⟨[v1,v2]⟩) B.pts B.tris:=⟨v1,v2,rfl,h1,h2⟩;rw [U.e,<- fH] at h3;have ar:=fun (D:Mem)(z:C.le D)=>zy D (H.mono z) (.agg ⟨[v1,v2]⟩) tv B.pts B.tris M 22 dc_ dc_ (hm.mono z) hG (h3.mono z) U.l U.q (J5 U) p hq hr;rw [hv] at ar;obtain ⟨A4,c4,rfl,aK,_⟩:=id h4;have aL:(B.col.map lQ).length=bs B+1:=by rw [am];have:=h.rich.scol.1;omega
 simp only [aL] at h4 aK aH ab ac ⊢;have a0:maxLen<=9223372036854775807:=by simp [maxLen]
 refine Tk func14 110 U3 fun w0=>?_;refine Tf fun R a=>?_;refine Tv U6 (fun b3=>?_);refine Tv U6 (fun b5=>?_);refine C6 3 [1,3,5] a Z ?_;clear a R;refine G.freeze 1 Z (fun _ _ N=>?_);refine G.freeze 0 Z (fun _ _ au=>?_);refine TC [(1,3)] Z (fun R a=>?_);refine Td (bkT N 5) U8 ?_;refine D.call (ac _ mup) Z (.inr dc_) U6 (PC _) fl_ (fun a1 aM a2 _ aN=>?_);obtain ⟨Ar,cr,A,vs,rfl,av,rfl⟩:=aN;refine Tg 3 Z ?_;refine Tq U5 (fun b9=>?_);refine Tj (j:=0) U12 ?_;refine C6 1 [1,3,5,8,9] a Z ?_;clear a R;refine Tb 2 [1,3,5,8,9,26] Z ?_;refine G.cd (fun aw=>?_) fun aw=>?_
 ·exact absurd aw dc_
 refine Tc 5 Z fun R a=>?_;refine TF U6 (fun _=>PtrTo.blockT (Mem.get N mup) _ 1) U3 ?_;refine Te U6 ?_;refine Tm _ U7 ?_;refine Te U6 ?_;refine TN U8 ?_;refine Th [1,3,5,9,37] a Z ?_;clear a R;refine G.cd (fun ax=>?_) fun ax=>?_
 ·exact absurd ax aq
 refine Tc 1 Z fun R a=>?_;refine Td (bkT N 2) U8 ?_;refine Te U6 ?_;refine Td (bkT N 1) U8 ?_;refine Td (bkT au 2) U8 ?_;refine To (ar _ mup) U7 ?_;refine C6 5 [1,3,5,9,11] a Z ?_;clear a R;refine Tb 2 [1,3,5,9,11,48] Z ?_;refine G.cd (fun ay=>?_) fun ay=>?_
 ·exact absurd ay dc_
 refine Tf fun R a=>?_;refine Td (bkT N 5) U8 ?_;refine Te U6 ?_;refine Td (bkT au 2) U8 ?_;refine TM (ab _ mup) U7 (fun a3 _ _ aO=>?_);obtain ⟨uv,rfl,ad⟩:=aO;obtain ⟨Au,cu,rfl,_⟩:=id ad;simp only [am,J] at ad ⊢;refine C6 5 [8,9,12] a Z ?_;clear a R;refine Tb 2 [8,9,12,58] Z ?_;refine G.cd (fun az=>?_) fun az=>?_
 ·exact absurd az dc_
 refine Tf fun R a=>?_;refine Tq U5 (fun f=>?_);refine Th [9,12,13] a Z ?_;clear a R;refine G.freezeArr 2 (aE vs (eg B o)) Z Z (bX _ _) (by rw [bN av.1]) (fun _ _ aP=>?_);refine G.freeze 1 Z (fun aR _ aA=>?_);have aS:=tx (RowsOk.m_ av) (aP.mono mup:Sl aR 2 _ _);refine Tf fun R a=>?_;refine Ub [[ah [49]],[ah [45,49]]] U12 fl_ (fun aB _ _ aC=>?_);refine C6 2 [9,12,13,60,61,62] a Z ?_;clear a R;rw [sgns] at aC;refine G.perm (L':=[.arr (sO2 (some ⟨A,0,none⟩) n n) 32 1 n (List.replicate n (ah [48])),.obj f (.cells ⟨[ah (if 0<0 then DB 0 0 else []),ah (if 1<0 then nH 0 0 else [])]⟩ 144 (0,0))]) (pkL [1,0] Z) ?_;refine G.loop (fun fr C' g μ=>∃ (k:Nat)(xs:List Value)(d:Int)(w1:Rat)(F:Int)(E:Rat),(k<=2/\xs.length=n/\(QB 20 w1/\QB 20 E)/\(0<k->Lp.Val (ci n (eQ (eg B o))) (fun j=>(sgL b 0).getD j 0) d w1/\d≠2)/\(1<k->Lp.Val (ci n (eQ (eg B o))) (fun j=>(sgL b 1).getD j 0) F E))/\fr=[(9,[],.pointer (some ⟨b9,0,none⟩)),(12,[],.slice Au n cu),(13,[],.pointer (some ⟨f,0,none⟩)),(60,[],.slice (some ⟨aB,0,none⟩) 2 2),(61,[],.int .i64 2),(62,[],.int .i64 k)]/\g=[.arr (sO2 (some ⟨A,0,none⟩) n n) 32 1 n xs,.obj f (.cells ⟨[ah (if 0<k then DB d w1 else []),ah (if 1<k then nH F E else [])]⟩ 144 (0,0))]/\μ=2-k) (hn_ [9,12,13,60,61,62] Z) ⟨0,List.replicate n (ah [48]),0,0,0,0,⟨PG _,P9,⟨QB_zero.le dc_,QB_zero.le dc_⟩,fun h=>absurd h om_,fun h=>absurd h om_⟩,Z,Z,Z⟩ (fun fr a4 a5 m _ hI=>?_);obtain ⟨k,xs,d,w1,F,E,⟨hk,a6,ae,K,aT⟩,rfl,rfl,rfl⟩:=hI;refine Tb 1 [9,12,13,60,61,62,63] Z ?_;refine G.cd (fun ag=>?_) fun ag=>?_
 ·have V:k<2:=by
   have:=OQ ag;omega
  refine Tc 1 Z fun R a=>?_;refine Tt aC.m_ U10 om_ (by rw [PD,J9 V];rfl:(([1, -1]:List Rat).map aQ)[k]?=some (aQ (rx k))) fl_ (fun a7 aU=>?_);refine Td aU U8 ?_;refine C6 2 [9,12,13,14,15,60,61,62] a Z ?_;clear a R;refine Tb 3 [9,12,13,14,15,60,61,62,67,68,69] Z ?_;refine Tu (L':=[.arr (sO2 (some ⟨A,0,none⟩) n n) 32 1 n (((b.take 0).map fun x=>tq (rx k*x))++xs.drop 0),.obj f (.cells ⟨[ah (if 0<k then DB d w1 else []),ah (if 1<k then nH F E else [])]⟩ 144 (0,0))]) ap ?_;refine G.loop (fun fr C' g μ=>∃ (j:Nat),(j<=n)/\fr=[(9,[],.pointer (some ⟨b9,0,none⟩)),(12,[],.slice Au n cu),(13,[],.pointer (some ⟨f,0,none⟩)),(14,[],.int .i64 k),(15,[],ah (qtx (rx k))),(60,[],.slice (some ⟨aB,0,none⟩) 2 2),(61,[],.int .i64 2),(62,[],.int .i64 k),(67,[],.slice Au n cu),(68,[],.int .i64 n),(69,[],.int .i64 j)]/\g=[.arr (sO2 (some ⟨A,0,none⟩) n n) 32 1 n (((b.take j).map fun x=>tq (rx k*x))++xs.drop j),.obj f (.cells ⟨[ah (if 0<k then DB d w1 else []),ah (if 1<k then nH F E else [])]⟩ 144 (0,0))]/\μ=n-j) (hn_ [9,12,13,14,15,60,61,62,67,68,69] Z) ⟨0,PG _,Z,Z,Z⟩ (fun fr a8 a9 m _ hI=>?_);obtain ⟨j,hj,rfl,rfl,rfl⟩:=hI;refine Tb 1 [9,12,13,14,15,60,61,62,67,68,69,70] Z ?_;refine G.cd (fun aj=>?_) fun aj=>?_
  ·have aD:j<n:=by
    have:=OQ aj;omega
   obtain ⟨x,c⟩:∃ x,b[j]?=some x:=⟨b[j]'om_,al om_⟩;have aV:xs.drop j=xs[j]'om_::xs.drop (j+1):=PW om_;have aF:((b.take j).map fun x=>tq (rx k*x)).length=j:=by rw [am,PM];omega
   refine Tc 1 Z fun R a=>?_;refine Tt ad.m_ U10 om_ (by rw [PD,c];rfl:(b.map aQ)[j]?=some (aQ x)) fl_ (fun bb aW=>?_);refine Td aW U8 ?_;refine C6 2 [9,12,13,14,15,16,17,60,61,62,67,68,69] a Z ?_;clear a R;refine Tx [0,1,2,3,4,5,6,7] [(5,1),(1,0)] Z kr_ (fun R v a=>?_);refine Te U6 ?_;refine Uk (fun _=>((bkT aA 2).mono v)) U9 ?_;refine Tg 3 Z ?_;refine TA (fun _=>(cU _ H.m_ (rx k) x 22 dc_ dc_ (zT k) (aa x (Px c)))) U9 ?_;refine TE (j) U10 (fun _=>⟨by omega,by omega,(QG _).symm⟩) U2 ?_;refine TJ (j:=0) U11 (by rw [PH,aF,RB];simp;omega) ?_;refine Th [9,12,13,14,15,60,61,62,67,68,69] a Z ?_;clear a v R;refine Tf fun R a=>?_;refine Tm _ U7 ?_;refine C6 1 [9,12,13,14,15,60,61,62,67,68,69] a Z ?_;clear a R;refine Tu (L':=[.arr (sO2 (some ⟨A,0,none⟩) n n) 32 1 n (((b.take (j+1)).map fun x=>tq (rx k*x))++xs.drop (j+1)),.obj f (.cells ⟨[ah (if 0<k then DB d w1 else []),ah (if 1<k then nH F E else [])]⟩ 144 (0,0))]) (by rw [aV,vo aF,P0,c];simp) ?_;refine Tp (m':=n-(j+1)) om_ mup (hn_ [9,12,13,14,15,60,61,62,67,68,69] Z) ⟨j+1,om_,Z,Z,Z⟩
  have aD:j=n:=by
   have:=PE aj;omega
  subst aD;refine Tu (L':=[.arr (sO2 (some ⟨A,0,none⟩) j j) 32 1 j ((sgL b k).map tq),.obj f (.cells ⟨[ah (if 0<k then DB d w1 else []),ah (if 1<k then nH F E else [])]⟩ 144 (0,0))]) (by rw [Qg om_,Rf om_,PY];unfold sgL;rw [Qv];rfl) ?_;refine TC [(1,3)] Z (fun R a=>?_);refine Td (bkT aA 3) U8 ?_;refine D.call (EV _ H.m_ j _ _ (eQ (eg B o)) (sgL b k) aS.m_ ao (fun y hy=>by
   obtain ⟨x,c,rfl⟩:=PF.1 hy;unfold rx;split
   ·rw [Rat.one_mul];exact aa x c
   rw [show (-1:Rat)*x=-x by grind];exact Lp.qb_neg (aa x c)) aJ om_ (by unfold sgL;rw [am];exact J) (T k V)) rfl (.inr dc_) U6 (PC _) fl_ (fun bc _ bd _ aX=>?_)
  obtain ⟨⟨kd,w,vt,A1,n1,be,A2,n2,bf,A3,n3,bg,rfl,aY,L,I⟩,rfl⟩:=aX;refine Tg 3 Z ?_;refine Tq U5 (fun bh=>?_);refine Tj (j:=0) U12 ?_;refine C6 1 [9,12,13,14,15,18,19,60,61,62] a Z ?_;clear a R;refine G.freeze 0 Z (fun aM _ W=>?_);refine Tb 3 [9,12,13,14,15,18,19,60,61,62,87] Z ?_;refine G.cd (fun aG=>?_) fun aG=>?_
  ·exact absurd aG dc_
  refine Tc 1 Z fun R a=>?_;refine Td (bkT W 1) U8 ?_;refine C6 2 [9,12,13,14,15,18,60,61,62,91] a Z ?_;clear a R;refine G.cd (fun ak=>?_) fun ak=>?_
  ·have O:kd=2:=by simpa using ak
   have aZ:k=0:=by
    rcases Qz k with h | h
    ·exact h
    exact absurd O (Hy (K h).1 L (K h).2)
   subst aZ;refine Tb 3 [6,7,8] Z ?_;refine Tn (G.dropAll (Ug U4 ?_));exact ⟨Z,kd,w,0,0,⟨I,QB_zero.le dc_⟩,L,fun h=>absurd O h,.inl ⟨O,Z⟩⟩
  have O:kd≠2:=by simpa using ak
  refine Tc 1 Z fun R a=>?_;refine Td (bkT W 1) U8 ?_;refine C6 2 [9,12,13,14,15,18,60,61,62,95] a Z ?_;clear a R;refine G.cd (fun an=>?_) fun an=>?_
  ·have X:kd=1:=by simpa using an
   obtain rfl:=aY X;subst X;rcases (by omega:k=0∨k=1) with rfl | rfl
   ·refine Tc 3 Z fun R a=>?_;refine Td (bkT W 1) U8 ?_;refine Ts (cU _ H.m_ (rx 0) w 22 dc_ dc_ (zT 0) (I.le dc_)) U7 fl_ ?_;refine Ty (0) U9 ai U2 ?_;refine Tj (j:=1) U12 ?_;refine Th [9,12,13,60,61,62] a Z ?_;clear a R;refine Tf fun R a=>?_;refine Tm _ U7 ?_;refine C6 1 [9,12,13,60,61,62] a Z ?_;clear a R;refine G.perm (L':=[.arr (sO2 (some ⟨A,0,none⟩) j j) 32 1 j ((sgL b 0).map tq),.obj f (.cells ⟨[ah (if 0<1 then DB 1 w else []),ah (if 1<1 then nH 0 0 else [])]⟩ 144 (0,0))]) (pkL [1,0] Z) ?_;refine Tp (m':=1) om_ mup (hn_ [9,12,13,60,61,62] Z) ⟨1,(sgL b 0).map tq,1,w,0,0,⟨by decide,by unfold sgL;simp [J],⟨I,QB_zero.le dc_⟩,fun _=>⟨L,by decide⟩,fun h=>absurd h dc_⟩,Z,Z,Z⟩
   refine Tc 3 Z fun R a=>?_;refine Td (bkT W 1) U8 ?_;refine Ts (cU _ H.m_ (rx 1) w 22 dc_ dc_ (zT 1) (I.le dc_)) U7 fl_ ?_;refine Ty (1) U9 ai U2 ?_;refine Tj (j:=1) U12 ?_;refine Th [9,12,13,60,61,62] a Z ?_;clear a R;refine Tf fun R a=>?_;refine Tm _ U7 ?_;refine C6 1 [9,12,13,60,61,62] a Z ?_;clear a R;refine G.perm (L':=[.arr (sO2 (some ⟨A,0,none⟩) j j) 32 1 j ((sgL b 1).map tq),.obj f (.cells ⟨[ah (if 0<2 then DB d w1 else []),ah (if 1<2 then nH 1 w else [])]⟩ 144 (0,0))]) (pkL [1,0] Z) ?_;refine Tp (m':=0) om_ mup (hn_ [9,12,13,60,61,62] Z) ⟨2,(sgL b 1).map tq,d,w1,1,w,⟨by decide,by unfold sgL;simp [J],⟨ae.1,I⟩,fun _=>K dc_,fun _=>L⟩,Z,Z,Z⟩
  have X:kd≠1:=by simpa using an
  refine Tf fun R a=>?_;refine Tm _ U7 ?_;refine C6 1 [9,12,13,60,61,62] a Z ?_;clear a R;refine Tu (L':=[.arr (sO2 (some ⟨A,0,none⟩) j j) 32 1 j ((sgL b k).map tq),.obj f (.cells ⟨[ah (if 0<k+1 then DB (if k=0 then kd else d) (if k=0 then w else w1) else []),ah (if 1<k+1 then nH (if k=0 then 0 else kd) (if k=0 then 0 else w) else [])]⟩ 144 (0,0))]) (by rcases (by omega:k=0∨k=1) with rfl | rfl <;> simp [DB,nH,X]) ?_;refine Tp (m':=2-(k+1)) om_ mup (hn_ [9,12,13,60,61,62] Z) ⟨k+1,(sgL b k).map tq,if k=0 then kd else d,if k=0 then w else w1,if k=0 then 0 else kd,if k=0 then 0 else w,⟨by omega,by unfold sgL;simp [J],⟨(by split <;> first | exact I | exact ae.1),(by split <;> first | exact QB_zero.le dc_ | exact I)⟩,fun _=>by
   rcases (by omega:k=0∨k=1) with rfl | rfl
   ·exact ⟨L,O⟩
   ·exact K dc_,fun h=>by
   obtain rfl:k=1:=by omega
   exact L⟩,Z,Z,Z⟩
 have V:k=2:=by
  have:=PE ag;omega
 subst V;refine Tx [0,1,2,3,4,5,6] [] Z kr_ (fun R v a=>?_);refine Ty (0) U9 ai U2 ?_;refine Ti af U9 ?_;refine Ty (1) U9 ai U2 ?_;refine Ti af U9 ?_;refine Tg 3 Z ?_;refine Th [6,7,8] a Z ?_;clear a v R;refine Tn (G.dropAll (Ug U4 ?_));exact ⟨Z,d,w1,F,E,ae,(K dc_).1,fun _=>aT dc_,.inr ⟨(K dc_).2,Z⟩⟩
end Go.Proofs.YtfjcldheldflbaaGreatDoor
