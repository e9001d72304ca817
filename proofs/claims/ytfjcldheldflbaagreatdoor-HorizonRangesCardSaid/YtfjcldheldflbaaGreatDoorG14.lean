/- Laws that the proofs of this seat share, part 14. -/
import Derived.Test.YtfjcldheldflbaaGreatDoorG13
import Derived.Test.YtfjcldheldflbaaGreatDoorShelf
set_option maxHeartbeats 4000000
namespace Go.Proofs.YtfjcldheldflbaaGreatDoor
open Go.Proofs.Tryz
open Go Go.Jog
set_option maxRecDepth 100000
variable {cc:Nat->Rat}{e:Nat × Nat}{es:List (Nat × Nat)}{h i j k:Nat}{kd:Int}{ks:List fw}{l:List Nat}{m more n p:Nat}{pt:Nat->Rat}{r:RowQ}{rows:List RowQ}{s:Nat}{sg:Rat}{tris:List Tri}{u v:Value}{vs:List Value}{w:Value}{x:Rat}{y:Nat->Rat}
theorem SolO.mono {p:Lp.Sys}{d:Nat->Rat}{D E:Mem}{u:Value}(h:SolO p d D u)(a:D.le E):SolO p d E u:=by
 cases h with
 | opt val pt du b c e h1 h2=>exact .opt val pt du b c e (h1.mono a) (h2.mono a)
 | inf du c f h1=>exact .inf du c f (h1.mono a)
 | unb pt ra b g i h1 h2=>exact .unb pt ra b g i (h1.mono a) (h2.mono a)
theorem SolO.m_ {p:Lp.Sys}{D E:Mem}(h:SolO p cc D u)(a:D.le E:=by exact mup):SolO p cc E u:=SolO.mono h a
theorem vJ {p:Lp.Sys}{D:Mem}(h:SolO p cc D u):∃ (kd:Int)(val:Str)(e g i:Value)(a b c:List Rat),u=.agg ⟨[.int .i64 kd,af val,e,g,i]⟩/\Sl D 1 e (a.map aQ)/\Sl D 1 g (b.map aQ)/\Sl D 1 i (c.map aQ) /\
  (∀ x∈a,QB 20 x)/\(∀ x∈b,QB 20 x)/\(∀ x∈c,QB 20 x)/\a.length<=p.n/\b.length<=p.m/\c.length<=p.n/\(kd=1->∃ q,val=qtx q/\QB 20 q):=by
 have hr:∀ (n:Nat)(f:Nat->Rat),(∀ j,QB 20 (f j))->∀ x∈(List.range n).map f,QB 20 x:=fun n f o x d=>by
  obtain ⟨j,_,rfl⟩:=PK.1 d;exact o j
 cases h with
 | opt val pt du e g k h1 h2=>exact ⟨1,qtx val,e,g,.slice none 0 0,_,_,[],rfl,h1,h2,Sl.nil _ _,hr _ _ k.qp,hr _ _ k.qd,fun x d=>(by cases d),by simp,by simp,PL _,fun _=>⟨val,rfl,k.qv⟩⟩
 | inf du g r h1=>exact ⟨2,[],.slice none 0 0,g,.slice none 0 0,[],_,[],rfl,Sl.nil _ _,h1,Sl.nil _ _,fun x d=>(by cases d),hr _ _ r.qd,fun x d=>(by cases d),PL _,by simp,PL _,fun h=>absurd h dc_⟩
 | unb pt ra e i l h1 h2=>exact ⟨3,[],e,.slice none 0 0,i,_,[],_,rfl,h1,Sl.nil _ _,h2,hr _ _ l.qp,fun x d=>(by cases d),hr _ _ l.qr,by simp,PL _,by simp,fun h=>absurd h dc_⟩
theorem sL {l:List Rat}(h:∀ x∈l,QB 22 x):(l.map qtx).all aS=true:=PY.2 fun s hs=>by
 obtain ⟨x,a,rfl⟩:=PK.1 hs;exact bB (h x a)
theorem oR {n:Nat}:∀ {rs:List (List Rat × Rat)},(∀ r∈rs,r.1.length=n)->(∀ r∈rs,(∀ x∈r.1,QB 22 x)/\QB 22 r.2)->tB n (rs.map fH)=0
 | [],_,_=>rfl
 | r::rs,b,a=>by
  have e:tB n ((r::rs).map fH)=if EU n (fH r)≠0 then EU n (fH r) else tB n (rs.map fH):=rfl;have h0:EU n (fH r)=0:=ET.2 ⟨rT.2 ⟨by show ((r.1.map qtx).length:Int)=n;rw [al,b r PG],sL (a r PG).1⟩,bB (a r PG).2⟩;rw [e,aG fun h=>h h0];exact oR (fun r hr=>b r (PP _ hr)) fun r hr=>a r (PP _ hr)
theorem sH {a:List (List Rat × Rat)}{b:List Rat}(g:n<=60)(i:a.length<=300)(c:∀ r∈a,r.1.length=n)(d:∀ r∈a,(∀ x∈r.1,QB 22 x)/\QB 22 r.2)(e:b.length=n)(f:∀ x∈b,QB 22 x):HI n (a.map fH) (b.map qtx)=0:=by
 unfold HI;rw [aG om_,aG (by rw [al];omega),aG fun h=>h (rT.2 ⟨by rw [al,e],sL f⟩)];exact oR c d
theorem tO (C:Mem)(o:Tabs C)(n:Nat)(g i:Value)(d:List (List Rat × Rat))(f:List Rat)(k:RowsT C g (d.map fH))(v:Sl C 1 i (f.map aQ))(p:RowsQ n d)(w:∀ x∈f,QB 22 x)(y:∀ r∈d,(∀ x∈r.1,QB 22 x)/\QB 22 r.2)(L:n<=60)(z:f.length=n)(M:Lp.Lim (ck n d) (fun j=>f.getD j 0) 20) :
  Pur cx.P 21 [.agg ⟨[.int .i64 n,g,i]⟩] C fun u D=>∃ r,u=.tuple #[r,.int .i64 0]/\SolO (ck n d) (fun j=>f.getD j 0) D r:=by
 have Y:maxLen<=9223372036854775807:=by simp [maxLen]
 have hm:=p.m;have N:HI n (d.map fH) (f.map qtx)=0:=sH L om_ p.l y z w;have O:∀ D:Mem,C.le D->Gives cx.P 73 [.agg ⟨[.int .i64 n,g,i]⟩] D (.int .i64 0):=fun D q=>by
  have h:=wn D (o.mono q) n g i (d.map fH) (f.map qtx) (k.mono q) (by rw [<- xf];exact v.mono q) (fun r k=>by
   obtain ⟨r,Q,rfl⟩:=PK.1 k;obtain ⟨h1,h2⟩:=y r Q;refine ⟨fun s hs=>?_,PV (bi h2 dc_) dc_⟩;obtain ⟨x,t,rfl⟩:=PK.1 hs;exact PV (bi (h1 x t) dc_) dc_) (fun s hs=>by
   obtain ⟨x,t,rfl⟩:=PK.1 hs;exact PV (bi (w x t) dc_) dc_)
  rw [N] at h;exact h
 refine Tr func21 19 U3 fun w0=>Tl fun R e=>TC U6 fun b1=>TB U5 fun b2=>C6 1 [1,2] e Z<|G.freeze 1 Z fun _ _ A=>Tl fun R e=>Tj (bkT A 3) U8<|Tt (O _ mup) U7<|C6 1 [1,2,4] e Z<|Th 2 [1,2,4,9] Z<|G.cd (fun B=>?_) fun B=>?_
 ·exact absurd B dc_
 refine Tl fun R e=>Tj (bkT A 3) U8<|TO (AA _ o.m_ n g i d f k.m_ v.m_ p om_ z M) U7 fl_ (fun aa _ _ E=>?_);obtain ⟨kd,val,vp,vd,vr,a,b,c,rfl,F,H,I,S,qb,T,U,V,W,X⟩:=vJ E;obtain ⟨Ap,cp,rfl,_⟩:=id F;obtain ⟨Ad,cd,rfl,_⟩:=id H;obtain ⟨Ar,cr,rfl,_⟩:=id I;refine TB U5 fun b5=>Ts (j:=0) U12<|Tn [2,5] e Z<|G.freeze 0 Z fun _ _ J=>Tl fun R e=>Tj (bkT J 5) U8<|Tw (AF _ o.m_ kd val _ _ _ a b c F.m_ H.m_ I.m_ S qb T (PV U (by show n<=_;omega)) (PV V (by show d.length<=_;omega)) (PV W (by show n<=_;omega)) X) U7 fl_<|C6 1 [2,5,16] e Z<|G.cd (fun K=>?_) fun K=>?_
 ·exact absurd K dc_
 refine Tl fun R e=>Tj (bkT J 5) U8<|Ts (j:=0) U12<|C6 1 [2,3] e Z<|Tu (UC ag U5 ?_);exact ⟨Z,_,Z,E.mono mup⟩
inductive FeaO (p:Lp.Sys) (D:Mem):Value->Prop where
 | yes (pt:Nat->Rat) (vp:Value):p.At pt->Lp.CmD p.n 20 pt->(∀ j,QB 20 (pt j))->Sl D 1 vp (((List.range p.n).map pt).map aQ)->FeaO p D (.tuple #[vp,.agg ⟨[.slice none 0 0]⟩,.bool true,.int .i64 0])
 | no (du:Nat->Rat) (vd:Value):Lp.InfR p 20 du->Sl D 1 vd (((List.range p.m).map du).map aQ)->FeaO p D (.tuple #[.slice none 0 0,.agg ⟨[vd]⟩,.bool false,.int .i64 0])
theorem H5 {p:Lp.Sys}{D:Mem}{f a b e:Value}(h:SolO p cc D (.agg ⟨[.int .i64 kd,f,a,b,e]⟩)) :
  (kd=2/\∃ du,Lp.InfR p 20 du/\Sl D 1 b (((List.range p.m).map du).map aQ))∨(kd≠2/\∃ pt,p.At pt/\Lp.CmD p.n 20 pt/\(∀ j,QB 20 (pt j))/\Sl D 1 a (((List.range p.n).map pt).map aQ)):=by
 cases h with
 | opt w pt du a b c h1 h2=>exact .inr ⟨by decide,pt,c.row,c.cd,c.qp,h1⟩
 | inf du b g h1=>exact .inl ⟨rfl,du,g,h1⟩
 | unb pt ra a e d h1 h2=>exact .inr ⟨by decide,pt,d.row,d.cd,d.qp,h1⟩
theorem lu (n:Nat):List.replicate n (af [48])=((List.replicate n (0:Rat)).map aQ).flatten:=by
 rw [R4,Pr];induction n with
 | zero=>rfl
 | succ n a=>rw [QJ,QJ,QQ,a];rfl
theorem EX (n j:Nat):(List.replicate n (0:Rat)).getD j 0=0:=by
 rw [ax,Q6];split <;> rfl
theorem IQ (C:Mem)(t:Tabs C)(n:Nat)(g k:Value)(f:List (List Rat × Rat))(i:List Rat)(o:RowsT C g (f.map fH))(v:Sl C 1 k (i.map aQ))(w:RowsQ n f)(A:∀ x∈i,QB 22 x)(B:∀ r∈f,(∀ x∈r.1,QB 22 x)/\QB 22 r.2)(N:n<=60)(O:i.length=n)(Q:Lp.Lim (ck n f) (fun _=>0) 20) :
  Pur cx.P 43 [.agg ⟨[.int .i64 n,g,k]⟩] C fun u D=>FeaO (ck n f) D u:=by
 have ah:maxLen<=9223372036854775807:=by simp [maxLen]
 have hm:=w.m;have S:HI n (f.map fH) (i.map qtx)=0:=sH N om_ w.l B O A;have T:∀ D:Mem,C.le D->Gives cx.P 73 [.agg ⟨[.int .i64 n,g,k]⟩] D (.int .i64 0):=fun D y=>by
  have h:=wn D (t.mono y) n g k (f.map fH) (i.map qtx) (o.mono y) (by rw [<- xf];exact v.mono y) (fun r o=>by
   obtain ⟨r,U,rfl⟩:=PK.1 o;obtain ⟨h1,h2⟩:=B r U;refine ⟨fun s hs=>?_,PV (bi h2 dc_) dc_⟩;obtain ⟨x,z,rfl⟩:=PK.1 hs;exact PV (bi (h1 x z) dc_) dc_) (fun s hs=>by
   obtain ⟨x,z,rfl⟩:=PK.1 hs;exact PV (bi (A x z) dc_) dc_)
  rw [S] at h;exact h
 have V:Lp.Lim (ck n f) (fun j=>(List.replicate n (0:Rat)).getD j 0) 20:=by
  have e:(fun j=>(List.replicate n (0:Rat)).getD j 0)=fun _=>(0:Rat):=funext (EX n);rw [e];exact Q
 refine Tr func43 32 U3 fun w0=>Tl fun R d=>TC U6 fun b1=>Tk U6<|TB U5 fun b3=>C6 2 [1,3] d Z<|Tl fun R d=>To ae U9<|Tt (T _ mup) U7<|C6 1 [1,3,6] d Z<|Th 2 [1,3,6,11] Z<|G.cd (fun E=>?_) fun E=>?_
 ·exact absurd E dc_
 refine TH [(2,3)] Z fun R d=>Tk U6<|To ae U9<|D.call (iM _ n om_) Z (.inr dc_) U6 (PI _) fl_ (fun ai _ aj _ W=>?_);obtain ⟨bz,rfl,rfl⟩:=W;rw [lu];refine Tk U6<|Ts (j:=2) U12<|Tn [1,3] d Z<|G.freezeArr 1 ((List.replicate n (0:Rat)).map aQ) Z Z bR am fun _ _ X=>G.freeze 0 Z fun _ _ Y=>Tl fun R d=>Tj (bkT Y 3) U8<|TO (AA _ t.m_ n g _ f (List.replicate n 0) o.m_ X.m_ w om_ am V) U7 fl_ (fun ak _ _ F=>?_);obtain ⟨kd,val,vp,vd,vr,a,b,c,rfl,H,I,J,qa,qb,qc,aa,ab,ac,hv⟩:=vJ F;have K:=H5 F;obtain ⟨Ap,cp,rfl,_⟩:=id H;obtain ⟨Ad,cd,rfl,_⟩:=id I;obtain ⟨Ar,cr,rfl,_⟩:=id J;refine TB U5 fun b7=>Ts (j:=0) U12<|Tn [3,7] d Z<|G.freeze 0 Z fun _ _ p=>Tl fun R d=>Tj (bkT p 5) U8<|Tw (AF _ t.m_ kd val _ _ _ a b c H.m_ I.m_ J.m_ qa qb qc (PV aa (by show n<=_;omega)) (PV ab (by show f.length<=_;omega)) (PV ac (by show n<=_;omega)) hv) U7 fl_<|C6 1 [3,7,22] d Z<|G.cd (fun L=>?_) fun L=>?_
 ·exact absurd L dc_
 refine Ti 1 Z fun R d=>Tj (bkT p 1) U8<|C6 1 [3,7,26] d Z<|G.cd (fun q=>?_) fun q=>?_
 ·refine TD [0,1,2,3,4,5] [(1,0)] Z kr_ fun R M d=>Tk U6<|Uv (fun _=>((bkT p 1).mono M)) U9<|Tk U6<|Ts (j:=0) U12<|Tm 2 Z<|Tn [2,3,4,5] d Z ?_;clear d M R;refine Tu (UT ag U7 ?_);refine ⟨Z, ?_⟩;rcases K with ⟨_,du,hi,h1⟩ | ⟨h,_⟩
  ·exact .no du _ hi h1.m_
  exact absurd (by simpa using q) h
 refine Ti 1 Z fun R d=>Tj (bkT p 1) U8<|TA ([.slice none 0 0]) U8<|Tk U6<|Ts (j:=0) U12<|C6 2 [2,3,4,5] d Z<|Tu (UT ag U7 ?_);refine ⟨Z, ?_⟩;rcases K with ⟨h,_⟩ | ⟨_,pt,v,ad,af,h1⟩
 ·rw [h] at q;cases q
 exact .yes pt _ v ad af h1.m_
def prC (vs:List Value)(l:List SrcQ):List (List Value):=aB vs (l.map SrcQ.r)
theorem Ba {l:List SrcQ}{s:SrcQ}(a:vs.length=l.length)(c:vs[i]?=some w)(d:l[i]?=some s):prC (vs.take (i+1)) (l.take (i+1))=prC (vs.take i) (l.take i)++[[w,af (qtx s.r.b)]]:=by
 unfold prC;rw [P6,P6,c,d,Qg];exact eE (by simp [a]) w s.r
theorem Kl {l:List SrcQ}{s:SrcQ}(a:vs[i]?=some w)(c:l[i]?=some s):(bV vs l)[i]?=some [.int .i64 s.n,w,af (qtx s.r.b)]:=by
 unfold bV;rw [List.getElem?_zipWith,a,c]
theorem L4 (a:List Value)(l:List SrcQ):∀ r∈prC a l,r.length=2:=bT _ _
theorem nM {C:Mem}(h:RowsOk C vs rows)(b:Sl C 2 v (aB vs rows)):RowsT C v ((eI rows).map fH):=by
 refine ⟨vs,by rw [h.1];simp [eI],fun i w r c hr=>?_, ?_⟩
 ·rw [eI,QC,PH] at hr;cases a:rows[i]? with
  | none=>rw [a] at hr;cases hr
  | some x =>
   rw [a] at hr;cases hr
   have:=h.2 i w x c a;show Sl C 1 w ((x.f.map qtx).map yW);rw [<- xf];exact this
 have e:List.zipWith (fun w (r:List Str × Str)=>[w,af r.2]) vs ((eI rows).map fH)=aB vs rows:=by
  unfold eI aB;rw [QC,List.zipWith_map_right];rfl
 rw [e];exact b
structure Calm (B:Bk)(fs:List Rat)(RO:Nat->List RowQ):Prop where
 rich:Rich B fs RO
 n12:bs B*bp B<=12
 thI:∀ r∈bH B,RowI r
 roI:∀ i,i<B.obs.length->∀ r∈RO i,RowI r
 th:(bH B).length<=24
 ro:∀ i,i<B.obs.length->(RO i).length<=8
 ob:B.obs.length<=12
structure SetIn (n:Nat)(l:List Nat):Prop where
 lt:∀ i∈l,i<n
 nd:l.Nodup
def oT (B:Bk)(RO:Nat->List RowQ)(l:List Nat):List RowQ:=(bS (bH B) RO l).map SrcQ.r
theorem jz {B:Bk}{a:Nat->List RowQ}:oT B a l=bH B++l.flatMap a:=by
 unfold oT bS kB;rw [Qg,QC,List.map_flatMap];congr 1
 ·exact List.map_id _
 congr 1;funext i;rw [QC];exact List.map_id _
theorem SetIn.len (h:SetIn n l):l.length<=n:=by
 have:=List.Nodup.length_le_of_subset (l₂:=List.range n) h.nd fun v a=>PX.2 (h.lt v a)
 rwa [QR] at this
section
variable {B:Bk} {fs:List Rat} {RO:Nat->List RowQ} {l:List Nat}
theorem Jr {c:Nat}{f:Nat->List RowQ}:∀ {l:List Nat},(∀ i∈l,(f i).length<=c)->(l.flatMap f).length<=c*l.length
 | [],_=>PL _
 | i::l,h=>by
  rw [List.flatMap_cons,PM,PW,Nat.mul_succ];have h1:=h i PG;have h2:=Jr (l:=l) fun j a=>h j (PP _ a);omega
theorem Calm.cnt (h:Calm B fs RO)(a:SetIn B.obs.length l):(oT B RO l).length<=120:=by
 rw [jz,PM];have h1:=Jr (c:=8) (f:=RO) fun i b=>h.ro i (a.lt i b);have h2:=a.len;have h3:=h.ob;have h4:=h.th;omega
theorem Calm.rowI (h:Calm B fs RO)(a:SetIn B.obs.length l):∀ r∈oT B RO l,RowI r:=by
 intro r hr;rw [jz] at hr;rcases PU.1 hr with hr | hr
 ·exact h.thI r hr
 obtain ⟨i,b,hr⟩:=List.mem_flatMap.1 hr;exact h.roI i (a.lt i b) r hr
theorem vD {s p:Nat}{a:List Lay}:∀ n,∀ r∈ba s p a n,r.f.length=s*p
 | 0,r,hr=>by cases hr
 | n+1,r,hr=>by
  rcases PU.1 hr with hr | hr
  ·exact vD n r hr
  have:∀ k,∀ r∈bq s p (a.getD (n+1) ⟨[],0,none⟩) (n+1) k,r.f.length=s*p:=by
   intro k;induction k with
   | zero=>intro r hr;cases hr
   | succ k b =>
    intro r hr;rcases PU.1 hr with hr | hr
    ·exact b r hr
    unfold kg at hr;rcases PQ.1 hr with rfl | hr
    ·exact jB _ _
    split at hr
    ·cases hr
    rw [PZ.1 hr];exact jB _ _
  exact this p r hr
theorem NC {D:Int}{q:Rat}(h:Wl D q)(a:D≠0)(b:D.natAbs<=999999999):QB 1 q:=by
 obtain ⟨z,h1,h2⟩:=h;exact oZ a h1 om_ om_
theorem RowI.q {r:RowQ}(h:RowI r):(∀ x∈r.f,QB 1 x)/\QB 1 r.b:=by
 obtain ⟨D,h0,a,h1,h2⟩:=h;exact ⟨fun x c=>NC (h1 x c) h0 a,NC h2 h0 a⟩
theorem nK {a:List RowQ}{P:List Rat × Rat->Prop}(h:∀ r∈a,P (r.f,r.b)):∀ x∈eI a,P x:=fun x c=>by
 obtain ⟨r,hr,rfl⟩:=PK.1 c;exact h r hr
theorem Calm.q22 (h:Calm B fs RO)(a:SetIn B.obs.length l):∀ r∈eI (oT B RO l),(∀ x∈r.1,QB 22 x)/\QB 22 r.2 :=
 nK (P:=fun r=>(∀ x∈r.1,QB 22 x)/\QB 22 r.2) fun r hr=>⟨fun x b=>((h.rowI a r hr).q.1 x b).le dc_,(h.rowI a r hr).q.2.le dc_⟩
theorem Calm.rowsQ (h:Calm B fs RO)(a:SetIn B.obs.length l):RowsQ (bs B*bp B) (eI (oT B RO l)):=by
 refine ⟨nK (P:=fun r=>r.1.length=bs B*bp B) fun r hr=>?_,fun r hr=>⟨fun x b=>((h.q22 a r hr).1 x b).le dc_,(h.q22 a r hr).2.le dc_⟩, ?_⟩
 ·rw [jz] at hr;rcases PU.1 hr with hr | hr
  ·exact vD _ r hr
  obtain ⟨i,c,hr⟩:=List.mem_flatMap.1 hr;exact (oS h.rich (a.lt i c)).2 r hr
 have:=h.cnt a;rw [eI,al];omega
theorem Calm.lim (h:Calm B fs RO)(a:SetIn B.obs.length l):Lp.Lim (ck (bs B*bp B) (eI (oT B RO l))) (fun _=>0) 20:=Ja h.n12 (h.rowI a)
end
def dh (B:Bk)(RO:Nat->List RowQ):List RowQ:=oT B RO (List.range B.obs.length)
theorem dq (n:Nat):SetIn n (List.range n):=⟨fun _a h=>PX.1 h,List.nodup_range⟩
theorem um {l:List Rat}(a:i<l.length):(l.set i x).getD j 0=if j=i then x else l.getD j 0:=by
 rw [ax,List.getElem?_set,ax];by_cases h:i=j
 ·subst h;rw [aK rfl,aK a,aK rfl];rfl
 rw [aG h,aG fun e=>h e.symm]
theorem pP (n j:Nat):(List.replicate n (0:Rat)).getD j 0=0:=EX n j
def rgF (n h p m k:Nat)(e:Nat × Nat)(sg:Rat):List Rat:=(((List.replicate n (0:Rat)).set (k / m*p+e.1) sg).set (k / m*p+e.2) (-sg)).set (h+k) (-1)
def edg (es:List (Nat × Nat))(k:Nat):Nat × Nat:=es.getD (k % es.length) (0,0)
def rgK (n h p:Nat)(es:List (Nat × Nat))(k:Nat):List RowQ:=[⟨rgF n h p es.length k (edg es k) 1,0⟩,⟨rgF n h p es.length k (edg es k) (-1),0⟩]
def rgL (n h p:Nat)(es:List (Nat × Nat))(t:Nat):List RowQ:=(List.range t).flatMap (rgK n h p es)
def fk (more:Nat)(r:RowQ):RowQ:=⟨r.f++List.replicate more 0,r.b⟩
def yr (rows:List RowQ)(h p:Nat)(es:List (Nat × Nat))(more:Nat):List RowQ:=rows.map (fk more)++rgL (h+more) h p es more
def mF (h more:Nat):List Rat:=List.replicate h 0++List.replicate more 1
theorem yu (n h p m k:Nat)(e:Nat × Nat)(a:Rat):(rgF n h p m k e a).length=n:=by unfold rgF;simp
theorem AO (n h p:Nat)(a:List (Nat × Nat))(t:Nat):rgL n h p a (t+1)=rgL n h p a t++rgK n h p a t:=by
 unfold rgL;rw [QO,List.flatMap_append,List.flatMap_cons,List.flatMap_nil,P3]
theorem yt (n h p:Nat)(a:List (Nat × Nat)):∀ t,(rgL n h p a t).length=2*t
 | 0=>rfl
 | t+1=>by rw [AO,PM,yt n h p a t];rfl
theorem Is (a:List RowQ)(h p:Nat)(c:List (Nat × Nat))(b:Nat):(yr a h p c b).length=a.length+2*b:=by
 unfold yr;rw [PM,al,yt]
theorem AN (h a:Nat):(mF h a).length=h+a:=by unfold mF;simp
structure EdgeOk (s p:Nat)(es:List (Nat × Nat)):Prop where
 lt:∀ e∈es,e.1<e.2/\e.2<p
theorem GE (a:k<s*es.length):edg es k∈es/\k / es.length<s:=by
 have h0:0<es.length:=by
  rcases QH es.length with h | h
  ·rw [h] at a;omega
  exact h
 refine ⟨?_,(Rt h0).2 a⟩;unfold edg;have hm:=Qj k h0;rw [ax,aj hm];exact Qx hm
theorem Bu {a:Nat}(b:a<s)(c:i<p):a*p+i<s*p:=by
 have:(a+1)*p<=s*p:=Qt _ b;rw [Nat.succ_mul] at this;omega
theorem KQ (h:EdgeOk s p es)(a:k<s*es.length):k / es.length*p+(edg es k).1<s*p/\k / es.length*p+(edg es k).2<s*p/\(edg es k).1≠(edg es k).2:=by
 obtain ⟨h1,h2⟩:=GE a;obtain ⟨h3,h4⟩:=h.lt _ h1;exact ⟨Bu h2 om_,Bu h2 h4,by omega⟩
theorem LK (a:k / m*p+e.1<h)(b:k / m*p+e.2<h)(c:h+k<n)(j:Nat):(rgF n h p m k e sg).getD j 0=if j=h+k then -1 else if j=k / m*p+e.2 then -sg else if j=k / m*p+e.1 then sg else 0:=by
 unfold rgF;rw [um ap,um ap,um ap,pP]
theorem yw (a:i<n):Lp.sumN (fun j=>(if j=i then x else 0)*y j) n=x*y i:=by
 rw [Lp.sumN_at a,Lp.sumN_zero fun j _=>?_]
 ·rw [aK rfl];grind
 by_cases h:j=i
 ·rw [aK h]
 rw [aG h,aG h];grind
theorem LJ (a:k / m*p+e.1<h)(b:k / m*p+e.2<h)(d:e.1≠e.2)(c:h+k<n) :
  Lp.sumN (fun j=>(rgF n h p m k e sg).getD j 0*y j) n=sg*y (k / m*p+e.1)+(-sg*y (k / m*p+e.2) + -1*y (h+k)):=by
 rw [<- yw (i:=k / m*p+e.1) (n:=n) (x:=sg) om_,<- yw (i:=k / m*p+e.2) (n:=n) (x:=-sg) om_,<- yw (i:=h+k) (n:=n) (x:=-1) om_,<- Lp.sumN_add,<- Lp.sumN_add];refine Lp.sumN_congr fun j _=>?_;rw [LK a b c];by_cases h1:j=h+k
 ·rw [aK h1,aG om_,aG om_,aK h1];grind
 by_cases h2:j=k / m*p+e.2
 ·rw [aG h1,aK h2,aG om_,aK h2,aG h1];grind
 by_cases h3:j=k / m*p+e.1
 ·rw [aG h1,aG h2,aK h3,aG h2,aG h1];grind
 rw [aG h1,aG h2,aG h3,aG h2,aG h1];grind
theorem jk :(ck n (eI rows)).At y ↔ ∀ r∈rows,Lp.sumN (fun j=>r.f.getD j 0*y j) n<=r.b:=by
 have hm:(ck n (eI rows)).m=rows.length:=al _;constructor
 ·intro h r hr;obtain ⟨i,c,rfl⟩:=List.mem_iff_getElem.1 hr;have h1:=h i (by rw [hm];exact c);have d:(ck n (eI rows)).a i=fun j=>rows[i].f.getD j 0:=by show (fun j=>((eI rows).getD i ([],0)).1.getD j 0)=_;rw [mE c]
  have e:(ck n (eI rows)).b i=rows[i].b:=by show ((eI rows).getD i ([],0)).2=_;rw [mE c]
  rw [d,e] at h1;exact h1
 intro h i c;rw [hm] at c;have h1:=h rows[i] (Qx c);have d:(ck n (eI rows)).a i=fun j=>rows[i].f.getD j 0:=by show (fun j=>((eI rows).getD i ([],0)).1.getD j 0)=_;rw [mE c]
 have e:(ck n (eI rows)).b i=rows[i].b:=by show ((eI rows).getD i ([],0)).2=_;rw [mE c]
 rw [d,e];exact h1
theorem zO (a:r.f.length=h):Lp.sumN (fun j=>(fk more r).f.getD j 0*y j) (h+more)=Lp.sumN (fun j=>r.f.getD j 0*y j) h:=by
 rw [Lp.sumN_split,Lp.sumN_zero (n:=more) fun j _=>?_]
 ·rw [show Lp.sumN (fun j=>(fk more r).f.getD j 0*y j) h=Lp.sumN (fun j=>r.f.getD j 0*y j) h from Lp.sumN_congr fun j b=>?_]
  ·grind
  show (r.f++List.replicate more 0).getD j 0*y j=_;rw [ax,Qm om_,<- ax]
 show (r.f++List.replicate more 0).getD (h+j) 0*y (h+j)=0;rw [ax,P4 om_,<- ax,pP];grind
theorem FH :Lp.sumN (fun j=>(mF h more).getD j 0*y j) (h+more)=Lp.sumN (fun k=>y (h+k)) more:=by
 rw [Lp.sumN_split,Lp.sumN_zero (n:=h) fun j a=>?_]
 ·rw [show Lp.sumN (fun r=>(mF h more).getD (h+r) 0*y (h+r)) more=Lp.sumN (fun k=>y (h+k)) more from Lp.sumN_congr fun j a=>?_]
  ·grind
  unfold mF;rw [ax,P4 am,Q6,aK ap];show 1*_=_;grind
 unfold mF;rw [ax,Qm ap,<- ax,pP];grind
def abR (x:Rat):Rat:=if x<0 then -x else x
theorem xH {y:Rat}:abR x<=y ↔ x<=y/\-x<=y:=by
 unfold abR;split <;> grind
theorem M8 (x:Rat):0<=abR x:=by
 unfold abR;split <;> grind
def Nl (p:Nat)(es:List (Nat × Nat))(y:Nat->Rat)(k:Nat):Rat:=y (k / es.length*p+(edg es k).1)-y (k / es.length*p+(edg es k).2)
section
variable {rows:List RowQ} {s p:Nat} {es:List (Nat × Nat)} {y:Nat->Rat}
theorem Ks (e:EdgeOk s p es)(d:∀ r∈rows,r.f.length=s*p):(ck (s*p+s*es.length) (eI (yr rows (s*p) p es (s*es.length)))).At y ↔ (ck (s*p) (eI rows)).At y/\∀ k,k<s*es.length->abR (Nl p es y k)<=y (s*p+k):=by
 rw [jk,jk];have c:∀ k,k<s*es.length->∀ sg,Lp.sumN (fun j=>(rgF (s*p+s*es.length) (s*p) p es.length k (edg es k) sg).getD j 0*y j) (s*p+s*es.length)=sg*Nl p es y k-y (s*p+k):=fun k a sg=>by
  obtain ⟨h1,h2,h3⟩:=KQ e a;rw [LJ h1 h2 h3 om_];unfold Nl;grind
 constructor
 ·intro h;refine ⟨fun r hr=>?_,fun k a=>?_⟩
  ·have:=h (fk _ r) (Ri _ (RL hr));rw [zO (d r hr)] at this;exact this
  have hm:∀ x∈rgK (s*p+s*es.length) (s*p) p es k,x∈yr rows (s*p) p es (s*es.length):=fun x b=>Rs _ (List.mem_flatMap.2 ⟨k,PX.2 a,b⟩);have h1:=h _ (hm _ PG);have h2:=h _ (hm _ (PP _ PG));rw [c k a] at h1 h2;rw [xH];simp only at h1 h2;constructor <;> grind
 rintro ⟨h1,h2⟩ r hr;rcases PU.1 hr with hr | hr
 ·obtain ⟨x,b,rfl⟩:=PK.1 hr;rw [zO (d x b)];exact h1 x b
 obtain ⟨k,a,hr⟩:=List.mem_flatMap.1 hr;have a:=PX.1 a;have h3:=xH.1 (h2 k a);rcases PQ.1 hr with rfl | hr
 ·rw [c k a];simp only;grind
 rw [PZ.1 hr,c k a];simp only;grind
theorem LF {a:Nat}{b c:Nat->Rat}(d:EdgeOk s p es)(e:∀ r∈rows,r.f.length=s*p)(h:Lp.UnbR (ck (s*p+s*es.length) (eI (yr rows (s*p) p es (s*es.length)))) (fun j=>(mF (s*p) (s*es.length)).getD j 0) a b c):False:=by
 obtain ⟨y,hy,g⟩:=h.below 0;rw [show (ck (s*p+s*es.length) (eI (yr rows (s*p) p es (s*es.length)))).n=s*p+s*es.length from rfl,FH] at g;have h1:=((Ks d e).1 hy).2;have h2:0<=Lp.sumN (fun k=>y (s*p+k)) (s*es.length):=Lp.sumN_ge fun k i=>Rat.le_trans (M8 _) (h1 k i);grind
end
theorem N3 (h:∀ r∈rows,RowI r):∀ r∈yr rows (s*p) p es (s*es.length),RowI r:=by
 intro r hr;have d:Wl 1 1:=⟨1,by decide +kernel,by decide⟩;have b:Wl 1 (-1):=⟨-1,by decide +kernel,by decide⟩;rcases PU.1 hr with hr | hr
 ·obtain ⟨x,e,rfl⟩:=PK.1 hr;obtain ⟨D,h0,f,h1,h2⟩:=h x e;refine ⟨D,h0,f,fun q a=>?_,h2⟩;rcases PU.1 a with a | a
  ·exact h1 q a
  rw [(List.mem_replicate.1 a).2];exact Wl.zero _
 obtain ⟨k,g,hr⟩:=List.mem_flatMap.1 hr;have c:∀ sg:Rat,Wl 1 sg->∀ q∈rgF (s*p+s*es.length) (s*p) p es.length k (edg es k) sg,Wl 1 q:=fun sg hs q a=>by
  unfold rgF at a;rcases QM a with a | rfl
  ·rcases QM a with a | rfl
   ·rcases QM a with a | rfl
    ·rw [(List.mem_replicate.1 a).2];exact Wl.zero _
    exact hs
   exact hs.neg
  exact b
 rcases PQ.1 hr with rfl | hr
 ·exact ⟨1,by decide,by decide,c 1 d,Wl.zero _⟩
 rw [PZ.1 hr];exact ⟨1,by decide,by decide,c (-1) b,Wl.zero _⟩
theorem LH (h b j:Nat):Wl 1 ((mF h b).getD j 0):=by
 unfold mF;rw [ax];cases a:(List.replicate h (0:Rat)++List.replicate b 1)[j]? with
 | none=>exact Wl.zero _
 | some q =>
  rcases PU.1 (O0 a) with a | a
  ·rw [(List.mem_replicate.1 a).2];exact Wl.zero _
  rw [(List.mem_replicate.1 a).2];exact ⟨1,by decide +kernel,by decide⟩
theorem LG (a:s*p+s*es.length<=12)(h:∀ r∈rows,RowI r):Lp.Lim (ck (s*p+s*es.length) (eI (yr rows (s*p) p es (s*es.length)))) (fun j=>(mF (s*p) (s*es.length)).getD j 0) 20:=ub a (N3 h) ⟨1,by decide,by decide,fun j _=>LH _ _ j⟩
theorem Pj {z:Int}(h:s*p<=60):ofE z s p=z:=by
 unfold ofE;split
 ·rfl
 rename_i h2;have:z=0:=by simpa using h2
 rw [aG om_,this]
theorem zc (C:Mem)(a:Value)(B:Bk)(z:Int)(b:BookZ C a B z)(h:bs B*bp B<=60):Gives cx.P 92 [a] C (.tuple #[.int .i64 (if z=0 then ((bs B*bp B:Nat):Int) else 0),.int .i64 z]):=by
 have h1:=JL C a B z b;rw [Pj h] at h1;exact h1
theorem lP (C:Mem)(n:Nat)(h:n<=100000):Jog.Fn cx.P 77 [.int .i64 n] C [] fun u _f a=>∃ b,u=.slice (some ⟨b,0,none⟩) n n/\a=[.arr u 32 1 n (List.replicate n (af [48]))]:=by
 refine Tr func77 6 U3 fun w0=>Th 1 [0] Z<|TH [(2,3)] Z fun R c=>TF [[af [48]]] U12 fun g _ _ d=>Tk U6<|D.call (jC _ _ n [48] d.m_ om_) Z (.inr dc_) U6 (PI _) fl_ fun i _ j _ e=>C6 1 [2] c Z ?_;obtain ⟨bz,rfl,rfl⟩:=e;refine Tu (TW Z Z ?_);exact ⟨bz,Z,Z⟩
theorem ES (B:Bk)(a:Nat->List RowQ):(bS (bH B) a (List.range B.obs.length)).map SrcQ.r=dh B a:=rfl
abbrev sC7 (A:Option Addr)(n c:Nat):Value:=.slice A n c
theorem fN (C:Mem)(M:Tabs C)(g:Value)(B:Bk)(N:List Rat)(c:Nat->List RowQ)(o:BookIn C g B)(h:Calm B N c) :
  Jog.Fn cx.P 37 [g] C [] fun u D k=>∃ (d:Option Addr)(e bz:Nat)(vs:List Value),u=.tuple #[.agg ⟨[.int .i64 (bs B*bp B:Nat),.slice d (dh B c).length e,.slice (some ⟨bz,0,none⟩) (bs B*bp B) (bs B*bp B)]⟩,.int .i64 0]/\RowsOk D vs (dh B c) /\
   k=[.arr (.slice d (dh B c).length e) 140 2 (dh B c).length (aB vs (dh B c)).flatten,.arr (.slice (some ⟨bz,0,none⟩) (bs B*bp B) (bs B*bp B)) 32 1 (bs B*bp B) (List.replicate (bs B*bp B) (af [48]))]:=by
 have av:=o;have W:=h.rich.bookz M o;have X:=h.cnt (dq _);have Y:=h.n12;have ax:=h.ob;obtain ⟨l,x⟩:∃ l,bS (bH B) c (List.range B.obs.length)=l:=⟨_,rfl⟩;have O:dh B c=l.map SrcQ.r:=by rw [<- ES,x]
 have ay:l.length<=120:=by
  have:=X;rw [show oT B c (List.range B.obs.length)=dh B c from rfl,O,al] at this;exact this
 have aa:∀ D:Mem,C.le D->Pur cx.P 54 [g] D fun u E=>∃ v,u=.tuple #[v,.int .i64 0]/\B7 E v l:=fun D p=>by
  have:=KZ D (M.mono p) g B N c (o.mono p) h.rich om_ (by rw [x];omega);rw [x] at this;exact this
 obtain ⟨n,Q⟩:∃ n,bs B*bp B=n:=⟨_,rfl⟩;have ab:∀ D:Mem,C.le D->Gives cx.P 92 [g] D (.tuple #[.int .i64 n,.int .i64 0]):=fun D p=>by
  have h:=zc D g B 0 (W.mono p) om_;rw [aK rfl,Q] at h;exact h
 rw [O];rw [Q] at Y ⊢;obtain ⟨v1,v2,tv,cv,ov,rfl,h1,h2,h3,h4,h5⟩:=id o.ex;have az:maxLen<=9223372036854775807:=by simp [maxLen]
 refine Tr func37 47 U3 fun w0=>Tl fun R a=>TC U6 fun b1=>TB U5 fun q=>C6 1 [1,2] a Z<|G.freeze 1 Z fun _ _ S=>Tl fun R a=>Tj (bkT S 5) U8<|TT (aa _ mup) U7 (fun aA _ _ ad=>?_);obtain ⟨wv,rfl,ag⟩:=ad;obtain ⟨vs,y,z⟩:=ag;have T:=jv y;obtain ⟨Aw,cw,rfl,ah,aC,_⟩:=id z;have ai:(bV vs l).length=l.length:=by unfold bV;simp [T]
 rw [ai] at z ah ⊢;refine C6 5 [1,2,4,5] a Z<|Th 2 [1,2,4,5,16] Z<|G.cd (fun U=>?_) fun U=>?_
 ·exact absurd U dc_
 refine Tl fun R a=>Tj (bkT S 5) U8<|Tt (ab _ mup) U7<|C6 5 [2,4,5,6] a Z<|Th 2 [2,4,5,6,25] Z<|G.cd (fun V=>?_) fun V=>?_
 ·exact absurd V dc_
 refine TH [(2,3)] Z fun R a=>Tm 2 Z<|D.call (lP _ n om_) Z (.inr dc_) U6 (PI _) fl_ (fun aD _ aE _ ak=>?_);obtain ⟨bz,rfl,rfl⟩:=ak;refine TA [.int .i64 n,.slice none 0 0,.slice (some ⟨bz,0,none⟩) n n] U8<|TB U5 fun t=>Ts (j:=0) U12<|Tn [2,4,7] a Z<|Th 3 [2,7,32,33,34] Z<|G.nilArr 140 2<|G.perm (L':=[.arr (sC7 none 0 0) 140 2 0 (prC (vs.take 0) (l.take 0)).flatten,.arr (.slice (some ⟨bz,0,none⟩) n n) 32 1 n (List.replicate n (af [48])),.obj t (.cells ⟨[.int .i64 n,.slice none 0 0,.slice (some ⟨bz,0,none⟩) n n]⟩ 74 (0,0)),.obj q (.cells ⟨[.int .i64 0,.slice none 0 0,.slice none 0 0]⟩ 74 (0,0))]) (pkL [0,1,0,0] Z)<|G.loop (fun fr C' k μ=>∃ (i:Nat)(d:Option Addr)(n1 e:Nat),(i<=l.length)/\fr=[(2,[],.pointer (some ⟨q,0,none⟩)),(7,[],.pointer (some ⟨t,0,none⟩)),(32,[],.slice Aw l.length cw),(33,[],.int .i64 l.length),(34,[],.int .i64 i)]/\k=[.arr (sC7 d n1 e) 140 2 i (prC (vs.take i) (l.take i)).flatten,.arr (.slice (some ⟨bz,0,none⟩) n n) 32 1 n (List.replicate n (af [48])),.obj t (.cells ⟨[.int .i64 n,.slice d n1 e,.slice (some ⟨bz,0,none⟩) n n]⟩ 74 (0,0)),.obj q (.cells ⟨[.int .i64 0,.slice none 0 0,.slice none 0 0]⟩ 74 (0,0))]/\μ=l.length-i) (hn_ [2,7,32,33,34] Z) ⟨0,none,0,0,PL _,Z,Z,Z⟩ (fun fr aF aG m _ hI=>?_);obtain ⟨i,d,n1,e,hi,rfl,rfl,rfl⟩:=hI;refine Th 1 [2,7,32,33,34,35] Z<|G.cd (fun A=>?_) fun A=>?_
 ·have F:i<l.length:=by
   have:=aY A;omega
  obtain ⟨s,H⟩:∃ s,l[i]?=some s:=⟨l[i],aj F⟩;obtain ⟨w,I⟩:∃ w,vs[i]?=some w:=⟨vs[i]'om_,aj om_⟩;have am:=y.2 i w s.r I (by rw [PH,H];rfl);obtain ⟨Ax,an,rfl,_⟩:=id am;have ao:=Ba T I H;refine Tl fun R a=>Ty z.m_ U10 om_ (Kl I H) fl_ fun aH ap=>Tj ap U8<|TB U5 fun b9=>Ts (j:=0) U12<|Tn [2,7,9,32,33,34] a Z<|G.freeze 0 Z fun _ _ aq=>Ti 1 Z fun R a=>To ac U9<|Tk U6<|Tj (bkT aq 2) U8<|TF [[.slice Ax (s.r.f.map ec).length an,af (qtx s.r.b)]] U12 fun aI _ _ ar=>TR (j:=0) U11 ar.m_ Z aw (by show (i+1)*40<=_;omega) fl_ fun J K L=>Tk U6<|Ts (j:=2) U12<|Tn [2,7,32,33,34] a Z<|Tl fun R a=>Tq _ Z U6<|C6 1 [2,7,32,33,34] a Z<|G.perm (L':=[.arr (sC7 J K L) 140 2 (i+1) (prC (vs.take (i+1)) (l.take (i+1))).flatten,.arr (.slice (some ⟨bz,0,none⟩) n n) 32 1 n (List.replicate n (af [48])),.obj t (.cells ⟨[.int .i64 n,.slice J K L,.slice (some ⟨bz,0,none⟩) n n]⟩ 74 (0,0)),.obj q (.cells ⟨[.int .i64 0,.slice none 0 0,.slice none 0 0]⟩ 74 (0,0))]) (by rw [ao,Ql];(exact pkL [1,1,0,0] Z))<|Tv (m':=l.length-(i+1)) om_ mup (hn_ [2,7,32,33,34] Z) ⟨i+1,J,K,L,om_,Z,Z,Z⟩
 have F:i=l.length:=by
  have:=PJ A;omega
 subst F;refine Tl fun R a=>To ac U9<|Ts (j:=3) U12<|C6 1 [2,3] a Z ?_;rw [Qk (show vs.length<=l.length by omega),PT];refine Ua 3 Z<|Vt ae (fun A0 c0 au _=>?_);obtain ⟨rfl,rfl,rfl⟩:d=A0/\n1=l.length/\e=c0:=by cases au;exact ⟨rfl,rfl,rfl⟩
 refine Tu (V2 0 Z Z Z Z Z Z ?_);exact ⟨d,e,bz,vs,by rw [al];rfl,RowsOk.mono y mup,by rw [al];rfl⟩
def NH (s p:Nat)(pt:Nat->Rat):List (List Str):=chunks s p (((List.range (s*p)).map pt).map qtx)
abbrev ya (B:Bk)(RO:Nat->List RowQ):Lp.Sys:=ck (bs B*bp B) (eI (dh B RO))
inductive BuiO (B:Bk) (RO:Nat->List RowQ) (D:Mem):Value->Prop where
 | yes (pt:Nat->Rat) (v:Value):(ya B RO).At pt->Lp.CmD (bs B*bp B) 20 pt->(∀ j,QB 20 (pt j))->FieldsIn D v (NH (bs B) (bp B) pt)->BuiO B RO D (.tuple #[v,.agg ⟨[.slice none 0 0]⟩,.bool true,.int .i64 0])
 | no (du:Nat->Rat) (vd:Value):Lp.InfR (ya B RO) 20 du->Sl D 1 vd (((List.range (dh B RO).length).map du).map aQ)->BuiO B RO D (.tuple #[.slice none 0 0,.agg ⟨[vd]⟩,.bool false,.int .i64 0])
theorem GA {p:Lp.Sys}{D:Mem}(h:FeaO p D u):∃ (A:Option Addr)(n c:Nat)(A2:Option Addr)(n2 c2:Nat)(a:Bool),u=.tuple #[.slice A n c,.agg ⟨[.slice A2 n2 c2]⟩,.bool a,.int .i64 0] /\
  ((a=true/\A2=none/\n2=0/\c2=0/\∃ pt,p.At pt/\Lp.CmD p.n 20 pt/\(∀ j,QB 20 (pt j))/\Sl D 1 (.slice A n c) (((List.range p.n).map pt).map aQ)) ∨
  (a=false/\∃ du,Lp.InfR p 20 du/\Sl D 1 (.slice A2 n2 c2) (((List.range p.m).map du).map aQ))):=by
 cases h with
 | yes pt g b d e h1 =>
  obtain ⟨A,c,rfl,_⟩:=id h1;exact ⟨_,_,_,_,_,_,true,Z,.inl ⟨Z,Z,Z,Z,pt,b,d,e,h1⟩⟩
 | no du i f h1 =>
  obtain ⟨A,c,rfl,_⟩:=id h1;exact ⟨_,_,_,_,_,_,false,Z,.inr ⟨Z,du,f,h1⟩⟩
theorem GC (l:List Rat):l.map aQ=(l.map qtx).map kc:=by
 rw [QC];rfl
theorem N5 (n:Nat):∀ x∈List.replicate n (0:Rat),QB 22 x:=fun x a=>by rw [(List.mem_replicate.1 a).2];exact QB_zero.le dc_
theorem wZ (a:∀ j,QB 20 (pt j)):qY s p (((List.range (s*p)).map pt).map qtx)=0:=by
 unfold qY;rw [aK am,PY.2 fun x b=>?_]
 ·rfl
 obtain ⟨q,c,rfl⟩:=PK.1 b;obtain ⟨j,_,rfl⟩:=PK.1 c;exact bB ((a j).le dc_)
theorem wi (a:∀ j,QB 20 (pt j)):∀ x∈((List.range (s*p)).map pt).map qtx,x.length<=999998:=fun x b=>by
 obtain ⟨q,c,rfl⟩:=PK.1 b;obtain ⟨j,_,rfl⟩:=PK.1 c;exact PV (bi (a j) dc_) dc_
theorem Gm (C:Mem)(d:Tabs C)(k:Value)(B:Bk)(l:List Rat)(b:Nat->List RowQ)(c:BookIn C k B)(h:Calm B l b) :
  Pur cx.P 26 [k] C fun u D=>BuiO B b D u:=by
 have n:=c;have A:=h.rich.bookz d c;have aa:=h.n12;have e:=dq B.obs.length;have E:=h.rowsQ e;have F:=h.q22 e;have H:=h.lim e;obtain ⟨v1,v2,tv,cv,ov,rfl,h1,h2,h3,h4,h5⟩:=id c.ex;have ab:maxLen<=9223372036854775807:=by simp [maxLen]
 refine Tr func26 43 U3 fun w0=>Tl fun R a=>TC U6 fun b1=>Tk U6<|TB U5 fun b3=>C6 2 [1,3] a Z<|G.freeze 1 Z fun _ _ o=>TH [(1,3)] Z fun R a=>Tj (bkT o 5) U8<|D.call (fN _ d.m_ _ B l b n.m_ h) Z (.inr dc_) U6 (PI _) fl_ (fun ac _ ad _ I=>?_);obtain ⟨Ar,cr,bo,vs,rfl,q,rfl⟩:=I;refine Tm 3 Z<|TB U5 fun b6=>Ts (j:=0) U12<|C6 1 [1,3,5,6] a Z<|Th 2 [1,3,5,6,14] Z<|G.cd (fun r=>?_) fun r=>?_
 ·exact absurd r dc_
 refine G.freezeArr 1 (aB vs (dh B b)) Z Z (bT _ _) (by rw [bI q.1]) (fun _ _ J=>?_);rw [lu];refine G.freezeArr 1 ((List.replicate (bs B*bp B) (0:Rat)).map aQ) Z Z bR am fun _ _ K=>G.freeze 0 Z (fun L _ M=>?_);have N:=nM (RowsOk.m_ q) (J.mono mup:Sl L 2 _ _);refine Tl fun R a=>Tj (bkT M 3) U8<|TO (IQ _ d.m_ (bs B*bp B) _ _ (eI (dh B b)) (List.replicate (bs B*bp B) 0) N.m_ K.m_ E (N5 _) F om_ am H) U7 fl_ (fun ae _ _ O=>?_);obtain ⟨Q,S,T,U,nd,cd,t,rfl,v⟩:=GA O;refine Tm 6 Z<|Ts (j:=0) U12<|C6 2 [1,3,4,5,7] a Z<|Ti 5 Z fun R a=>TQ U8<|Tn [1,3,5,7,29] a Z<|G.cd (fun f=>?_) fun f=>?_
 ·have g:t=false:=by simpa using f
  subst g;obtain ⟨du,V,w⟩:∃ du,Lp.InfR (ya B b) 20 du/\Sl _ 1 (.slice U nd cd) (((List.range (ya B b).m).map du).map aQ):=by
   rcases v with ⟨h,_⟩ | ⟨_,h⟩
   ·cases h
   exact h
  refine TD [0,1,2,3,4,5] [] Z kr_ fun R c a=>To ag U9<|Tm 2 Z<|Ts (j:=0) U12<|Tm 2 Z<|Tn [2,3,4,5] a Z ?_;clear a c R;refine Tu (UT ag U7 ?_);refine ⟨Z,.no du _ V ?_⟩;rw [show (ya B b).m=(dh B b).length from al _] at w;exact w.mono mup
 have g:t=true:=by simpa using f
 subst g;obtain ⟨pt,W,X,i,x⟩:∃ pt,(ya B b).At pt/\Lp.CmD (bs B*bp B) 20 pt/\(∀ j,QB 20 (pt j))/\Sl _ 1 (.slice Q S T) (((List.range (bs B*bp B)).map pt).map aQ):=by
  rcases v with ⟨_,_,_,_,h⟩ | ⟨h,_⟩
  ·exact h
  cases h
 rw [GC] at x;have y:=wZ (s:=bs B) (p:=bp B) i;refine Tl fun R a=>Tj (bkT o 5) U8<|Tk U6<|TO (xe _ d.m_ _ _ B (((List.range (bs B*bp B)).map pt).map qtx) n.m_ A.m_ om_ x.m_ (wi i) ap) U7 fl_ (fun af _ _ Y=>?_);obtain ⟨fv,rfl,z⟩:=Y;rw [y,aK rfl] at z;rw [y];refine C6 5 [2,3,5] a Z<|Ti 1 Z fun R a=>TA ([.slice none 0 0]) U8<|Tm 4 Z<|Ts (j:=0) U12<|C6 2 [2,3,4,5] a Z<|Tu (UT ag U7 ?_);exact ⟨Z,.yes pt _ W X i z.m_⟩
open Go Go.Jog Go.Shelf
set_option maxRecDepth 100000
def xg (e:Nat × Nat):List Value:=[.int .i64 e.1,.int .i64 e.2]
def M2 (x y:Nat × Nat):Int:=KF [x.1,x.2] [y.1,y.2]
theorem uJ {x y:Nat × Nat}:M2 x y<0 ↔ ltP x y:=by
 unfold M2 ltP;simp only [KF];split
 ·exact ⟨fun _=>.inl ‹_›,fun _=>by decide⟩
 split
 ·exact ⟨fun h=>absurd h dc_,fun h=>by omega⟩
 split
 ·exact ⟨fun _=>.inr ⟨by omega,‹_›⟩,fun _=>by decide⟩
 split
 ·exact ⟨fun h=>absurd h dc_,fun h=>by omega⟩
 exact ⟨fun h=>absurd h dc_,fun h=>by omega⟩
theorem JR:Sort.SWO (ltOf M2) where
 irrefl x:=by unfold ltOf;exact Qc (fun h=>yD x (uJ.1 h))
 trans x y z h1 h2:=by
  unfold ltOf at *;simp only [PN] at *;rw [uJ] at *;unfold ltP at *;omega
 ntrans x y z h1 h2:=by
  unfold ltOf at *;simp only [P7] at *;rw [uJ] at *;unfold ltP at *;omega
def BF (ks:List fw)(s:fw):Bool:=decide (s.1<s.2) || !(decide (nB s∈ks))
def lE (s:fw):Nat × Nat:=((min s.1 s.2).toNat,(max s.1 s.2).toNat)
def kC (ks:List fw)(seen:List Nat):List (Nat × Nat):=((seen.map fun j=>ks.getD j (0,0)).filter (BF ks)).map lE
theorem CI {seen:List Nat}{s:fw}(h:ks[j]?=some s):kC ks (seen++[j])=kC ks seen++if BF ks s then [lE s] else []:=by
 unfold kC;rw [Qg,Q8,Qg];congr 1;rw [Qe,RG,ax,h,List.filter_cons];split <;> simp_all
theorem GD {s:fw}(a:0<=s.1)(b:0<=s.2):xg (lE s)=[.int .i64 (min s.1 s.2),.int .i64 (max s.1 s.2)]:=by
 unfold xg lE;rw [show (((min s.1 s.2).toNat:Nat):Int)=min s.1 s.2 by omega,show (((max s.1 s.2).toNat:Nat):Int)=max s.1 s.2 by omega]
theorem tz (h:∀ t∈tris,mU n t):∀ s∈bP tris,0<=s.1/\0<=s.2/\s.1.toNat<n/\s.2.toNat<n:=by
 intro s hs;obtain ⟨t,a,hs⟩:=List.mem_flatMap.1 hs;obtain ⟨h1,h2,h3⟩:=h t a;simp only [oL,PQ,QF,R0] at hs;rcases hs with rfl | rfl | rfl <;> simp [nC,DZ] <;> omega
structure EdgL (tris:List Tri)(es:List (Nat × Nat)):Prop where
 up:es.Pairwise ltP
 mem:∀ e,e∈es ↔ e.1<e.2/\(((e.1:Int),(e.2:Int))∈bP tris∨((e.2:Int),(e.1:Int))∈bP tris)
theorem EdgL.same {a:List (Nat × Nat)}(h:EdgL tris es)(k:EdgL tris a):es=a :=
 DL yD I7 h.up k.up fun e=>(h.mem e).trans (k.mem e).symm
theorem EdgL.ok (h:EdgL tris es)(a:∀ t∈tris,mU n t)(s:Nat):EdgeOk s n es:=⟨fun e b=>by
 obtain ⟨h1,h2⟩:=(h.mem e).1 b;rcases h2 with h2 | h2
 ·have:=tz a _ h2;simp only [Rr] at this;omega
 have:=tz a _ h2;simp only [Rr] at this;omega⟩
theorem EdgL.le (h:EdgL tris es)(a:∀ t∈tris,mU n t)(b:n<=6):es.length<=15/\(n<=4->es.length<=6):=IR b h.up (h.ok a 0).lt
theorem Mm {s t:fw}(a:0<=s.1)(b:0<=s.2)(c:0<=t.1)(d:0<=t.2)(h:lE s=lE t):s=t∨t=nB s:=by
 obtain ⟨e,f⟩:=s;obtain ⟨g,i⟩:=t;unfold lE at h;simp only [RN,nB] at *;omega
theorem ML {l:List (Nat × Nat)}(c:ks.Perm (bP tris))(n:(bP tris).Nodup)(d:∀ s∈bP tris,0<=s.1/\0<=s.2)
  (o:l.Perm ((ks.filter (BF (bP tris))).map lE)) (p:es.Perm l) (b:es.Pairwise fun x y=>ltOf M2 y x=false):EdgL tris es:=by
 have j:=p.trans o;have q:ks.Nodup:=c.nodup_iff.2 n;have f:∀ s∈ks.filter (BF (bP tris)),s∈bP tris/\BF (bP tris) s=true:=fun s b=>by
  obtain ⟨h1,h2⟩:=Q4.1 b;exact ⟨c.mem_iff.1 h1,h2⟩
 have r:((ks.filter (BF (bP tris))).map lE).Nodup:=by
  rw [List.Nodup,List.pairwise_map];refine (q.filter _).imp_of_mem fun {s t} b u g v=>?_;obtain ⟨a,k1⟩:=f s b;obtain ⟨k,k2⟩:=f t u;obtain ⟨a1,a2⟩:=d s a;obtain ⟨w,z⟩:=d t k;rcases Mm a1 a2 w z v with e | e
  ·exact g e
  subst e;unfold BF at k1 k2;have i:nB (nB s)=s:=rfl;simp only [i,a,k,decide_true,Bool.not_true,Bool.or_false,PN] at k1 k2;simp only [nB] at k2;omega
 have g:es.Nodup:=j.nodup_iff.2 r;refine ⟨?_,fun e=>?_⟩
 ·refine (List.Pairwise.and g b).imp fun {x y} ⟨h1,h2⟩=>?_;unfold ltOf at h2;have h3:¬ ltP y x:=fun h=>absurd (uJ.2 h) (PJ h2);unfold ltP at h3 ⊢;obtain ⟨x1,x2⟩:=x;obtain ⟨y1,y2⟩:=y;simp only [ne_eq,RN] at *;omega
 rw [j.mem_iff];constructor
 ·intro h;obtain ⟨s,b,rfl⟩:=PK.1 h;obtain ⟨a,k1⟩:=f s b;obtain ⟨a1,a2⟩:=d s a;have m:s.1≠s.2:=fun e=>by
   unfold BF at k1;have i:nB s=s:=by obtain ⟨x,y⟩:=s;simp only [nB] at *;rw [e]
   rw [i] at k1;simp only [a,decide_true,Bool.not_true,Bool.or_false,PN] at k1;omega
  obtain ⟨x,y⟩:=s;unfold lE;simp only at a1 a2 m a ⊢;rcases Int.lt_or_gt_of_ne m with h | h
  ·refine ⟨by omega,.inl ?_⟩;rw [show (((min x y).toNat:Nat):Int)=x by omega,show (((max x y).toNat:Nat):Int)=y by omega];exact a
  refine ⟨by omega,.inr ?_⟩;rw [show (((min x y).toNat:Nat):Int)=y by omega,show (((max x y).toNat:Nat):Int)=x by omega];exact a
 rintro ⟨h1,h2⟩;have A:lE ((e.1:Int),(e.2:Int))=e:=by
  obtain ⟨x,y⟩:=e;unfold lE;simp only [RN] at *;omega
 have B:lE ((e.2:Int),(e.1:Int))=e:=by
  obtain ⟨x,y⟩:=e;unfold lE;simp only [RN] at *;omega
 by_cases h3:((e.1:Int),(e.2:Int))∈bP tris
 ·refine PK.2 ⟨_,Q4.2 ⟨c.mem_iff.2 h3, ?_⟩,A⟩;unfold BF;rw [P0 (by show (e.1:Int)<e.2;omega)];rfl
 have h4:=h2.resolve_left h3;refine PK.2 ⟨_,Q4.2 ⟨c.mem_iff.2 h4, ?_⟩,B⟩;unfold BF;rw [show nB ((e.2:Int),(e.1:Int))=((e.1:Int),(e.2:Int)) from rfl,Qc h3,Bool.not_false,Bool.or_true]
theorem wP (C:Mem)(a:Int):Gives cx.P 274 [.int .i64 a] C (.bool false):=by
 exact Tr func274 6 U3 fun w0=>Th 1 [0] Z<|Th 4 [2] Z<|Tp U2<|⟨by simp,Z⟩
theorem zf (C:Mem)(a b:Int):Gives cx.P 216 [.int .i64 a,.int .i64 b] C (.int .i64 (KW a b)):=by
 refine Tr func216 20 U3 fun w0=>Th 1 [0,1] Z<|Ti 1 Z fun R d=>Tt (wP _ _) U7<|C6 1 [0,1,5] d Z<|Ti 1 Z fun R d=>Tt (wP _ _) U7<|C6 1 [0,1,5,6] d Z<|Th 1 [0,1,6,11] Z<|G.cd (fun f=>?_) fun f=>?_
 ·cases f
 refine Th 1 [0,1,13] Z<|G.cd (fun g=>?_) fun g=>?_
 ·cases g
 refine Th 3 [0,1,16] Z<|G.cd (fun c=>?_) fun c=>?_
 ·refine Th 1 [4] Z<|Tp U2 ?_;simp only [PN] at c;exact ⟨by rw [KW,aK c],Z⟩
 refine Th 3 [19] Z<|G.cd (fun e=>?_) fun e=>?_
 ·refine Th 1 [4] Z<|Tp U2 ?_;simp only [PN,P7] at c e;exact ⟨by rw [KW,aG c,aG om_],Z⟩
 refine Th 1 [4] Z<|Tp U2 ?_;simp only [P7] at c e;exact ⟨by rw [KW,aG c,aK om_],Z⟩
theorem zg (C:Mem)(v w:Value)(a b:List Nat)(l:Sl C 1 v (a.map aT))(n:Sl C 1 w (b.map aT))(L:a.length<=1000000)(_M:b.length<=1000000) :
  Gives cx.P 148 [v,w] C (.int .i64 (KF a b)):=by
 obtain ⟨A,c,rfl,_⟩:=id l;obtain ⟨B,d,rfl,_⟩:=id n;simp only [al] at l n ⊢;refine Tr func148 36 U3 fun w0=>Th 1 [0,1] Z<|Th 3 [0,1,9,10,11] Z<|G.loop (fun fr N z D=>∃ (k:Nat),(k<=a.length/\k<=b.length/\KF (a.drop k) (b.drop k)=KF a b)/\fr=[(0,[],.slice A a.length c),(1,[],.slice B b.length d),(9,[],.slice A a.length c),(10,[],.int .i64 a.length),(11,[],.int .i64 k)]/\z=[]/\D=a.length-k) (hn_ [0,1,9,10,11] Z) ⟨0,⟨PL _,PL _,Z⟩,Z,Z,Z⟩ (fun fr O Q m _ E=>?_);obtain ⟨k,⟨S,T,g⟩,rfl,rfl,rfl⟩:=E;refine Th 1 [0,1,9,10,11,12] Z<|G.cd (fun o=>?_) fun o=>?_
 ·have h:k<a.length:=by simpa using o
  obtain ⟨x,t⟩:∃ x,a[k]?=some x:=⟨a[k],aj h⟩;have F:(a.map aT)[k]?=some (aT x):=by rw [PH,t];rfl
  have p:a.drop k=x::a.drop (k+1):=by rw [P1 h,(aJ.1 t).2]
  refine Ti 1 Z fun R f=>Ty l.m_ U10 om_ F fl_ fun U H=>Tj H U8<|C6 2 [0,1,5,6,9,10,11] f Z<|Th 4 [0,1,5,6,9,10,11,19] Z<|G.cd (fun q=>?_) fun q=>?_
  ·have i:b.length<=k:=by simpa using q
   have j:b.drop k=[]:=Rn i;exact Th 1 [4] Z<|Tp U2<|⟨by rw [<- g,p,j];rfl,Z⟩
  have i:k<b.length:=by
   have:¬ b.length<=k:=by simpa using q
   omega
  obtain ⟨y,hy⟩:∃ y,b[k]?=some y:=⟨b[k],aj i⟩;have I:(b.map aT)[k]?=some (aT y):=by rw [PH,hy];rfl
  have j:b.drop k=y::b.drop (k+1):=by rw [P1 i,(aJ.1 hy).2]
  refine Ti 2 Z fun R f=>Ty n.m_ U10 om_ I fl_ fun V J=>Tj J U8<|C6 1 [0,1,6,7,9,10,11] f Z<|Ti 2 Z fun R f=>Tt (zf _ _ _) U7<|C6 1 [0,1,8,9,10,11] f Z<|Th 2 [0,1,8,9,10,11,28] Z<|G.cd (fun r=>?_) fun r=>?_
  ·have e:KW x y≠0:=by simpa using r
   refine Th 2 [4] Z<|Tp U2<|⟨?_,Z⟩;rw [<- g,p,j];simp only [KF];unfold KW at e ⊢;by_cases h1:x<y
   ·have h3:(x:Int)<y:=by omega
    rw [aK h1,aK h3]
   have h3:¬ (x:Int)<y:=by omega
   rw [aG h1,aG h3];rw [aG h3] at e;by_cases h2:y<x
   ·have h4:¬ (x:Int)=y:=by omega
    rw [aK h2,aG h4]
   have h4:(x:Int)=y:=by omega
   rw [aK h4] at e;exact absurd Z e
  have e:KW x y=0:=by simpa using r
  have K:x=y:=by
   unfold KW at e;split at e
   ·cases e
   split at e
   ·omega
   cases e
  refine Tl fun R f=>Tq _ Z U6<|C6 1 [0,1,9,10,11] f Z<|Tv (m':=a.length-(k+1)) om_ mup (hn_ [0,1,9,10,11] Z) ⟨k+1,⟨by omega,by omega,by rw [<- g,p,j,K];simp [KF]⟩,Z,Z,Z⟩
 have h:k=a.length:=by
  have:¬ k<a.length:=by simpa using o
  omega
 subst h;rw [QI] at g;refine Th 5 [35] Z<|G.cd (fun s=>?_) fun s=>?_
 ·have u:a.length<b.length:=by simpa using s
  refine Th 1 [4] Z<|Tp U2<|⟨?_,Z⟩;rw [<- g,P1 u];rfl
 have u:¬ a.length<b.length:=by simpa using s
 refine Th 1 [4] Z<|Tp U2<|⟨?_,Z⟩;rw [<- g,Rn om_];rfl
theorem Jz (C:Mem)(x y:Nat × Nat):Gives cx.P 147 [.agg ⟨xg x⟩,.agg ⟨xg y⟩] C (.int .i64 (M2 x y)):=by
 refine Tr func147 8 U3 fun w0=>Tl fun R a=>TC U6 fun m=>TC U6 fun n=>C6 1 [2,3] a Z<|G.freeze 1 Z fun _ _ f=>G.freeze 0 Z (fun d _ g=>?_);have e:∀ {b:Nat}(z:Nat × Nat){t:TypeId},d b=some (.cells ⟨xg z⟩ t (0,0))->Sl d 1 (.slice (some ⟨b,0,none⟩) 2 2) (([z.1,z.2]:List Nat).map aT):=fun z t h=>Sl.ofBlock (rows:=([z.1,z.2]:List Nat).map aT) (c:=2) h (by intro r hr;obtain ⟨y,_,rfl⟩:=PK.1 hr;rfl) (fun j v i=>by simpa [xg,aT] using i) (PE _) dc_;have k:=e x (Mem.get f mup);have l:=e y (Mem.get g mup);exact TD [0,1,2,3] [(2,1)] Z kr_ fun R o a=>UI 0 2 2 U12 (fun _=>⟨.inl ⟨Z,Z⟩,.inl ⟨Z,Z⟩,.inl ⟨Z,Z⟩,by omega,by omega,PE _⟩) U2<|UI 0 2 2 U12 (fun _=>⟨.inl ⟨Z,Z⟩,.inl ⟨Z,Z⟩,.inl ⟨Z,Z⟩,by omega,by omega,PE _⟩) U2<|TG (fun _=>(zg _ _ _ [x.1,x.2] [y.1,y.2] k.m_ l.m_ (by show 2<=1000000;decide) (by show 2<=1000000;decide))) U9<|C6 1 [4] a Z<|Tp U2<|⟨Z,Z⟩
theorem H3 (C:Mem)(v:Value)(l:List (Nat × Nat))(d:l.length<=1000000):Jog.Fn cx.P 146 [v,.func (.func 147) #[] #[]] C [.arr v 163 2 l.length (l.map xg).flatten]
  fun u _e b=>∃ a:List (Nat × Nat),u=.tuple #[]/\b=[.arr v 163 2 l.length (a.map xg).flatten]/\a.Perm l/\a.Pairwise (fun x y=>ltOf M2 y x=false) :=
 yg (P:=cx.P) (T:=tab) Tryz.sortE cx.hT rfl rfl xg fl_ (fun x=>rfl) M2 JR 147 [] C (fun x y c _=>Jz c x y) v 163 l om_ kr_ kr_
abbrev sE (A:Option Addr)(n c:Nat):Value:=.slice A n c
theorem Jx (l:List (Nat × Nat)):∀ r∈l.map xg,r.length=2:=fun r hr=>by obtain ⟨y,_,rfl⟩:=PK.1 hr;rfl
theorem vQ (b:List fw)(a:List Nat):(kC b a).length<=a.length:=by
 unfold kC;rw [al];refine PV (Rc _ _) ?_;rw [al];exact PE _
theorem Jy (C:Mem)(hT:Tabs C)(N:Value)(B:List Pt)(f:List Tri)(O:MeshIn C N B f)(E:Good B f) :
  Pur cx.P 76 [N] C fun u D=>∃ es v,u=.tuple #[v,.int .i64 0]/\EdgL f es/\Sl D 2 v (es.map xg):=by
 have n:=E.ok;have ai:=O;obtain ⟨v1,v2,rfl,h1,h2⟩:=id O.ex;have aB:maxLen<=9223372036854775807:=by simp [maxLen]
 have x:=tz n.ins;have ak:=mD f;have aC:=n.lt;refine Tr func76 63 U3 fun w0=>Tl fun R c=>TC U6 fun b1=>C6 2 [1] c Z<|G.freeze 0 Z fun _ _ Q=>Tl fun R c=>Tj (bkT Q 2) U8<|Tt (fA _ hT.m_ _ B f ai.m_ E) U7<|C6 1 [1,4] c Z<|Th 2 [1,4,14] Z<|G.cd (fun S=>?_) fun S=>?_
 ·exact absurd S dc_
 refine Tl fun R c=>Tj (bkT Q 2) U8<|TT (wo _ _ _ f E.ne h2.m_ (rL n.sides)) U7 (fun aD _ _ am=>?_);obtain ⟨b,rfl,g⟩:=am;obtain ⟨m,T⟩:∃ m,wq f f.length=m:=⟨_,rfl⟩;have y:m.map (·.1)=bP f:=by
  have:=fJ n.sides f.length (PE _);rw [PT,T] at this;exact this
 rw [T] at g;obtain ⟨ks,z⟩:∃ ks,bP f=ks:=⟨_,rfl⟩;rw [z] at y x ak;have U:ks.length=m.length:=by rw [<- y];simp
 have V:∀ s:fw,(dR m (s.2,s.1)).isSome=decide (nB s∈ks):=fun s=>by
  have:=Bl (m:=m) (s:=s);rw [y] at this;rw [this];unfold ji;rw [Bool.not_not]
 refine C6 5 [5] c Z<|Th 1 [5,7] Z<|Ti 1 Z fun R c=>Ve kI2.enc (Mem.get g mup) Z Z Z Z Z Z Z fl_ fun A=>Tn [5,7,22] c Z<|G.nilArr 163 2<|G.loop (fun fr C' F μ=>∃ (seen:List Nat)(o:Option Addr)(n1 r:Nat),(seen.Nodup/\(∀ j∈seen,j<ks.length))/\fr=[(5,[],.map (some b)),(7,[],.slice o n1 r),(22,[],.pointer (some ⟨A,0,none⟩))]/\F=[.arr (sE o n1 r) 163 2 (kC ks seen).length ((kC ks seen).map xg).flatten,.obj A (bl b m.length seen)]/\μ=ks.length-seen.length) (hn_ [5,7,22] Z) ⟨[],none,0,0,⟨List.nodup_nil,by simp⟩,Z,Z,Z⟩ (fun fr aE aF m _ hI=>?_);obtain ⟨seen,o,n1,r,⟨H,I⟩,rfl,rfl,rfl⟩:=hI;refine Tl fun R c=>Vh kI2.enc (q:=1) (Mem.get g mup) Z Z Z Z Z Z fl_ fun W aG k X=>C6 1 [5,7,22,24] c Z<|G.cd (fun t=>?_) fun t=>?_
 ·obtain ⟨aH,j,Y,an,rfl⟩:W=true/\∃ j,j<m.length/\j ∉ seen/\k=seen++[j]:=by
   rcases X with ⟨h1,_⟩ | h1
   ·rw [h1] at t;cases t
   exact h1
  rw [<- U] at Y;obtain ⟨⟨s,bv⟩,hs⟩:∃ p,m[j]?=some p:=⟨m[j]'om_,aj om_⟩;have aa:ks[j]?=some s:=by rw [<- y,PH,hs];rfl
  have J:(seen++[j]).Nodup:=by
   rw [Q7];exact ⟨H,by simp,fun a ha b g e=>by rw [PZ.1 g] at e;subst e;exact an ha⟩
  have K:∀ i∈seen++[j],i<ks.length:=fun i w=>by
   rcases PU.1 w with h | h
   ·exact I i h
   rw [PZ.1 h];exact Y
  have ao:(seen++[j]).length<=ks.length:=by
   have:=List.Nodup.length_le_of_subset J (l₂:=List.range ks.length) (fun i w=>PX.2 (K i w));simpa using this
  have aI:(seen++[j]).length=seen.length+1:=by simp
  have l:=CI aa (seen:=seen);obtain ⟨ap,aq,_⟩:=x s (O0 aa);have ar:=vQ ks seen;refine Tl fun R c=>Vf kI2.enc (Mem.get g mup) hs ag Z Z Z Z Z Z Z<|Tk U6<|TB U5 fun b8=>Ts (j:=0) U12<|Tn [5,7,8,22] c Z<|Ti 1 Z fun R c=>TE (1) U9 ah U2<|To ag U9<|TE (0) U9 ah U2<|To ag U9<|TA [.int .i64 s.2,.int .i64 s.1] U8<|Vl kI2 (fun _=>(Mem.get g mup)) Z Z Z Z Z Z Z Z Z (lI _ (dR m (s.2,s.1))) Z Z<|C6 5 [5,7,8,10,22] c Z<|Tl fun R c=>TE (0) U9 ah U2<|To ag U9<|TE (1) U9 ah U2<|To ag U9<|Tm 4 Z<|TQ U8<|Tn [5,7,8,22,45] c Z<|G.cd (fun L=>?_) fun L=>?_
  ·have M:BF ks s=true:=by
    unfold BF;rw [<- V];exact L
   rw [M,aK rfl] at l;have aJ:(kC ks (seen++[j])).length=(kC ks seen).length+1:=by rw [l];simp
   refine Ti 1 Z fun R c=>TE (0) U9 ah U2<|To ag U9<|TE (1) U9 ah U2<|To ag U9<|D.min (min s.1 s.2) U6 Z U2<|TE (0) U9 ah U2<|To ag U9<|TE (1) U9 ah U2<|To ag U9<|D.max (max s.1 s.2) U6 Z U2<|TA [.int .i64 (min s.1 s.2),.int .i64 (max s.1 s.2)] U8<|TF [[.int .i64 (min s.1 s.2),.int .i64 (max s.1 s.2)]] U12 fun aL _ _ au=>TR (j:=2) U11 au.m_ Z aw (by simp only [PD];omega) fl_ fun ab ac ad=>C6 1 [5,7,22] c Z<|Ua 1 Z<|Tz (L':=[.arr (sE ab ac ad) 163 2 (kC ks (seen++[j])).length ((kC ks (seen++[j])).map xg).flatten,.obj A (bl b m.length (seen++[j]))]) (by rw [l,Qg,Ql,<- GD ap aq];simp)<|Tv (m':=ks.length-(seen++[j]).length) om_ mup (hn_ [5,7,22] Z) ⟨seen++[j],ab,ac,ad,⟨J,K⟩,Z,Z,Z⟩
  have M:BF ks s=false:=by
   unfold BF;rw [<- V];exact L
  rw [M] at l;simp only [Qu,Q0,P3] at l;refine Ua 0 Z<|G.perm (L':=[.arr (sE o n1 r) 163 2 (kC ks (seen++[j])).length ((kC ks (seen++[j])).map xg).flatten,.obj A (bl b m.length (seen++[j]))]) (by rw [l];exact List.Perm.swap _ _ _)<|Tv (m':=ks.length-(seen++[j]).length) om_ mup (hn_ [5,7,22] Z) ⟨seen++[j],o,n1,r,⟨J,K⟩,Z,Z,Z⟩
 obtain ⟨aM,rfl,ae⟩:W=false/\k=seen/\∀ j,j<m.length->j∈seen:=by
  rcases X with h1 | ⟨h1,_⟩
  ·exact h1
  rw [h1] at t;cases t
 rw [<- U] at ae;have hp:=oO (d:=((0:Int),(0:Int))) H I ae;have ar:=vQ ks k;have ao:k.length<=ks.length:=by
  have:=List.Nodup.length_le_of_subset H (l₂:=List.range ks.length) (fun i w=>PX.2 (I i w));simpa using this
 refine Ua 0 Z<|TH [(1,3)] Z fun R c=>Tk U6<|D.call (H3 _ _ (kC ks k) om_) Z (.inr dc_) U6 (PI _) fl_ fun aN _ aO _ av=>Tn [7] c Z ?_;obtain ⟨es,rfl,rfl,af,ax⟩:=av;have ay:EdgL f es:=ML (ks:=k.map fun j=>ks.getD j (0,0)) (by rw [z];exact hp) n.sides (fun s hs=>by rw [z] at hs;exact ⟨(x s hs).1,(x s hs).2.1⟩) (by rw [z];exact PI _) af ax;have az:es.length=(kC ks k).length:=af.length_eq;refine Th 3 [2,3] Z<|G.freezeArr 0 (es.map xg) Z Z (Jx es) (by rw [al,az]) fun Cf aP aA=>Tu (G.dropAll (TM U3 ?_));exact ⟨Z,es,_,Z,ay,aA⟩
theorem LP {q:Rat}(h:q.den=1):q=(q.num:Rat):=Rat.ext rfl h
def wlB (D:Int)(q:Rat):Bool:=decide ((q*(D:Rat)).den=1) && decide ((q*(D:Rat)).num.natAbs<=999999999)
theorem Ee {D:Int}{q:Rat}(h:wlB D q=true):Wl D q:=by
 unfold wlB at h;simp only [PR,PN] at h;exact ⟨_,LP h.1,h.2⟩
theorem Iq (D:Int)(a:D≠0)(c:D.natAbs<=999999999)(h:(r.f.all (wlB D) && wlB D r.b)=true):RowI r:=by
 simp only [PR,PY] at h;exact ⟨D,a,c,fun q d=>Ee (h.1 q d),Ee h.2⟩
def xP (i:Nat):Pt:=if i<2 then (3,0) else if i=2 then (0,0) else (6,0)
def xD (i:Nat):Rat:=if i=1 then 5 else if i=3 then 1 else 4
def xX (i:Nat):Str:=if i=1 then [53] else if i=3 then [49] else [52]
def xN (i:Nat):Str:=if i % 2=0 then [97] else [98]
def xO (i:Nat):Obs:=⟨2,xN i,qtx (xP i).1,qtx (xP i).2,xX i,[66],[65],[],[],[]⟩
def xT (i:Nat):Obs:=⟨2,xN i,if i<2 then [51] else if i=2 then [48] else [54],[48],xX i,[66],[65],[],[],[]⟩
def xB (l:List Nat):Bk:=⟨[(0,0),(6,0),(0,4)],[(0,1,2)],[[49,48],[49,48],[49,48]],[⟨[65],0,none⟩,⟨[66],0,none⟩],l.map xO⟩
def xFs:List Rat:=[10,10,10]
theorem E9:qtx 3=[51]:=gN (z:=3) aq
theorem Kw:qtx 4=[52]:=gN (z:=4) aq
theorem Ob:qtx 5=[53]:=gN (z:=5) aq
theorem Iz:qtx 6=[54]:=gN (z:=6) aq
theorem LU:qtx 1=[49]:=gN (z:=1) aq
theorem Oa:qtx 10=[49,48]:=gN (z:=10) aq
theorem xX_e (i:Nat):qtx (xD i)=xX i:=by
 unfold xD xX;split
 ·exact Ob
 split
 ·exact LU
 exact Kw
theorem HE (i:Nat):xO i=xT i:=by
 unfold xO xT xP;split
 ·simp only [E9,qtx_zero]
 split <;> simp only [qtx_zero,Iz]
theorem Kg:∀ i<4,QB 22 (xD i)/\QB 22 (xP i).1/\QB 22 (xP i).2/\QB 22 (10-xD i)/\QP 23 (xP i):=by decide +kernel
theorem K7 (i:Nat)(a:i<4):da (xX i)=xD i:=LQ (xD i) (xX_e i) (Kg i a).1
theorem O7 (i:Nat)(a:i<4):aS (xX i)=true:=by rw [<- xX_e];exact bB (Kg i a).1
theorem x_pt (i:Nat)(a:i<4):ptO (xO i)=xP i:=by
 unfold ptO;show (da (qtx (xP i).1),da (qtx (xP i).2))=xP i;rw [cR (bB (Kg i a).2.1),cR (bB (Kg i a).2.2.1)]
theorem HL:∀ i<4,jL (xB []).pts (xB []).tris (xP i)=[0]:=by decide +kernel
theorem x_sh:∀ i<4,dS (xT i)=0:=by decide +kernel
theorem Nt:∀ i<4,Kk (xB []).col (xT i)=false/\ordB (xB []).col (xT i)=false/\HK (xT i)=false/\0<=ka (isU (xT i).upper) (xB []).col 0:=by decide +kernel
theorem O4:∀ i<4,decide (xD i<0)=false:=by decide +kernel
theorem x_ov (i:Nat)(a:i<4):gS (xB []).pts (xB []).tris (xB []).col (xO i)=0:=by
 obtain ⟨h1,h2,h3,_⟩:=Nt i a;unfold gS;rw [aG (by rw [HE i,x_sh i a];decide),aG (by unfold JN;rw [x_pt i a,HL i a];decide),aG (by rw [HE i,h1];decide),aG (by rw [HE i,h2];decide),aG (by
  unfold depB;rw [show (xO i).depth=xX i from rfl,K7 i a,O4 i a,Bool.and_false];decide),aG (by rw [HE i,h3];decide)]
theorem x_on:∀ i<4,onQ (xB []).pts xFs (0,1,2) (xP i)=10:=by decide +kernel
theorem Ns (i:Nat)(a:i<4):vc (xB []).pts (xB []).tris xFs (xP i)=.tuple #[af (qtx 10),.int .i64 0]:=by
 unfold vc;rw [HL i a];show yy (onQ (xB []).pts xFs (0,1,2) (xP i))=_;rw [x_on i a];unfold yy;rw [aK (bB aq)]
theorem x_w3:∀ i<4,∀ j<3,QB 22 (wgt (xB []).pts (0,1,2) (xP i) j):=by decide +kernel
theorem x_w (i:Nat)(a:i<4)(j:Nat):QB 22 (wgt (xB []).pts (0,1,2) (xP i) j):=by
 rw [Lb];exact x_w3 i a _ (Qj _ dc_)
theorem x_sl:∀ j,QP 22 (slf (xB []).pts (0,1,2) j):=by
 intro j;unfold slf;rw [HT];rcases (by omega:min j 2=0∨min j 2=1∨min j 2=2) with h | h | h <;> rw [h] <;> decide +kernel
theorem Nx:Good (xB []).pts (xB []).tris:=(Gn aq dc_ dc_ dc_).1
def xW (i:Nat):List Rat:=if i<2 then [1/2,1/2,0] else if i=2 then [1,0,0] else [0,1,0]
def xR (i:Nat):List RowQ:=[⟨xW i,10-xD i⟩,⟨(xW i).map (-1*·), -(10-xD i)⟩]
theorem K4:∀ i<4,((cD (xB []).col (xT i)).flatMap fun k=>[1, -1].map (gJ (bs (xB [])) (bp (xB [])) k (atT (0,1,2) (wgt (xB []).pts (0,1,2) (xP i))) (10-xD i)))=xR i:=by decide +kernel
theorem Ke (l:List Nat)(i:Nat)(a:i<4):rowsO (xB l) (xO i) (xP i) (0,1,2) 10=xR i:=by
 unfold rowsO;rw [aG (by show ¬ ((2:Int)=1);decide),aK (by rfl)];unfold kU;rw [show (xO i).depth=xX i from rfl,K7 i a,HE i];exact K4 i a
theorem Nv:∀ i<4,∀ r∈xR i,Nm r:=by unfold Nm;decide +kernel
theorem Kf (i:Nat)(a:i<4):∀ r∈xR i,RowI r:=by
 have:∀ i<4,∀ r∈xR i,(r.f.all (wlB 2) && wlB 2 r.b)=true:=by decide +kernel
 exact fun r hr=>Iq 2 dc_ dc_ (this i a r hr)
theorem O3 (i:Nat)(a:i<4):ObsR (xO i):=by
 have:∀ i<4,(xT i).name.length<=9/\(xT i).x.length<=9/\(xT i).y.length<=9/\(xT i).depth.length<=9:=by decide +kernel
 obtain ⟨h1,h2,h3,h4⟩:=this i a;rw [HE i];exact ⟨by omega,by omega,by omega,by omega,(by decide:1<=999998),(by decide:1<=999998),(by decide:0<=999998),(by decide:0<=999998),(by decide:0<=999998)⟩
theorem K9 {o:Obs}(h:(xB l).obs[k]?=some o):∃ i,l[k]?=some i/\o=xO i:=by
 have a:(l.map xO)[k]?=some o:=h;rw [PH] at a;cases b:l[k]? with
 | none=>rw [b] at a;cases a
 | some i=>rw [b] at a;exact ⟨i,rfl,(Rf a).symm⟩
structure XOk (l:List Nat):Prop where
 lt:∀ i∈l,i<4
 nd:(l.map xN).Nodup
 len:l.length<=4
theorem Kh {l:List Nat}(b:XOk l):∀ n,n<=l.length->vg (xB l) n=0
 | 0,_=>rfl
 | n+1,m=>by
  have d:=Kh b n om_;show (if vg (xB l) n≠0 then vg (xB l) n else obZ (xB l) ((xB l).obs.take n) ((xB l).obs.getD n I0))=0;rw [aG (by rw [d];decide)];have c:l[n]?=some l[n]:=aj om_;have f:(xB l).obs.getD n I0=xO l[n]:=KD (by
   show (l.map xO)[n]?=_;rw [PH,c];rfl)
  rw [f];unfold obZ;rw [aG (by rw [show gS (xB l).pts (xB l).tris (xB l).col (xO l[n])=0 from x_ov _ (b.lt _ (Qx _))];decide),aG fun hm=>?_];obtain ⟨o,g,e⟩:=PK.1 hm;obtain ⟨j,a⟩:=Rw g;rw [Qr] at a;split at a
  ·rename_i p;obtain ⟨i,h,rfl⟩:=K9 a;have k:xN i=xN l[n]:=e;have h1:(l.map xN)[j]?=some (xN l[n]):=by rw [PH,h];exact congrArg some k
   have h2:(l.map xN)[n]?=some (xN l[n]):=by rw [PH,c];rfl
   have:=(List.getElem?_inj (by rw [al];omega) b.nd).1 (h1.trans h2.symm);omega
  cases a
theorem ol (l:List Nat):(xB l).obs.length=l.length:=by simp [xB]
theorem O9 (a:XOk l):iq (xB l)=0:=by
 unfold iq;have:=a.len;rw [aG (by show ¬ (yP (xB []).pts.length (xB []).terr≠0);decide +kernel),aG (by show ¬ (ri (xB []).col≠0);decide +kernel),aG (by rw [ol];omega),ol];exact Kh a _ (PE _)
theorem Pa (b:XOk l):BookR (xB l):=by
 refine ⟨by show ∀ x∈(xB []).terr,_;decide, ?_,by show (xB []).col.length<=_;decide,fun o c=>?_⟩
 ·intro x a;simp only [xB,PQ,QF,R0] at a;rcases a with rfl | rfl
  ·exact ⟨by decide +kernel,fun q h=>by simp at h,by decide⟩
  exact ⟨by decide +kernel,fun q h=>by simp at h,by decide⟩
 obtain ⟨k,d⟩:=Rw c;obtain ⟨i,e,rfl⟩:=K9 d;exact O3 i (b.lt i (O0 e))
theorem NA (l:List Nat)(i:Nat)(a:i<4):Fine (xB l) xFs (xO i) (xP i) 0 (0,1,2) 10:=by
 obtain ⟨f,b,c,d,e⟩:=Kg i a;refine ⟨⟨Z,Z,e,⟨bB b,bB c⟩,fun _=>O7 i a⟩,⟨[],HL i a⟩,Z,Ns i a,by decide +kernel, ?_,x_w i a, ?_,x_sl,fun _ h=>absurd Z h, ?_⟩
 ·unfold kU;rw [aK (by rfl),show (xO i).depth=xX i from rfl,K7 i a];exact d
 ·exact (Nt i a).2.2.2
 rw [Ke l i a];exact Nv i a
theorem Nu (l:List Nat):Terr (xB l) xFs:=⟨by simp [xB,xFs,Oa],rfl,by decide +kernel⟩
def xRO (l:List Nat)(k:Nat):List RowQ:=xR (l.getD k 0)
theorem xY (b:XOk l):Calm (xB l) xFs (xRO l):=by
 have c:∀ k,k<l.length->l.getD k 0<4:=fun k d=>by
  rw [ax,aj d];exact b.lt _ (Qx _)
 have h4:=b.len;refine ⟨⟨Nx,Pa b,O9 b,Nu l,(by decide:3<=60),fun k o e=>?_⟩,(by decide:3<=12),fun r hr=>?_,fun i a=>Kf _ (c i (by rw [ol] at a;exact a)), ?_,fun i a=>(by show 2<=8;decide),by rw [ol];omega⟩
 ·obtain ⟨i,a,rfl⟩:=K9 e;have h1:=b.lt i (O0 a);refine ⟨_,_,_,_,NA l i h1, ?_⟩;rw [Ke l i h1,xRO,ax,a];rfl
 ·have:bH (xB l)=[]:=rfl;rw [this] at hr;cases hr
 have:bH (xB l)=[]:=rfl;rw [this];decide
theorem ok0:XOk [0]:=⟨by decide,by decide,by decide⟩
theorem ok01:XOk [0,1]:=⟨by decide,by decide,by decide⟩
theorem ok23:XOk [2,3]:=⟨by decide,by decide,by decide⟩
theorem rows0:dh (xB [0]) (xRO [0])=xR 0:=by rw [dh,jz,ol];rfl
theorem NW:dh (xB [0,1]) (xRO [0,1])=xR 0++xR 1:=by rw [dh,jz,ol];rfl
theorem NV:dh (xB [2,3]) (xRO [2,3])=xR 2++xR 3:=by rw [dh,jz,ol];rfl
theorem O5:Lp.Val (ck 3 (eI (xR 0))) (fun j=>([1/2,1/2,0]:List Rat).getD j 0) 1 6:=by
 refine .inl ⟨Z,⟨fun _=>6,jk.2 aq,by decide +kernel⟩,fun y hy=>?_⟩;have h1:=jk.1 hy ⟨[-1/2, -1/2,0], -6⟩ aq;show _<=Lp.sumN _ 3;simp only [Lp.sumN,ax,List.getElem?_cons_zero,Re,QW] at h1 ⊢;grind
theorem Nw:Lp.Val (ck 3 (eI (xR 0))) (fun j=>([-1/2, -1/2,0]:List Rat).getD j 0) 1 (-6):=by
 refine .inl ⟨Z,⟨fun _=>6,jk.2 aq,by decide +kernel⟩,fun y hy=>?_⟩;have h1:=jk.1 hy ⟨[1/2,1/2,0],6⟩ aq;show _<=Lp.sumN _ 3;simp only [Lp.sumN,ax,List.getElem?_cons_zero,Re,QW] at h1 ⊢;grind
theorem x_no:¬ (ck 3 (eI (xR 0++xR 1))).Hold:=by
 rintro ⟨y,hy⟩;have h1:=jk.1 hy ⟨[-1/2, -1/2,0], -6⟩ aq;have h2:=jk.1 hy ⟨[1/2,1/2,0],5⟩ aq;simp only [Lp.sumN,ax,List.getElem?_cons_zero,Re,QW] at h1 h2;grind
def es3:List (Nat × Nat):=[(0,1),(0,2),(1,2)]
theorem OA:EdgL [(0,1,2)] es3:=by
 refine ⟨by simp [es3,ltP],fun e=>?_⟩;rw [show bP [(0,1,2)]=[(0,1),(1,2),(2,0)] from rfl];obtain ⟨x,y⟩:=e;simp only [es3,PQ,QF,R0,RN];omega
theorem Oz:EdgeOk 1 3 es3:=⟨by decide⟩
theorem Ny:Lp.Val (ck (1*3+1*es3.length) (eI (yr (xR 2++xR 3) (1*3) 3 es3 (1*es3.length)))) (fun j=>(mF (1*3) (1*es3.length)).getD j 0) 1 6:=by
 refine .inl ⟨Z,⟨fun j=>([6,9,6,3,0,3]:List Rat).getD j 0,jk.2 aq,by decide +kernel⟩,fun y hy=>?_⟩;obtain ⟨h0,h2⟩:=(Ks Oz aq).1 hy;have h1:=jk.1 h0 ⟨[1,0,0],6⟩ aq;have h3:=jk.1 h0 ⟨[0, -1,0], -9⟩ aq;have k0:=xH.1 (h2 0 dc_);have k1:=xH.1 (h2 1 dc_);have k2:=xH.1 (h2 2 dc_);rw [show Nl 3 es3 y 0=y 0-y 1 from rfl] at k0;rw [show Nl 3 es3 y 1=y 0-y 2 from rfl] at k1;rw [show Nl 3 es3 y 2=y 1-y 2 from rfl] at k2;rw [show Lp.sumN (fun j=>(mF (1*3) (1*es3.length)).getD j 0*y j) (ck (1*3+1*es3.length) (eI (yr (xR 2++xR 3) (1*3) 3 es3 (1*es3.length)))).n=_ from FH (h:=1*3) (more:=1*es3.length)];show _<=Lp.sumN (fun k=>y (3+k)) 3;simp only [Sm,Lp.sumN,ax,List.getElem?_cons_zero,Re,QW,Rz,Nat.reduceAdd] at h1 h3 k0 k1 k2 ⊢;grind
abbrev tq (q:Rat):Value:=af (qtx q)
theorem mA (l:List Rat):(l.map aQ).flatten=l.map tq:=ep tq l
theorem df {l:List Rat}(h:i<l.length):aE (l.map tq) [tq x] i=(l.set i x).map tq:=by
 rw [List.set_eq_take_append_cons_drop,aK h];unfold aE;simp [List.map_drop]
theorem EW (n:Nat):List.replicate n (af [48])=(List.replicate n (0:Rat)).map tq:=by rw [lu,mA]
def gm (n a:Nat)(t:Tri)(w:Nat->Rat):Nat->List Rat
 | 0=>List.replicate n 0
 | j+1=>(gm n a t w j).set (a+fb t j) (w j)
theorem bO (n a:Nat)(t:Tri)(w:Nat->Rat):∀ j,(gm n a t w j).length=n
 | 0=>Qd
 | j+1=>by rw [gm,Qp,bO n a t w j]
theorem HO (C:Mem)(k:Tabs C)(f:Value)(B:Bk)(L:List Rat)(M:Nat->List RowQ)(s:Nat)(p:Pt)(i:Nat)(r:List Nat)(t:Tri)(b:BookIn C f B)(h:Calm B L M)(N:s<bs B)(x:QP 23 p)(y:PtR p)
  (O:jL B.pts B.tris p=i::r) (l:B.tris[i]?=some t) (Q:∀ j,QB 22 (wgt B.pts t p j)) :
  Pur cx.P 59 [f,.int .i64 s,ptV p] C fun u D=>∃ v,u=.tuple #[v,.int .i64 0]/\Sl D 1 v ((gm (bs B*bp B) (s*bp B) t (wgt B.pts t p) 3).map aQ):=by
 have S:=b;have o:=h.rich.good;have T:=h.rich.bookz k b;have U:=h.n12;have V:=o.ok.ins t (O0 l);have q:∀ D:Mem,C.le D->Gives cx.P 92 [f] D (.tuple #[.int .i64 (bs B*bp B:Nat),.int .i64 0]):=fun D W=>by
  have h:=zc D f B 0 (T.mono W) om_;rw [aK rfl] at h;exact h
 obtain ⟨z,A,tv,cv,ov,rfl,h1,h2,h3,h4,h5⟩:=id b.ex;have hm:MeshIn C (.agg ⟨[z,A]⟩) B.pts B.tris:=⟨z,A,rfl,h1,h2⟩;obtain ⟨A1,c1,rfl,X,_⟩:=id h1;obtain ⟨A2,c2,rfl,Y,_⟩:=id h2;have aa:(B.pts.map gi).length=bp B:=al _;have ab:(B.tris.map fU).length=B.tris.length:=al _;simp only [aa,ab] at h1 X h2 Y hm S q ⊢;have am:maxLen<=9223372036854775807:=by simp [maxLen]
 obtain ⟨n,E⟩:∃ n,bs B*bp B=n:=⟨_,rfl⟩;have c:∀ j,s*bp B+fb t j<n:=fun j=>by rw [<- E];exact Bu N (eB V j)
 rw [E] at q U ⊢;have an:=c 0;have ao:=c 1;have aq:=c 2;refine Tr func59 78 U3 fun w0=>?_;refine Tl fun R a=>?_;refine TC U6 (fun b3=>?_);refine TC U6 (fun b5=>?_);refine C6 2 [1,3,5] a Z ?_;clear a R;refine G.freeze 1 Z (fun _ _ d=>?_);refine G.freeze 0 Z (fun _ _ F=>?_);refine Tl fun R a=>?_;refine Tj (bkT d 5) U8 ?_;refine Tt (q _ mup) U7 ?_;refine C6 5 [1,3,5,8,9] a Z ?_;clear a R;refine Th 2 [1,3,5,8,9,21] Z ?_;refine G.cd (fun H=>?_) fun H=>?_
 ·exact absurd H dc_
 refine Ti 1 Z fun R a=>?_;refine Tj (bkT d 2) U8 ?_;refine Tj (bkT F 2) U8 ?_;refine TT (iX _ k.m_ _ B.pts B.tris p hm.m_ o x y) U7 (fun ar _ _ ac=>?_);obtain ⟨wv,rfl,g⟩:=ac;rw [O] at g;obtain ⟨Aw,cw,rfl,_⟩:=id g;refine C6 5 [1,3,5,8,9,10] a Z ?_;clear a R;refine Th 2 [1,3,5,8,9,10,31] Z ?_;refine G.cd (fun I=>?_) fun I=>?_
 ·exact absurd I dc_
 refine Th 3 [1,3,5,8,10,35] Z ?_;refine G.cd (fun J=>?_) fun J=>?_
 ·exact absurd (aY J) ap
 refine TD [0,1,2,3,4,5,6,7,8,9,10,11,12] [(6,1)] Z kr_ (fun R b a=>?_);refine Tk U6 ?_;refine Tj (bkT d 2) U8 ?_;refine Tk U6 ?_;refine Ty g.m_ U10 om_ (rfl:(List.map aT (i::r))[0]?=some (aT i)) fl_ (fun au ad=>?_);refine Tj ad U8 ?_;refine Tj (bkT F 2) U8 ?_;refine TU (fun _=>(oM _ k.m_ _ B.pts B.tris p i t hm.m_ o x y l Q)) U9 ?_;refine Tm 3 Z ?_;refine TB U5 (fun ae=>?_);refine Ts (j:=0) U12 ?_;refine Tk U6 ?_;refine Tn [1,3,8,9,10,11] a Z ?_;clear a b R;refine Th 2 [1,3,8,9,10,11,47] Z ?_;refine G.cd (fun K=>?_) fun K=>?_
 ·exact absurd K dc_
 refine TH [(1,3)] Z (fun R a=>?_);refine Tk U6 ?_;refine D.call (lP _ n om_) Z (.inr dc_) U6 (PI _) fl_ (fun av _ aw _ af=>?_);refine C6 1 [1,3,10,11,12] a Z ?_;clear a R;obtain ⟨bz,rfl,rfl⟩:=af;refine G.freeze 1 Z (fun _ _ w=>?_);refine TD [0,1,2,3,4,5,6,7,8] [] Z kr_ (fun R b a=>?_);refine Tm 2 Z ?_;refine Tj (bkT d 1) U8 ?_;refine Tk U6 ?_;refine Ty g.m_ U10 om_ (rfl:(List.map aT (i::r))[0]?=some (aT i)) fl_ (fun ax ag=>?_);refine Tj ag U8 ?_;refine Ty h2.m_ U10 om_ (by rw [PH,l];rfl:(B.tris.map fU)[i]?=some (fU t)) fl_ (fun ay ai=>?_);refine Tj ai U8 ?_;refine Tk U6 ?_;refine Tn [1,3,11,12,58,59] a Z ?_;clear a b R;refine Tz (L':=[.arr (.slice (some ⟨bz,0,none⟩) n n) 32 1 n ((gm n (s*bp B) t (wgt B.pts t p) 0).map tq)]) (by rw [EW];rfl) ?_;refine G.loop (fun fr C' e μ=>∃ (j:Nat),(j<=3)/\fr=[(1,[],.int .i64 s),(3,[],.pointer (some ⟨b3,0,none⟩)),(11,[],.pointer (some ⟨ae,0,none⟩)),(12,[],.slice (some ⟨bz,0,none⟩) n n),(58,[],.agg ⟨fU t⟩),(59,[],.int .i64 j)]/\e=[.arr (.slice (some ⟨bz,0,none⟩) n n) 32 1 n ((gm n (s*bp B) t (wgt B.pts t p) j).map tq)]/\μ=3-j) (hn_ [1,3,11,12,58,59] Z) ⟨0,PL _,Z,Z,Z⟩ (fun fr az aA m _ hI=>?_);obtain ⟨j,hj,rfl,rfl,rfl⟩:=hI;refine Th 1 [1,3,11,12,58,59,60] Z ?_;refine G.cd (fun h60=>?_) fun h60=>?_
 ·have aB:j<3:=by
   have:=aY h60;omega
  rcases (by omega:j=0∨j=1∨j=2) with rfl | rfl | rfl
  ·refine Ti 1 Z fun R a=>?_;refine Ud U11 (fun _=>⟨by omega,by omega,(show (fU t)[((0:Nat):Int).toNat]?=some (.int .i64 ((fb t 0:Nat):Int)) from by rw [<- oA];exact jf t dc_)⟩) U2 ?_;refine C6 2 [1,3,11,12,13,14,58,59] a Z ?_;clear a R;refine TD [0,1,2,3,4,5,6,7,8,9,10,11,12,13] [] Z kr_ (fun R b a=>?_);refine Tm 4 Z ?_;refine Tj (bkT d 1) U8 ?_;refine Tk U6 ?_;refine Tq (((s*bp B:Nat):Int)) (Qa _ _) U6 ?_;refine Tk U6 ?_;refine TS (((s*bp B+fb t 0:Nat):Int)) U4 om_ om_ om_ U2 ?_;refine Tk U6 ?_;refine TE (0) U9 ah U2 ?_;refine Tj (bkT w 1) U8 ?_;refine TL ((s*bp B+fb t 0)) U10 (fun _=>⟨by omega,by omega,(QD _).symm⟩) U2 ?_;refine TP (j:=0) U11 (by rw [al,bO];have:=c 0;simp;omega) ?_;refine Tn [1,3,11,12,58,59] a Z ?_;clear a b R;refine Tl fun R a=>?_;refine Tq _ Z U6 ?_;refine C6 1 [1,3,11,12,58,59] a Z ?_;clear a R;refine Tz (L':=[.arr (.slice (some ⟨bz,0,none⟩) n n) 32 1 n ((gm n (s*bp B) t (wgt B.pts t p) 1).map tq)]) (by rw [df (by rw [bO];exact c 0)];rfl) ?_;refine Tv (m':=2) om_ mup (hn_ [1,3,11,12,58,59] Z) ⟨1,by decide,Z,Z,Z⟩
  ·refine Ti 1 Z fun R a=>?_;refine Ud U11 (fun _=>⟨by omega,by omega,(show (fU t)[((1:Nat):Int).toNat]?=some (.int .i64 ((fb t 1:Nat):Int)) from by rw [<- oA];exact jf t dc_)⟩) U2 ?_;refine C6 2 [1,3,11,12,13,14,58,59] a Z ?_;clear a R;refine TD [0,1,2,3,4,5,6,7,8,9,10,11,12,13] [] Z kr_ (fun R b a=>?_);refine Tm 4 Z ?_;refine Tj (bkT d 1) U8 ?_;refine Tk U6 ?_;refine Tq (((s*bp B:Nat):Int)) (Qa _ _) U6 ?_;refine Tk U6 ?_;refine TS (((s*bp B+fb t 1:Nat):Int)) U4 om_ om_ om_ U2 ?_;refine Tk U6 ?_;refine TE (1) U9 ah U2 ?_;refine Tj (bkT w 1) U8 ?_;refine TL ((s*bp B+fb t 1)) U10 (fun _=>⟨by omega,by omega,(QD _).symm⟩) U2 ?_;refine TP (j:=0) U11 (by rw [al,bO];have:=c 1;simp;omega) ?_;refine Tn [1,3,11,12,58,59] a Z ?_;clear a b R;refine Tl fun R a=>?_;refine Tq _ Z U6 ?_;refine C6 1 [1,3,11,12,58,59] a Z ?_;clear a R;refine Tz (L':=[.arr (.slice (some ⟨bz,0,none⟩) n n) 32 1 n ((gm n (s*bp B) t (wgt B.pts t p) 2).map tq)]) (by rw [df (by rw [bO];exact c 1)];rfl) ?_;refine Tv (m':=1) om_ mup (hn_ [1,3,11,12,58,59] Z) ⟨2,by decide,Z,Z,Z⟩
  refine Ti 1 Z fun R a=>?_;refine Ud U11 (fun _=>⟨by omega,by omega,(show (fU t)[((2:Nat):Int).toNat]?=some (.int .i64 ((fb t 2:Nat):Int)) from by rw [<- oA];exact jf t dc_)⟩) U2 ?_;refine C6 2 [1,3,11,12,13,14,58,59] a Z ?_;clear a R;refine TD [0,1,2,3,4,5,6,7,8,9,10,11,12,13] [] Z kr_ (fun R b a=>?_);refine Tm 4 Z ?_;refine Tj (bkT d 1) U8 ?_;refine Tk U6 ?_;refine Tq (((s*bp B:Nat):Int)) (Qa _ _) U6 ?_;refine Tk U6 ?_;refine TS (((s*bp B+fb t 2:Nat):Int)) U4 om_ om_ om_ U2 ?_;refine Tk U6 ?_;refine TE (2) U9 ah U2 ?_;refine Tj (bkT w 1) U8 ?_;refine TL ((s*bp B+fb t 2)) U10 (fun _=>⟨by omega,by omega,(QD _).symm⟩) U2 ?_;refine TP (j:=0) U11 (by rw [al,bO];have:=c 2;simp;omega) ?_;refine Tn [1,3,11,12,58,59] a Z ?_;clear a b R;refine Tl fun R a=>?_;refine Tq _ Z U6 ?_;refine C6 1 [1,3,11,12,58,59] a Z ?_;clear a R;refine Tz (L':=[.arr (.slice (some ⟨bz,0,none⟩) n n) 32 1 n ((gm n (s*bp B) t (wgt B.pts t p) 3).map tq)]) (by rw [df (by rw [bO];exact c 2)];rfl) ?_;refine Tv (m':=0) om_ mup (hn_ [1,3,11,12,58,59] Z) ⟨3,by decide,Z,Z,Z⟩
 have aj:j=3:=by
  have:=PJ h60;omega
 subst aj;refine Th 3 [6,7] Z ?_;rw [<- mA];refine G.freezeArr 0 ((gm n (s*bp B) t (wgt B.pts t p) 3).map aQ) Z Z bR (by rw [al,bO]) (fun Cf aC ak=>?_);refine Tu (G.dropAll (TM U3 ?_));exact ⟨Z,_,Z,ak⟩
theorem vH {A B:List Value}{x:Value}(h:A.length=j):aE (A++x::B) [v] j=A++v::B:=by
 subst h;unfold aE;rw [List.take_left,PD];have:List.drop (A.length+1) (A++x::B)=B:=by rw [Sd];simp
 rw [this];simp
theorem Fk (C:Mem)(G:Tabs C)(n:Nat)(l d:Value)(b:List (List Rat × Rat))(a:List Rat)(H:RowsT C l (b.map fH))(I:RowsQ n b)(J:∀ x∈a,QB 22 x)(K:∀ r∈b,(∀ x∈r.1,QB 22 x)/\QB 22 r.2)(M:n<=60)(z:a.length=n)(N:Lp.Lim (ck n b) (fun j=>a.getD j 0) 20) :
  Jog.Fn cx.P 21 [.agg ⟨[.int .i64 n,l,d]⟩] C [.arr d 32 1 n (a.map tq)] fun u _ g=>(∃ (kd:Int)(v:Rat)(i:Str)(o:Option Addr)(n1 p:Nat)(A2:Option Addr)(n2 c2:Nat)(q:Option Addr)(t w:Nat),
   u=.tuple #[.agg ⟨[.int .i64 kd,af i,.slice o n1 p,.slice A2 n2 c2,.slice q t w]⟩,.int .i64 0]/\(kd=1->i=qtx v)/\Lp.Val (ck n b) (fun j=>a.getD j 0) kd v/\QB 20 v)/\g=[.arr d 32 1 n (a.map tq)]:=by
 have h1:=UO (P:=cx.P) (f:=21) (args:=[.agg ⟨[.int .i64 n,l,d]⟩]) (C:=C) (L:=[]) (v:=d) (e:=32) (s:=1) (m:=n) (rows:=a.map aQ)
  (post:=fun u g=>g=[]/\∃ (kd:Int)(v:Rat)(i:Str)(o:Option Addr)(n1 p:Nat)(A2:Option Addr)(n2 c2:Nat)(q:Option Addr)(t w:Nat),
   u=.tuple #[.agg ⟨[.int .i64 kd,af i,.slice o n1 p,.slice A2 n2 c2,.slice q t w]⟩,.int .i64 0]/\(kd=1->i=qtx v)/\Lp.Val (ck n b) (fun j=>a.getD j 0) kd v/\QB 20 v) kr_ bR (by rw [al,z]) fun D B hs=>by
  refine Fn.mono (tO D (G.mono B) n l d b a (H.mono B) hs I J K M z N) fun u E g _ ⟨h0,r,h1,h2⟩=>⟨h0, ?_⟩;subst h1;cases h2 with
  | opt val pt du O Q F k y =>
   obtain ⟨A,c,rfl,_⟩:=id k;obtain ⟨A2,c2,rfl,_⟩:=id y;exact ⟨1,val,_,_,_,_,_,_,_,_,_,_,Z,fun _=>rfl,F.val,F.qv⟩
  | inf du Q R k =>
   obtain ⟨A,c,rfl,_⟩:=id k;exact ⟨2,0,_,_,_,_,_,_,_,_,_,_,Z,fun h=>absurd h dc_,R.val 0,QB_zero.le dc_⟩
  | unb pt ra O T S k y =>
   obtain ⟨A,c,rfl,_⟩:=id k;obtain ⟨A2,c2,rfl,_⟩:=id y;exact ⟨3,0,_,_,_,_,_,_,_,_,_,_,Z,fun h=>absurd h dc_,S.val 0,QB_zero.le dc_⟩
 rw [mA] at h1;exact Fn.mono h1 fun u E U _ ⟨g,h2,h3,h4⟩=>⟨h4,by rw [h2,h3]⟩
def nI (k:Nat):Rat:=if k=0 then 1 else -1
def qO (kd:Int)(v:Rat):Str:=if kd=1 then qtx (1*v) else []
def lQ (kd:Int)(v:Rat):Str:=if kd=1 then qtx (-1*v) else []
def sgL (c:List Rat)(k:Nat):List Rat:=c.map (nI k*·)
def Hu (p:Lp.Sys)(c:List Rat)(u:Value):Prop:=∃ (kd1:Int)(v1:Rat)(kd2:Int)(v2:Rat),Lp.Val p (fun j=>(sgL c 0).getD j 0) kd1 v1/\(kd1≠2->Lp.Val p (fun j=>(sgL c 1).getD j 0) kd2 v2) /\
 ((kd1=2/\u=.tuple #[af [],af [],.int .i64 22])∨(kd1≠2/\u=.tuple #[af (qO kd1 v1),af (lQ kd2 v2),.int .i64 0]))
theorem HQ {p:Lp.Sys}{d:Nat->Rat}{c:Int}{v w:Rat}(h:Lp.Val p cc kd v)(k:Lp.Val p d c w)(f:kd≠2):c≠2:=by
 intro e;have b:¬ p.Hold:=by
  rcases k with ⟨a,_⟩ | ⟨_,b⟩ | ⟨a,_⟩
  ·rw [a] at e;cases e
  ·exact b
  rw [a] at e;cases e
 rcases h with ⟨_,⟨y,hy,_⟩,_⟩ | ⟨a,_⟩ | ⟨_,hh,_⟩
 ·exact b ⟨y,hy⟩
 ·exact f a
 exact b hh
theorem Fa:qtx (-1)=[45,49]:=gN (z:=-1) aq
theorem sgns:[[af [49]],[af [45,49]]]=([1, -1]:List Rat).map aQ:=by
 show _=[[af (qtx 1)],[af (qtx (-1))]];rw [LU,Fa]
theorem Kp (a:k<2):([1, -1]:List Rat)[k]?=some (nI k):=by
 rcases (by omega:k=0∨k=1) with rfl | rfl <;> rfl
theorem AG (k:Nat):QB 22 (nI k):=by
 unfold nI;split
 ·decide +kernel
 decide +kernel
abbrev sO2 (A:Option Addr)(n c:Nat):Value:=.slice A n c
theorem wT (C:Mem)(H:Tabs C)(O:Value)(B:Bk)(L:List Rat)(o:Nat->List RowQ)(s:Nat)(p:Pt)(i:Nat)(r:List Nat)(t:Tri)(x0:Str)(v:BookIn C O B)(h:Calm B L o)(hs:s<bs B)(hq:QP 23 p)(hr:PtR p)
  (hl:jL B.pts B.tris p=i::r) (ht:B.tris[i]?=some t) (Q:∀ j,QB 22 (wgt B.pts t p j)) (hv:vc B.pts B.tris L p=.tuple #[af x0,.int .i64 0])
  (S:∀ k,k<2->Lp.Lim (ya B o) (fun j=>(sgL (gm (bs B*bp B) (s*bp B) t (wgt B.pts t p) 3) k).getD j 0) 20) :
  Pur cx.P 14 [O,.int .i64 s,ptV p] C fun u _=>Hu (ya B o) (gm (bs B*bp B) (s*bp B) t (wgt B.pts t p) 3) u:=by
 have aG:=v;have hG:=h.rich.good;have aH:=h.n12;have hS:=dq B.obs.length;have an:=h.rowsQ hS;have aI:=h.q22 hS;have T:=h.rich.terr;obtain ⟨b,X⟩:∃ b,gm (bs B*bp B) (s*bp B) t (wgt B.pts t p) 3=b:=⟨_,rfl⟩;have I:b.length=bs B*bp B:=by rw [<- X];exact bO _ _ _ _ _
 have Y:∀ x∈b,QB 22 x:=fun x c=>by
  rw [<- X] at c;simp only [gm] at c;rcases QM c with c | rfl
  ·rcases QM c with c | rfl
   ·rcases QM c with c | rfl
    ·rw [(List.mem_replicate.1 c).2];exact QB_zero.le dc_
    exact Q 0
   exact Q 1
  exact Q 2
 have aa:=fun (D:Mem)(z:C.le D)=>HO D (H.mono z) O B L o s p i r t (v.mono z) h hs hq hr hl ht Q;rw [X] at aa S ⊢;have ab:=fun (D:Mem)(z:C.le D)=>fN D (H.mono z) O B L o (v.mono z) h;unfold ya at S ⊢;obtain ⟨n,hn⟩:∃ n,bs B*bp B=n:=⟨_,rfl⟩;rw [hn] at I aH an ab S ⊢;obtain ⟨v1,v2,tv,cv,ov,rfl,h1,h2,h3,h4,h5⟩:=id v.ex;have hm:MeshIn C (.agg ⟨[v1,v2]⟩) B.pts B.tris:=⟨v1,v2,rfl,h1,h2⟩;rw [T.e,<- jg] at h3;have ao:=fun (D:Mem)(z:C.le D)=>tj D (H.mono z) (.agg ⟨[v1,v2]⟩) tv B.pts B.tris L 22 dc_ dc_ (hm.mono z) hG (h3.mono z) T.l T.q (Aa T) p hq hr;rw [hv] at ao;obtain ⟨A4,c4,rfl,aJ,_⟩:=id h4;have aK:(B.col.map sj).length=bs B+1:=by rw [al];have:=h.rich.scol.1;omega
 simp only [aK] at h4 aJ aG aa ab ⊢;have a0:maxLen<=9223372036854775807:=by simp [maxLen]
 refine Tr func14 110 U3 fun w0=>?_;refine Tl fun R a=>?_;refine TC U6 (fun b3=>?_);refine TC U6 (fun b5=>?_);refine C6 3 [1,3,5] a Z ?_;clear a R;refine G.freeze 1 Z (fun _ _ M=>?_);refine G.freeze 0 Z (fun _ _ aq=>?_);refine TH [(1,3)] Z (fun R a=>?_);refine Tj (bkT M 5) U8 ?_;refine D.call (ab _ mup) Z (.inr dc_) U6 (PI _) fl_ (fun a1 aL a2 _ aM=>?_);obtain ⟨Ar,cr,A,vs,rfl,ar,rfl⟩:=aM;refine Tm 3 Z ?_;refine TB U5 (fun b9=>?_);refine Ts (j:=0) U12 ?_;refine C6 1 [1,3,5,8,9] a Z ?_;clear a R;refine Th 2 [1,3,5,8,9,26] Z ?_;refine G.cd (fun au=>?_) fun au=>?_
 ·exact absurd au dc_
 refine Ti 5 Z fun R a=>?_;refine TN U6 (fun _=>PtrTo.blockT (Mem.get M mup) _ 1) U3 ?_;refine Tk U6 ?_;refine Tq _ Z U6 ?_;refine Tk U6 ?_;refine TQ U8 ?_;refine Tn [1,3,5,9,37] a Z ?_;clear a R;refine G.cd (fun av=>?_) fun av=>?_
 ·exact absurd av ap
 refine Ti 1 Z fun R a=>?_;refine Tj (bkT M 2) U8 ?_;refine Tk U6 ?_;refine Tj (bkT M 1) U8 ?_;refine Tj (bkT aq 2) U8 ?_;refine Tt (ao _ mup) U7 ?_;refine C6 5 [1,3,5,9,11] a Z ?_;clear a R;refine Th 2 [1,3,5,9,11,48] Z ?_;refine G.cd (fun aw=>?_) fun aw=>?_
 ·exact absurd aw dc_
 refine Tl fun R a=>?_;refine Tj (bkT M 5) U8 ?_;refine Tk U6 ?_;refine Tj (bkT aq 2) U8 ?_;refine TT (aa _ mup) U7 (fun a3 _ _ aN=>?_);obtain ⟨uv,rfl,ac⟩:=aN;obtain ⟨Au,cu,rfl,_⟩:=id ac;simp only [al,I] at ac ⊢;refine C6 5 [8,9,12] a Z ?_;clear a R;refine Th 2 [8,9,12,58] Z ?_;refine G.cd (fun ax=>?_) fun ax=>?_
 ·exact absurd ax dc_
 refine Tl fun R a=>?_;refine TB U5 (fun f=>?_);refine Tn [9,12,13] a Z ?_;clear a R;refine G.freezeArr 2 (aB vs (dh B o)) Z Z (bT _ _) (by rw [bI ar.1]) (fun _ _ aO=>?_);refine G.freeze 1 Z (fun aP _ ay=>?_);have aR:=nM (RowsOk.m_ ar) (aO.mono mup:Sl aP 2 _ _);refine Tl fun R a=>?_;refine Ug [[af [49]],[af [45,49]]] U12 fl_ (fun az _ _ aA=>?_);refine C6 2 [9,12,13,60,61,62] a Z ?_;clear a R;rw [sgns] at aA;refine G.perm (L':=[.arr (sO2 (some ⟨A,0,none⟩) n n) 32 1 n (List.replicate n (af [48])),.obj f (.cells ⟨[af (if 0<0 then qO 0 0 else []),af (if 1<0 then lQ 0 0 else [])]⟩ 144 (0,0))]) (pkL [1,0] Z) ?_;refine G.loop (fun fr C' g μ=>∃ (k:Nat)(xs:List Value)(d:Int)(w1:Rat)(E:Int)(F:Rat),(k<=2/\xs.length=n/\(0<k->Lp.Val (ck n (eI (dh B o))) (fun j=>(sgL b 0).getD j 0) d w1/\d≠2)/\(1<k->Lp.Val (ck n (eI (dh B o))) (fun j=>(sgL b 1).getD j 0) E F))/\fr=[(9,[],.pointer (some ⟨b9,0,none⟩)),(12,[],.slice Au n cu),(13,[],.pointer (some ⟨f,0,none⟩)),(60,[],.slice (some ⟨az,0,none⟩) 2 2),(61,[],.int .i64 2),(62,[],.int .i64 k)]/\g=[.arr (sO2 (some ⟨A,0,none⟩) n n) 32 1 n xs,.obj f (.cells ⟨[af (if 0<k then qO d w1 else []),af (if 1<k then lQ E F else [])]⟩ 144 (0,0))]/\μ=2-k) (hn_ [9,12,13,60,61,62] Z) ⟨0,List.replicate n (af [48]),0,0,0,0,⟨PL _,Qd,fun h=>absurd h om_,fun h=>absurd h om_⟩,Z,Z,Z⟩ (fun fr a4 a5 m _ hI=>?_);obtain ⟨k,xs,d,w1,E,F,⟨hk,a6,J,aS⟩,rfl,rfl,rfl⟩:=hI;refine Th 1 [9,12,13,60,61,62,63] Z ?_;refine G.cd (fun ad=>?_) fun ad=>?_
 ·have U:k<2:=by
   have:=aY ad;omega
  refine Ti 1 Z fun R a=>?_;refine Ty aA.m_ U10 om_ (by rw [PH,Kp U];rfl:(([1, -1]:List Rat).map aQ)[k]?=some (aQ (nI k))) fl_ (fun a7 aT=>?_);refine Tj aT U8 ?_;refine C6 2 [9,12,13,14,15,60,61,62] a Z ?_;clear a R;refine Th 3 [9,12,13,14,15,60,61,62,67,68,69] Z ?_;refine Tz (L':=[.arr (sO2 (some ⟨A,0,none⟩) n n) 32 1 n (((b.take 0).map fun x=>tq (nI k*x))++xs.drop 0),.obj f (.cells ⟨[af (if 0<k then qO d w1 else []),af (if 1<k then lQ E F else [])]⟩ 144 (0,0))]) am ?_;refine G.loop (fun fr C' g μ=>∃ (j:Nat),(j<=n)/\fr=[(9,[],.pointer (some ⟨b9,0,none⟩)),(12,[],.slice Au n cu),(13,[],.pointer (some ⟨f,0,none⟩)),(14,[],.int .i64 k),(15,[],af (qtx (nI k))),(60,[],.slice (some ⟨az,0,none⟩) 2 2),(61,[],.int .i64 2),(62,[],.int .i64 k),(67,[],.slice Au n cu),(68,[],.int .i64 n),(69,[],.int .i64 j)]/\g=[.arr (sO2 (some ⟨A,0,none⟩) n n) 32 1 n (((b.take j).map fun x=>tq (nI k*x))++xs.drop j),.obj f (.cells ⟨[af (if 0<k then qO d w1 else []),af (if 1<k then lQ E F else [])]⟩ 144 (0,0))]/\μ=n-j) (hn_ [9,12,13,14,15,60,61,62,67,68,69] Z) ⟨0,PL _,Z,Z,Z⟩ (fun fr a8 a9 m _ hI=>?_);obtain ⟨j,hj,rfl,rfl,rfl⟩:=hI;refine Th 1 [9,12,13,14,15,60,61,62,67,68,69,70] Z ?_;refine G.cd (fun ag=>?_) fun ag=>?_
  ·have aC:j<n:=by
    have:=aY ag;omega
   obtain ⟨x,c⟩:∃ x,b[j]?=some x:=⟨b[j]'om_,aj om_⟩;have aU:xs.drop j=xs[j]'om_::xs.drop (j+1):=P1 om_;have aD:((b.take j).map fun x=>tq (nI k*x)).length=j:=by rw [al,PS];omega
   refine Ti 1 Z fun R a=>?_;refine Ty ac.m_ U10 om_ (by rw [PH,c];rfl:(b.map aQ)[j]?=some (aQ x)) fl_ (fun ba aV=>?_);refine Tj aV U8 ?_;refine C6 2 [9,12,13,14,15,16,17,60,61,62,67,68,69] a Z ?_;clear a R;refine TD [0,1,2,3,4,5,6,7] [(5,1),(1,0)] Z kr_ (fun R v a=>?_);refine Tk U6 ?_;refine Uv (fun _=>((bkT ay 2).mono v)) U9 ?_;refine Tm 3 Z ?_;refine TG (fun _=>(di _ H.m_ (nI k) x 22 dc_ dc_ (AG k) (Y x (O0 c)))) U9 ?_;refine TL (j) U10 (fun _=>⟨by omega,by omega,(QD _).symm⟩) U2 ?_;refine TP (j:=0) U11 (by rw [PM,aD,RH];simp;omega) ?_;refine Tn [9,12,13,14,15,60,61,62,67,68,69] a Z ?_;clear a v R;refine Tl fun R a=>?_;refine Tq _ Z U6 ?_;refine C6 1 [9,12,13,14,15,60,61,62,67,68,69] a Z ?_;clear a R;refine Tz (L':=[.arr (sO2 (some ⟨A,0,none⟩) n n) 32 1 n (((b.take (j+1)).map fun x=>tq (nI k*x))++xs.drop (j+1)),.obj f (.cells ⟨[af (if 0<k then qO d w1 else []),af (if 1<k then lQ E F else [])]⟩ 144 (0,0))]) (by rw [aU,vH aD,P6,c];simp) ?_;refine Tv (m':=n-(j+1)) om_ mup (hn_ [9,12,13,14,15,60,61,62,67,68,69] Z) ⟨j+1,om_,Z,Z,Z⟩
  have aC:j=n:=by
   have:=PJ ag;omega
  subst aC;refine Tz (L':=[.arr (sO2 (some ⟨A,0,none⟩) j j) 32 1 j ((sgL b k).map tq),.obj f (.cells ⟨[af (if 0<k then qO d w1 else []),af (if 1<k then lQ E F else [])]⟩ 144 (0,0))]) (by rw [Qk om_,Rn om_,P3];unfold sgL;rw [QC];rfl) ?_;refine TH [(1,3)] Z (fun R a=>?_);refine Tj (bkT ay 3) U8 ?_;refine D.call (Fk _ H.m_ j _ _ (eI (dh B o)) (sgL b k) aR.m_ an (fun y hy=>by
   obtain ⟨x,c,rfl⟩:=PK.1 hy;unfold nI;split
   ·rw [Rat.one_mul];exact Y x c
   rw [show (-1:Rat)*x=-x by grind];exact Lp.qb_neg (Y x c)) aI om_ (by unfold sgL;rw [al];exact I) (S k U)) rfl (.inr dc_) U6 (PI _) fl_ (fun bb _ bc _ aW=>?_)
  obtain ⟨⟨kd,w,vt,A1,n1,bd,A2,n2,be,A3,n3,bf,rfl,aX,K,aE⟩,rfl⟩:=aW;refine Tm 3 Z ?_;refine TB U5 (fun bg=>?_);refine Ts (j:=0) U12 ?_;refine C6 1 [9,12,13,14,15,18,19,60,61,62] a Z ?_;clear a R;refine G.freeze 0 Z (fun aL _ V=>?_);refine Th 3 [9,12,13,14,15,18,19,60,61,62,87] Z ?_;refine G.cd (fun aF=>?_) fun aF=>?_
  ·exact absurd aF dc_
  refine Ti 1 Z fun R a=>?_;refine Tj (bkT V 1) U8 ?_;refine C6 2 [9,12,13,14,15,18,60,61,62,91] a Z ?_;clear a R;refine G.cd (fun ai=>?_) fun ai=>?_
  ·have N:kd=2:=by simpa using ai
   have aZ:k=0:=by
    rcases QH k with h | h
    ·exact h
    exact absurd N (HQ (J h).1 K (J h).2)
   subst aZ;refine Th 3 [6,7,8] Z ?_;refine Tu (G.dropAll (Uk U4 ?_));exact ⟨Z,kd,w,0,0,K,fun h=>absurd N h,.inl ⟨N,Z⟩⟩
  have N:kd≠2:=by simpa using ai
  refine Ti 1 Z fun R a=>?_;refine Tj (bkT V 1) U8 ?_;refine C6 2 [9,12,13,14,15,18,60,61,62,95] a Z ?_;clear a R;refine G.cd (fun ak=>?_) fun ak=>?_
  ·have W:kd=1:=by simpa using ak
   obtain rfl:=aX W;subst W;rcases (by omega:k=0∨k=1) with rfl | rfl
   ·refine Ti 3 Z fun R a=>?_;refine Tj (bkT V 1) U8 ?_;refine Tw (di _ H.m_ (nI 0) w 22 dc_ dc_ (AG 0) (aE.le dc_)) U7 fl_ ?_;refine TE (0) U9 ah U2 ?_;refine Ts (j:=1) U12 ?_;refine Tn [9,12,13,60,61,62] a Z ?_;clear a R;refine Tl fun R a=>?_;refine Tq _ Z U6 ?_;refine C6 1 [9,12,13,60,61,62] a Z ?_;clear a R;refine G.perm (L':=[.arr (sO2 (some ⟨A,0,none⟩) j j) 32 1 j ((sgL b 0).map tq),.obj f (.cells ⟨[af (if 0<1 then qO 1 w else []),af (if 1<1 then lQ 0 0 else [])]⟩ 144 (0,0))]) (pkL [1,0] Z) ?_;refine Tv (m':=1) om_ mup (hn_ [9,12,13,60,61,62] Z) ⟨1,(sgL b 0).map tq,1,w,0,0,⟨by decide,by unfold sgL;simp [I],fun _=>⟨K,by decide⟩,fun h=>absurd h dc_⟩,Z,Z,Z⟩
   refine Ti 3 Z fun R a=>?_;refine Tj (bkT V 1) U8 ?_;refine Tw (di _ H.m_ (nI 1) w 22 dc_ dc_ (AG 1) (aE.le dc_)) U7 fl_ ?_;refine TE (1) U9 ah U2 ?_;refine Ts (j:=1) U12 ?_;refine Tn [9,12,13,60,61,62] a Z ?_;clear a R;refine Tl fun R a=>?_;refine Tq _ Z U6 ?_;refine C6 1 [9,12,13,60,61,62] a Z ?_;clear a R;refine G.perm (L':=[.arr (sO2 (some ⟨A,0,none⟩) j j) 32 1 j ((sgL b 1).map tq),.obj f (.cells ⟨[af (if 0<2 then qO d w1 else []),af (if 1<2 then lQ 1 w else [])]⟩ 144 (0,0))]) (pkL [1,0] Z) ?_;refine Tv (m':=0) om_ mup (hn_ [9,12,13,60,61,62] Z) ⟨2,(sgL b 1).map tq,d,w1,1,w,⟨by decide,by unfold sgL;simp [I],fun _=>J dc_,fun _=>K⟩,Z,Z,Z⟩
  have W:kd≠1:=by simpa using ak
  refine Tl fun R a=>?_;refine Tq _ Z U6 ?_;refine C6 1 [9,12,13,60,61,62] a Z ?_;clear a R;refine Tz (L':=[.arr (sO2 (some ⟨A,0,none⟩) j j) 32 1 j ((sgL b k).map tq),.obj f (.cells ⟨[af (if 0<k+1 then qO (if k=0 then kd else d) (if k=0 then w else w1) else []),af (if 1<k+1 then lQ (if k=0 then 0 else kd) (if k=0 then 0 else w) else [])]⟩ 144 (0,0))]) (by rcases (by omega:k=0∨k=1) with rfl | rfl <;> simp [qO,lQ,W]) ?_;refine Tv (m':=2-(k+1)) om_ mup (hn_ [9,12,13,60,61,62] Z) ⟨k+1,(sgL b k).map tq,if k=0 then kd else d,if k=0 then w else w1,if k=0 then 0 else kd,if k=0 then 0 else w,⟨by omega,by unfold sgL;simp [I],fun _=>by
   rcases (by omega:k=0∨k=1) with rfl | rfl
   ·exact ⟨K,N⟩
   ·exact J dc_,fun h=>by
   obtain rfl:k=1:=by omega
   exact K⟩,Z,Z,Z⟩
 have U:k=2:=by
  have:=PJ ad;omega
 subst U;refine TD [0,1,2,3,4,5,6] [] Z kr_ (fun R v a=>?_);refine TE (0) U9 ah U2 ?_;refine To ae U9 ?_;refine TE (1) U9 ah U2 ?_;refine To ae U9 ?_;refine Tm 3 Z ?_;refine Tn [6,7,8] a Z ?_;clear a v R;refine Tu (G.dropAll (Uk U4 ?_));exact ⟨Z,d,w1,E,F,(J dc_).1,fun _=>aS dc_,.inr ⟨(J dc_).2,Z⟩⟩
end Go.Proofs.YtfjcldheldflbaaGreatDoor
