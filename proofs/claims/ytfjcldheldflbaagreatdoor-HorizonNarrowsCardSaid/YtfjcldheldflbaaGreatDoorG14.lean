/- Laws that the proofs of this seat share, part 14. -/
import Derived.Test.YtfjcldheldflbaaGreatDoorG13
import Derived.Test.YtfjcldheldflbaaGreatDoorShelf
set_option maxHeartbeats 4000000
namespace Go.Proofs.YtfjcldheldflbaaGreatDoor
open Go.Proofs.Tryz
open Go Go.Jog
set_option maxRecDepth 100000
variable {cc:Nat->Rat}{e:Nat × Nat}{es:List (Nat × Nat)}{h i j k:Nat}{kd:Int}{ks:List fy}{l:List Nat}{m more n p:Nat}{pt:Nat->Rat}{r:RowQ}{rows:List RowQ}{s:Nat}{sg:Rat}{tris:List Tri}{u v:Value}{vs:List Value}{w:Value}{x:Rat}{y:Nat->Rat}
theorem SolO.mono {p:Lp.Sys}{d:Nat->Rat}{D E:Mem}{u:Value}(h:SolO p d D u)(a:D.le E):SolO p d E u:=by
 cases h with
|opt val pt du b c e h1 h2=>exact .opt val pt du b c e (h1.mono a) (h2.mono a)
|inf du c f h1=>exact .inf du c f (h1.mono a)
|unb pt ra b g i h1 h2=>exact .unb pt ra b g i (h1.mono a) (h2.mono a)
theorem SolO.m_ {p:Lp.Sys}{D E:Mem}(h:SolO p cc D u)(a:D.le E:=by exact mup):SolO p cc E u:=SolO.mono h a
theorem wt {p:Lp.Sys}{D:Mem}(h:SolO p cc D u):∃ (kd:Int)(val:Str)(e g i:Value)(a b c:List Rat),u=.agg ⟨[.int .i64 kd,af val,e,g,i]⟩/\Sl D 1 e (a.map aQ)/\Sl D 1 g (b.map aQ)/\Sl D 1 i (c.map aQ) /\
  (∀ x∈a,QB 20 x)/\(∀ x∈b,QB 20 x)/\(∀ x∈c,QB 20 x)/\a.length<=p.n/\b.length<=p.m/\c.length<=p.n/\(kd=1->∃ q,val=qtx q/\QB 20 q):=by
 have hr:∀ (n:Nat)(f:Nat->Rat),(∀ j,QB 20 (f j))->∀ x∈(List.range n).map f,QB 20 x:=fun n f o x d=>by
  obtain⟨j,_,rfl⟩:=QE.1 d;exact o j
 cases h with
|opt val pt du e g k h1 h2=>exact⟨1,qtx val,e,g,.slice none 0 0,_,_,[],rfl,h1,h2,Sl.nil _ _,hr _ _ k.qp,hr _ _ k.qd,fun x d=>(by cases d),by simp,by simp,QH _,fun _=>⟨val,rfl,k.qv⟩⟩
|inf du g r h1=>exact⟨2,[],.slice none 0 0,g,.slice none 0 0,[],_,[],rfl,Sl.nil _ _,h1,Sl.nil _ _,fun x d=>(by cases d),hr _ _ r.qd,fun x d=>(by cases d),QH _,by simp,QH _,fun h=>absurd h dc_⟩
|unb pt ra e i l h1 h2=>exact⟨3,[],e,.slice none 0 0,i,_,[],_,rfl,h1,Sl.nil _ _,h2,hr _ _ l.qp,fun x d=>(by cases d),hr _ _ l.qr,by simp,QH _,by simp,fun h=>absurd h dc_⟩
theorem tA {l:List Rat}(h:∀ x∈l,QB 22 x):(l.map qtx).all aW=true:=QX.2 fun s hs=>by
 obtain⟨x,a,rfl⟩:=QE.1 hs;exact bi (h x a)
theorem pn {n:Nat}:∀ {rs:List (List Rat × Rat)},(∀ r∈rs,r.1.length=n)->(∀ r∈rs,(∀ x∈r.1,QB 22 x)/\QB 22 r.2)->ud n (rs.map fW)=0
|[],_,_=>rfl
|r::rs,b,a=>by
  have e:ud n ((r::rs).map fW)=if FK n (fW r)≠0 then FK n (fW r) else ud n (rs.map fW):=rfl;have h0:FK n (fW r)=0:=FJ.2 ⟨sD.2 ⟨by show((r.1.map qtx).length:Int)=n;rw[ar,b r QC],tA (a r QC).1⟩,bi (a r QC).2⟩;rw[e,aF fun h=>h h0];exact pn (fun r hr=>b r (QL _ hr)) fun r hr=>a r (QL _ hr)
theorem tr {a:List (List Rat × Rat)}{b:List Rat}(g:n<=60)(i:a.length<=300)(c:∀ r∈a,r.1.length=n)(d:∀ r∈a,(∀ x∈r.1,QB 22 x)/\QB 22 r.2)(e:b.length=n)(f:∀ x∈b,QB 22 x):Iy n (a.map fW) (b.map qtx)=0:=by
 unfold Iy;rw[aF om_,aF (by rw[ar];omega),aF fun h=>h (sD.2 ⟨by rw[ar,e],tA f⟩)];exact pn c d
theorem F7 (C:Mem)(o:Tabs C)(n:Nat)(g i:Value)(d:List (List Rat × Rat))(f:List Rat)(k:RowsT C g (d.map fW))(v:Sl C 1 i (f.map aQ))(p:RowsQ n d)(w:∀ x∈f,QB 22 x)(y:∀ r∈d,(∀ x∈r.1,QB 22 x)/\QB 22 r.2)(L:n<=60)(z:f.length=n)(M:Lp.Lim (ci n d) (fun j=>f.getD j 0) 20) :
  Pur cx.P 21 [.agg ⟨[.int .i64 n,g,i]⟩] C fun u D=>∃ r,u=.tuple #[r,.int .i64 0]/\SolO (ci n d) (fun j=>f.getD j 0) D r:=by
 have Y:maxLen<=9223372036854775807:=by simp[maxLen]
 have hm:=p.m;have N:Iy n (d.map fW) (f.map qtx)=0:=tr L om_ p.l y z w;have O:∀ D:Mem,C.le D->Gives cx.P 73 [.agg ⟨[.int .i64 n,g,i]⟩] D (.int .i64 0):=fun D q=>by
  have h:=xf D (o.mono q) n g i (d.map fW) (f.map qtx) (k.mono q) (by rw[<- xV];exact v.mono q) (fun r k=>by
   obtain⟨r,Q,rfl⟩:=QE.1 k;obtain⟨h1,h2⟩:=y r Q;refine⟨fun s hs=>?_,QW (bg h2 dc_) dc_⟩;obtain⟨x,t,rfl⟩:=QE.1 hs;exact QW (bg (h1 x t) dc_) dc_) (fun s hs=>by
   obtain⟨x,t,rfl⟩:=QE.1 hs;exact QW (bg (w x t) dc_) dc_)
  rw[N]at h;exact h
 refine Ur func21 19 U3 fun w0=>Ul fun R e=>UC U6 fun b1=>UB U5 fun b2=>C6 1 [1,2] e Z<|G.freeze 1 Z fun _ _ A=>Ul fun R e=>Uj (bkT A 3) U8<|Ut (O _ mup) U7<|C6 1 [1,2,4] e Z<|Uh 2 [1,2,4,9] Z<|G.cd (fun B=>?_) fun B=>?_
 ·exact absurd B dc_
 refine Ul fun R e=>Uj (bkT A 3) U8<|UK (Bp _ o.m_ n g i d f k.m_ v.m_ p om_ z M) U7 fl_ (fun aa _ _ E=>?_);obtain⟨kd,val,vp,vd,vr,a,b,c,rfl,F,H,I,S,qb,T,U,V,W,X⟩:=wt E;obtain⟨Ap,cp,rfl,_⟩:=id F;obtain⟨Ad,cd,rfl,_⟩:=id H;obtain⟨Ar,cr,rfl,_⟩:=id I;refine UB U5 fun b5=>Us (j:=0) U12<|Un [2,5] e Z<|G.freeze 0 Z fun _ _ J=>Ul fun R e=>Uj (bkT J 5) U8<|Uu (Bv _ o.m_ kd val _ _ _ a b c F.m_ H.m_ I.m_ S qb T (QW U (by show n<=_;omega)) (QW V (by show d.length<=_;omega)) (QW W (by show n<=_;omega)) X) U7 fl_<|C6 1 [2,5,16] e Z<|G.cd (fun K=>?_) fun K=>?_
 ·exact absurd K dc_
 refine Ul fun R e=>Uj (bkT J 5) U8<|Us (j:=0) U12<|C6 1 [2,3] e Z<|Uv (Vy ag U5 ?_);exact⟨Z,_,Z,E.mono mup⟩
inductive FeaO (p:Lp.Sys) (D:Mem):Value->Prop where
|yes (pt:Nat->Rat) (vp:Value):p.At pt->Lp.CmD p.n 20 pt->(∀ j,QB 20 (pt j))->Sl D 1 vp (((List.range p.n).map pt).map aQ)->FeaO p D (.tuple #[vp,.agg ⟨[.slice none 0 0]⟩,.bool true,.int .i64 0])
|no (du:Nat->Rat) (vd:Value):Lp.InfR p 20 du->Sl D 1 vd (((List.range p.m).map du).map aQ)->FeaO p D (.tuple #[.slice none 0 0,.agg ⟨[vd]⟩,.bool false,.int .i64 0])
theorem IY {p:Lp.Sys}{D:Mem}{f a b e:Value}(h:SolO p cc D (.agg ⟨[.int .i64 kd,f,a,b,e]⟩)) :
  (kd=2/\∃ du,Lp.InfR p 20 du/\Sl D 1 b (((List.range p.m).map du).map aQ))∨(kd≠2/\∃ pt,p.At pt/\Lp.CmD p.n 20 pt/\(∀ j,QB 20 (pt j))/\Sl D 1 a (((List.range p.n).map pt).map aQ)):=by
 cases h with
|opt w pt du a b c h1 h2=>exact .inr ⟨by decide,pt,c.row,c.cd,c.qp,h1⟩
|inf du b g h1=>exact .inl ⟨rfl,du,g,h1⟩
|unb pt ra a e d h1 h2=>exact .inr ⟨by decide,pt,d.row,d.cd,d.qp,h1⟩
theorem lL (n:Nat):List.replicate n (af [48])=((List.replicate n (0:Rat)).map aQ).flatten:=by
 rw[Ta,Qq];induction n with
|zero=>rfl
|succ n a=>rw[RP,RP,RU,a];rfl
theorem FM (n j:Nat):(List.replicate n (0:Rat)).getD j 0=0:=by
 rw[am,RZ];split <;> rfl
theorem JF (C:Mem)(t:Tabs C)(n:Nat)(g k:Value)(f:List (List Rat × Rat))(i:List Rat)(o:RowsT C g (f.map fW))(v:Sl C 1 k (i.map aQ))(w:RowsQ n f)(A:∀ x∈i,QB 22 x)(B:∀ r∈f,(∀ x∈r.1,QB 22 x)/\QB 22 r.2)(N:n<=60)(O:i.length=n)(Q:Lp.Lim (ci n f) (fun _=>0) 20) :
  Pur cx.P 43 [.agg ⟨[.int .i64 n,g,k]⟩] C fun u D=>FeaO (ci n f) D u:=by
 have ah:maxLen<=9223372036854775807:=by simp[maxLen]
 have hm:=w.m;have S:Iy n (f.map fW) (i.map qtx)=0:=tr N om_ w.l B O A;have T:∀ D:Mem,C.le D->Gives cx.P 73 [.agg ⟨[.int .i64 n,g,k]⟩] D (.int .i64 0):=fun D y=>by
  have h:=xf D (t.mono y) n g k (f.map fW) (i.map qtx) (o.mono y) (by rw[<- xV];exact v.mono y) (fun r o=>by
   obtain⟨r,U,rfl⟩:=QE.1 o;obtain⟨h1,h2⟩:=B r U;refine⟨fun s hs=>?_,QW (bg h2 dc_) dc_⟩;obtain⟨x,z,rfl⟩:=QE.1 hs;exact QW (bg (h1 x z) dc_) dc_) (fun s hs=>by
   obtain⟨x,z,rfl⟩:=QE.1 hs;exact QW (bg (A x z) dc_) dc_)
  rw[S]at h;exact h
 have V:Lp.Lim (ci n f) (fun j=>(List.replicate n (0:Rat)).getD j 0) 20:=by
  have e:(fun j=>(List.replicate n (0:Rat)).getD j 0)=fun _=>(0:Rat):=funext (FM n);rw[e];exact Q
 refine Ur func43 32 U3 fun w0=>Ul fun R d=>UC U6 fun b1=>Uk U6<|UB U5 fun b3=>C6 2 [1,3] d Z<|Ul fun R d=>Uo ae U9<|Ut (T _ mup) U7<|C6 1 [1,3,6] d Z<|Uh 2 [1,3,6,11] Z<|G.cd (fun E=>?_) fun E=>?_
 ·exact absurd E dc_
 refine UI [(2,3)] Z fun R d=>Uk U6<|Uo ae U9<|D.call (jb _ n om_) Z (.inr dc_) U6 (QI _) fl_ (fun ai _ aj _ W=>?_);obtain⟨bz,rfl,rfl⟩:=W;rw[lL];refine Uk U6<|Us (j:=2) U12<|Un [1,3] d Z<|G.freezeArr 1 ((List.replicate n (0:Rat)).map aQ) Z Z bU al fun _ _ X=>G.freeze 0 Z fun _ _ Y=>Ul fun R d=>Uj (bkT Y 3) U8<|UK (Bp _ t.m_ n g _ f (List.replicate n 0) o.m_ X.m_ w om_ al V) U7 fl_ (fun ak _ _ F=>?_);obtain⟨kd,val,vp,vd,vr,a,b,c,rfl,H,I,J,qa,qb,qc,aa,ab,ac,hv⟩:=wt F;have K:=IY F;obtain⟨Ap,cp,rfl,_⟩:=id H;obtain⟨Ad,cd,rfl,_⟩:=id I;obtain⟨Ar,cr,rfl,_⟩:=id J;refine UB U5 fun b7=>Us (j:=0) U12<|Un [3,7] d Z<|G.freeze 0 Z fun _ _ p=>Ul fun R d=>Uj (bkT p 5) U8<|Uu (Bv _ t.m_ kd val _ _ _ a b c H.m_ I.m_ J.m_ qa qb qc (QW aa (by show n<=_;omega)) (QW ab (by show f.length<=_;omega)) (QW ac (by show n<=_;omega)) hv) U7 fl_<|C6 1 [3,7,22] d Z<|G.cd (fun L=>?_) fun L=>?_
 ·exact absurd L dc_
 refine Ui 1 Z fun R d=>Uj (bkT p 1) U8<|C6 1 [3,7,26] d Z<|G.cd (fun q=>?_) fun q=>?_
 ·refine UD [0,1,2,3,4,5] [(1,0)] Z kr_ fun R M d=>Uk U6<|Vr (fun _=>((bkT p 1).mono M)) U9<|Uk U6<|Us (j:=0) U12<|Um 2 Z<|Un [2,3,4,5] d Z ?_;clear d M R;refine Uv (VP ag U7 ?_);refine⟨Z, ?_⟩;rcases K with⟨_,du,hi,h1⟩|⟨h,_⟩
  ·exact .no du _ hi h1.m_
  exact absurd (by simpa using q) h
 refine Ui 1 Z fun R d=>Uj (bkT p 1) U8<|UA ([.slice none 0 0]) U8<|Uk U6<|Us (j:=0) U12<|C6 2 [2,3,4,5] d Z<|Uv (VP ag U7 ?_);refine⟨Z, ?_⟩;rcases K with⟨h,_⟩|⟨_,pt,v,ad,af,h1⟩
 ·rw[h]at q;cases q
 exact .yes pt _ v ad af h1.m_
def prC (vs:List Value)(l:List SrcQ):List (List Value):=aC vs (l.map SrcQ.r)
theorem JB {l:List SrcQ}{s:SrcQ}(a:vs.length=l.length)(c:vs[i]?=some w)(d:l[i]?=some s):prC (vs.take (i+1)) (l.take (i+1))=prC (vs.take i) (l.take i)++[[w,af (qtx s.r.b)]]:=by
 unfold prC;rw[Q4,Q4,c,d,Rh];exact eJ (by simp[a]) w s.r
theorem OJ {l:List SrcQ}{s:SrcQ}(a:vs[i]?=some w)(c:l[i]?=some s):(ck vs l)[i]?=some [.int .i64 s.n,w,af (qtx s.r.b)]:=by
 unfold ck;rw[List.getElem?_zipWith,a,c]
theorem ue {C:Mem}(h:RowsOk C vs rows)(b:Sl C 2 v (aC vs rows)):RowsT C v ((eO rows).map fW):=by
 refine⟨vs,by rw[h.1];simp[eO],fun i w r c hr=>?_, ?_⟩
 ·rw[eO,RC,QD]at hr;cases a:rows[i]? with
 |none=>rw[a]at hr;cases hr
 |some x =>
   rw[a]at hr;cases hr
   have:=h.2 i w x c a;show Sl C 1 w ((x.f.map qtx).map zI);rw[<- xV];exact this
 have e:List.zipWith (fun w (r:List Str × Str)=>[w,af r.2]) vs ((eO rows).map fW)=aC vs rows:=by
  unfold eO aC;rw[RC,List.zipWith_map_right];rfl
 rw[e];exact b
structure Calm (B:Bk)(fs:List Rat)(RO:Nat->List RowQ):Prop where
 rich:Rich B fs RO
 n12:bs B*bp B<=12
 thI:∀ r∈bI B,RowI r
 roI:∀ i,i<B.obs.length->∀ r∈RO i,RowI r
 th:(bI B).length<=24
 ro:∀ i,i<B.obs.length->(RO i).length<=8
 ob:B.obs.length<=12
structure SetIn (n:Nat)(l:List Nat):Prop where
 lt:∀ i∈l,i<n
 nd:l.Nodup
def pq (B:Bk)(RO:Nat->List RowQ)(l:List Nat):List RowQ:=(bS (bI B) RO l).map SrcQ.r
theorem gU {B:Bk}{a:Nat->List RowQ}:pq B a l=bI B++l.flatMap a:=by
 unfold pq bS kH;rw[Rh,RC,List.map_flatMap];congr 1
 ·exact List.map_id _
 congr 1;funext i;rw[RC];exact List.map_id _
theorem SetIn.len (h:SetIn n l):l.length<=n:=by
 have:=List.Nodup.length_le_of_subset (l₂:=List.range n) h.nd fun v a=>QU.2 (h.lt v a)
 rwa [RV]at this
section
variable {B:Bk} {fs:List Rat} {RO:Nat->List RowQ} {l:List Nat}
theorem Ki {c:Nat}{f:Nat->List RowQ}:∀ {l:List Nat},(∀ i∈l,(f i).length<=c)->(l.flatMap f).length<=c*l.length
|[],_=>QH _
|i::l,h=>by
  rw[List.flatMap_cons,QG,QT,Nat.mul_succ];have h1:=h i QC;have h2:=Ki (l:=l) fun j a=>h j (QL _ a);omega
theorem Calm.cnt (h:Calm B fs RO)(a:SetIn B.obs.length l):(pq B RO l).length<=120:=by
 rw[gU,QG];have h1:=Ki (c:=8) (f:=RO) fun i b=>h.ro i (a.lt i b);have h2:=a.len;have h3:=h.ob;have h4:=h.th;omega
theorem Calm.rowI (h:Calm B fs RO)(a:SetIn B.obs.length l):∀ r∈pq B RO l,RowI r:=by
 intro r hr;rw[gU]at hr;rcases QS.1 hr with hr|hr
 ·exact h.thI r hr
 obtain⟨i,b,hr⟩:=List.mem_flatMap.1 hr;exact h.roI i (a.lt i b) r hr
theorem wj {s p:Nat}{a:List Lay}:∀ n,∀ r∈bh s p a n,r.f.length=s*p
|0,r,hr=>by cases hr
|n+1,r,hr=>by
  rcases QS.1 hr with hr|hr
  ·exact wj n r hr
  have:∀ k,∀ r∈bA s p (a.getD (n+1) ⟨[],0,none⟩) (n+1) k,r.f.length=s*p:=by
   intro k;induction k with
  |zero=>intro r hr;cases hr
  |succ k b =>
    intro r hr;rcases QS.1 hr with hr|hr
    ·exact b r hr
    unfold kv at hr;rcases QQ.1 hr with rfl|hr
    ·exact jM _ _
    split at hr
    ·cases hr
    rw[QY.1 hr];exact jM _ _
  exact this p r hr
theorem OC {D:Int}{q:Rat}(h:Wl D q)(a:D≠0)(b:D.natAbs<=999999999):QB 1 q:=by
 obtain⟨z,h1,h2⟩:=h;exact pC a h1 om_ om_
theorem RowI.q {r:RowQ}(h:RowI r):(∀ x∈r.f,QB 1 x)/\QB 1 r.b:=by
 obtain⟨D,h0,a,h1,h2⟩:=h;exact⟨fun x c=>OC (h1 x c) h0 a,OC h2 h0 a⟩
theorem om {a:List RowQ}{P:List Rat × Rat->Prop}(h:∀ r∈a,P (r.f,r.b)):∀ x∈eO a,P x:=fun x c=>by
 obtain⟨r,hr,rfl⟩:=QE.1 c;exact h r hr
theorem Calm.q22 (h:Calm B fs RO)(a:SetIn B.obs.length l):∀ r∈eO (pq B RO l),(∀ x∈r.1,QB 22 x)/\QB 22 r.2 :=
 om (P:=fun r=>(∀ x∈r.1,QB 22 x)/\QB 22 r.2) fun r hr=>⟨fun x b=>((h.rowI a r hr).q.1 x b).le dc_,(h.rowI a r hr).q.2.le dc_⟩
theorem Calm.rowsQ (h:Calm B fs RO)(a:SetIn B.obs.length l):RowsQ (bs B*bp B) (eO (pq B RO l)):=by
 refine⟨om (P:=fun r=>r.1.length=bs B*bp B) fun r hr=>?_,fun r hr=>⟨fun x b=>((h.q22 a r hr).1 x b).le dc_,(h.q22 a r hr).2.le dc_⟩, ?_⟩
 ·rw[gU]at hr;rcases QS.1 hr with hr|hr
  ·exact wj _ r hr
  obtain⟨i,c,hr⟩:=List.mem_flatMap.1 hr;exact(pp h.rich (a.lt i c)).2 r hr
 have:=h.cnt a;rw[eO,ar];omega
theorem Calm.lim (h:Calm B fs RO)(a:SetIn B.obs.length l):Lp.Lim (ci (bs B*bp B) (eO (pq B RO l))) (fun _=>0) 20:=J0 h.n12 (h.rowI a)
end
def dP (B:Bk)(RO:Nat->List RowQ):List RowQ:=pq B RO (List.range B.obs.length)
theorem dD (n:Nat):SetIn n (List.range n):=⟨fun _a h=>QU.1 h,List.nodup_range⟩
theorem uU {l:List Rat}(a:i<l.length):(l.set i x).getD j 0=if j=i then x else l.getD j 0:=by
 rw[am,List.getElem?_set,am];by_cases h:i=j
 ·subst h;rw[aJ rfl,aJ a,aJ rfl];rfl
 rw[aF h,aF fun e=>h e.symm]
theorem qA (n j:Nat):(List.replicate n (0:Rat)).getD j 0=0:=FM n j
def rgF (n h p m k:Nat)(e:Nat × Nat)(sg:Rat):List Rat:=(((List.replicate n (0:Rat)).set (k / m*p+e.1) sg).set (k / m*p+e.2) (-sg)).set (h+k) (-1)
def edg (es:List (Nat × Nat))(k:Nat):Nat × Nat:=es.getD (k % es.length) (0,0)
def rgK (n h p:Nat)(es:List (Nat × Nat))(k:Nat):List RowQ:=[⟨rgF n h p es.length k (edg es k) 1,0⟩,⟨rgF n h p es.length k (edg es k) (-1),0⟩]
def rgL (n h p:Nat)(es:List (Nat × Nat))(t:Nat):List RowQ:=(List.range t).flatMap (rgK n h p es)
def fq (more:Nat)(r:RowQ):RowQ:=⟨r.f++List.replicate more 0,r.b⟩
def yY (rows:List RowQ)(h p:Nat)(es:List (Nat × Nat))(more:Nat):List RowQ:=rows.map (fq more)++rgL (h+more) h p es more
def mZ (h more:Nat):List Rat:=List.replicate h 0++List.replicate more 1
theorem zc (n h p m k:Nat)(e:Nat × Nat)(a:Rat):(rgF n h p m k e a).length=n:=by unfold rgF;simp
theorem BC (n h p:Nat)(a:List (Nat × Nat))(t:Nat):rgL n h p a (t+1)=rgL n h p a t++rgK n h p a t:=by
 unfold rgL;rw[RW,List.flatMap_append,List.flatMap_cons,List.flatMap_nil,Q2]
theorem yZ (n h p:Nat)(a:List (Nat × Nat)):∀ t,(rgL n h p a t).length=2*t
|0=>rfl
|t+1=>by rw[BC,QG,yZ n h p a t];rfl
theorem Jl (a:List RowQ)(h p:Nat)(c:List (Nat × Nat))(b:Nat):(yY a h p c b).length=a.length+2*b:=by
 unfold yY;rw[QG,ar,yZ]
theorem BB (h a:Nat):(mZ h a).length=h+a:=by unfold mZ;simp
structure EdgeOk (s p:Nat)(es:List (Nat × Nat)):Prop where
 lt:∀ e∈es,e.1<e.2/\e.2<p
theorem Hs (a:k<s*es.length):edg es k∈es/\k / es.length<s:=by
 have h0:0<es.length:=by
  rcases RM es.length with h|h
  ·rw[h]at a;omega
  exact h
 refine⟨?_,(Sy h0).2 a⟩;unfold edg;have hm:=Rj k h0;rw[am,aj hm];exact Rv hm
theorem Ca {a:Nat}(b:a<s)(c:i<p):a*p+i<s*p:=by
 have:(a+1)*p<=s*p:=Rq _ b;rw[Nat.succ_mul]at this;omega
theorem LL (h:EdgeOk s p es)(a:k<s*es.length):k / es.length*p+(edg es k).1<s*p/\k / es.length*p+(edg es k).2<s*p/\(edg es k).1≠(edg es k).2:=by
 obtain⟨h1,h2⟩:=Hs a;obtain⟨h3,h4⟩:=h.lt _ h1;exact⟨Ca h2 om_,Ca h2 h4,by omega⟩
theorem MN (a:k / m*p+e.1<h)(b:k / m*p+e.2<h)(c:h+k<n)(j:Nat):(rgF n h p m k e sg).getD j 0=if j=h+k then -1 else if j=k / m*p+e.2 then -sg else if j=k / m*p+e.1 then sg else 0:=by
 unfold rgF;rw[uU ap,uU ap,uU ap,qA]
theorem zf (a:i<n):Lp.sumN (fun j=>(if j=i then x else 0)*y j) n=x*y i:=by
 rw[Lp.sumN_at a,Lp.sumN_zero fun j _=>?_]
 ·rw[aJ rfl];grind
 by_cases h:j=i
 ·rw[aJ h]
 rw[aF h,aF h];grind
theorem MM (a:k / m*p+e.1<h)(b:k / m*p+e.2<h)(d:e.1≠e.2)(c:h+k<n) :
  Lp.sumN (fun j=>(rgF n h p m k e sg).getD j 0*y j) n=sg*y (k / m*p+e.1)+(-sg*y (k / m*p+e.2) + -1*y (h+k)):=by
 rw[<- zf (i:=k / m*p+e.1) (n:=n) (x:=sg) om_,<- zf (i:=k / m*p+e.2) (n:=n) (x:=-sg) om_,<- zf (i:=h+k) (n:=n) (x:=-1) om_,<- Lp.sumN_add,<- Lp.sumN_add];refine Lp.sumN_congr fun j _=>?_;rw[MN a b c];by_cases h1:j=h+k
 ·rw[aJ h1,aF om_,aF om_,aJ h1];grind
 by_cases h2:j=k / m*p+e.2
 ·rw[aF h1,aJ h2,aF om_,aJ h2,aF h1];grind
 by_cases h3:j=k / m*p+e.1
 ·rw[aF h1,aF h2,aJ h3,aF h2,aF h1];grind
 rw[aF h1,aF h2,aF h3,aF h2,aF h1];grind
theorem gQ :(ci n (eO rows)).At y ↔ ∀ r∈rows,Lp.sumN (fun j=>r.f.getD j 0*y j) n<=r.b:=by
 have hm:(ci n (eO rows)).m=rows.length:=ar _;constructor
 ·intro h r hr;obtain⟨i,c,rfl⟩:=List.mem_iff_getElem.1 hr;have h1:=h i (by rw[hm];exact c);have d:(ci n (eO rows)).a i=fun j=>rows[i].f.getD j 0:=by show(fun j=>((eO rows).getD i ([],0)).1.getD j 0)=_;rw[mY c]
  have e:(ci n (eO rows)).b i=rows[i].b:=by show((eO rows).getD i ([],0)).2=_;rw[mY c]
  rw[d,e]at h1;exact h1
 intro h i c;rw[hm]at c;have h1:=h rows[i] (Rv c);have d:(ci n (eO rows)).a i=fun j=>rows[i].f.getD j 0:=by show(fun j=>((eO rows).getD i ([],0)).1.getD j 0)=_;rw[mY c]
 have e:(ci n (eO rows)).b i=rows[i].b:=by show((eO rows).getD i ([],0)).2=_;rw[mY c]
 rw[d,e];exact h1
theorem AN (a:r.f.length=h):Lp.sumN (fun j=>(fq more r).f.getD j 0*y j) (h+more)=Lp.sumN (fun j=>r.f.getD j 0*y j) h:=by
 rw[Lp.sumN_split,Lp.sumN_zero (n:=more) fun j _=>?_]
 ·rw[show Lp.sumN (fun j=>(fq more r).f.getD j 0*y j) h=Lp.sumN (fun j=>r.f.getD j 0*y j) h from Lp.sumN_congr fun j b=>?_]
  ·grind
  show(r.f++List.replicate more 0).getD j 0*y j=_;rw[am,Rr om_,<- am]
 show(r.f++List.replicate more 0).getD (h+j) 0*y (h+j)=0;rw[am,Q3 om_,<- am,qA];grind
theorem Gs :Lp.sumN (fun j=>(mZ h more).getD j 0*y j) (h+more)=Lp.sumN (fun k=>y (h+k)) more:=by
 rw[Lp.sumN_split,Lp.sumN_zero (n:=h) fun j a=>?_]
 ·rw[show Lp.sumN (fun r=>(mZ h more).getD (h+r) 0*y (h+r)) more=Lp.sumN (fun k=>y (h+k)) more from Lp.sumN_congr fun j a=>?_]
  ·grind
  unfold mZ;rw[am,Q3 al,RZ,aJ ap];show 1*_=_;grind
 unfold mZ;rw[am,Rr ap,<- am,qA];grind
def abR (x:Rat):Rat:=if x<0 then -x else x
theorem yy {y:Rat}:abR x<=y ↔ x<=y/\-x<=y:=by
 unfold abR;split <;> grind
theorem N6 (x:Rat):0<=abR x:=by
 unfold abR;split <;> grind
def Oj (p:Nat)(es:List (Nat × Nat))(y:Nat->Rat)(k:Nat):Rat:=y (k / es.length*p+(edg es k).1)-y (k / es.length*p+(edg es k).2)
section
variable {rows:List RowQ} {s p:Nat} {es:List (Nat × Nat)} {y:Nat->Rat}
theorem Lh (e:EdgeOk s p es)(d:∀ r∈rows,r.f.length=s*p):(ci (s*p+s*es.length) (eO (yY rows (s*p) p es (s*es.length)))).At y ↔ (ci (s*p) (eO rows)).At y/\∀ k,k<s*es.length->abR (Oj p es y k)<=y (s*p+k):=by
 rw[gQ,gQ];have c:∀ k,k<s*es.length->∀ sg,Lp.sumN (fun j=>(rgF (s*p+s*es.length) (s*p) p es.length k (edg es k) sg).getD j 0*y j) (s*p+s*es.length)=sg*Oj p es y k-y (s*p+k):=fun k a sg=>by
  obtain⟨h1,h2,h3⟩:=LL e a;rw[MM h1 h2 h3 om_];unfold Oj;grind
 constructor
 ·intro h;refine⟨fun r hr=>?_,fun k a=>?_⟩
  ·have:=h (fq _ r) (Sb _ (SN hr));rw[AN (d r hr)]at this;exact this
  have hm:∀ x∈rgK (s*p+s*es.length) (s*p) p es k,x∈yY rows (s*p) p es (s*es.length):=fun x b=>Sk _ (List.mem_flatMap.2 ⟨k,QU.2 a,b⟩);have h1:=h _ (hm _ QC);have h2:=h _ (hm _ (QL _ QC));rw[c k a]at h1 h2;rw[yy];simp only at h1 h2;constructor <;> grind
 rintro ⟨h1,h2⟩ r hr;rcases QS.1 hr with hr|hr
 ·obtain⟨x,b,rfl⟩:=QE.1 hr;rw[AN (d x b)];exact h1 x b
 obtain⟨k,a,hr⟩:=List.mem_flatMap.1 hr;have a:=QU.1 a;have h3:=yy.1 (h2 k a);rcases QQ.1 hr with rfl|hr
 ·rw[c k a];simp only;grind
 rw[QY.1 hr,c k a];simp only;grind
theorem MI {a:Nat}{b c:Nat->Rat}(d:EdgeOk s p es)(e:∀ r∈rows,r.f.length=s*p)(h:Lp.UnbR (ci (s*p+s*es.length) (eO (yY rows (s*p) p es (s*es.length)))) (fun j=>(mZ (s*p) (s*es.length)).getD j 0) a b c):False:=by
 obtain⟨y,hy,g⟩:=h.below 0;rw[show(ci (s*p+s*es.length) (eO (yY rows (s*p) p es (s*es.length)))).n=s*p+s*es.length from rfl,Gs]at g;have h1:=((Lh d e).1 hy).2;have h2:0<=Lp.sumN (fun k=>y (s*p+k)) (s*es.length):=Lp.sumN_ge fun k i=>Rat.le_trans (N6 _) (h1 k i);grind
end
theorem O2 (h:∀ r∈rows,RowI r):∀ r∈yY rows (s*p) p es (s*es.length),RowI r:=by
 intro r hr;have d:Wl 1 1:=⟨1,by decide +kernel,by decide⟩;have b:Wl 1 (-1):=⟨-1,by decide +kernel,by decide⟩;rcases QS.1 hr with hr|hr
 ·obtain⟨x,e,rfl⟩:=QE.1 hr;obtain⟨D,h0,f,h1,h2⟩:=h x e;refine⟨D,h0,f,fun q a=>?_,h2⟩;rcases QS.1 a with a|a
  ·exact h1 q a
  rw[(List.mem_replicate.1 a).2];exact Wl.zero _
 obtain⟨k,g,hr⟩:=List.mem_flatMap.1 hr;have c:∀ sg:Rat,Wl 1 sg->∀ q∈rgF (s*p+s*es.length) (s*p) p es.length k (edg es k) sg,Wl 1 q:=fun sg hs q a=>by
  unfold rgF at a;rcases RS a with a|rfl
  ·rcases RS a with a|rfl
   ·rcases RS a with a|rfl
    ·rw[(List.mem_replicate.1 a).2];exact Wl.zero _
    exact hs
   exact hs.neg
  exact b
 rcases QQ.1 hr with rfl|hr
 ·exact⟨1,by decide,by decide,c 1 d,Wl.zero _⟩
 rw[QY.1 hr];exact⟨1,by decide,by decide,c (-1) b,Wl.zero _⟩
theorem MK (h b j:Nat):Wl 1 ((mZ h b).getD j 0):=by
 unfold mZ;rw[am];cases a:(List.replicate h (0:Rat)++List.replicate b 1)[j]? with
|none=>exact Wl.zero _
|some q =>
  rcases QS.1 (aX a) with a|a
  ·rw[(List.mem_replicate.1 a).2];exact Wl.zero _
  rw[(List.mem_replicate.1 a).2];exact⟨1,by decide +kernel,by decide⟩
theorem MJ (a:s*p+s*es.length<=12)(h:∀ r∈rows,RowI r):Lp.Lim (ci (s*p+s*es.length) (eO (yY rows (s*p) p es (s*es.length)))) (fun j=>(mZ (s*p) (s*es.length)).getD j 0) 20:=uJ a (O2 h) ⟨1,by decide,by decide,fun j _=>MK _ _ j⟩
theorem Qj {z:Int}(h:s*p<=60):ofE z s p=z:=by
 unfold ofE;split
 ·rfl
 rename_i h2;have:z=0:=by simpa using h2
 rw[aF om_,this]
theorem zN (C:Mem)(a:Value)(B:Bk)(z:Int)(b:BookZ C a B z)(h:bs B*bp B<=60):Gives cx.P 92 [a] C (.tuple #[.int .i64 (if z=0 then ((bs B*bp B:Nat):Int) else 0),.int .i64 z]):=by
 have h1:=KB C a B z b;rw[Qj h]at h1;exact h1
theorem mg (C:Mem)(n:Nat)(h:n<=100000):Jog.Fn cx.P 77 [.int .i64 n] C [] fun u _f a=>∃ b,u=.slice (some ⟨b,0,none⟩) n n/\a=[.arr u 32 1 n (List.replicate n (af [48]))]:=by
 refine Ur func77 6 U3 fun w0=>Uh 1 [0] Z<|UI [(2,3)] Z fun R c=>UF [[af [48]]] U12 fun g _ _ d=>Uk U6<|D.call (na _ _ n [48] d.m_ om_) Z (.inr dc_) U6 (QI _) fl_ fun i _ j _ e=>C6 1 [2] c Z ?_;obtain⟨bz,rfl,rfl⟩:=e;refine Uv (UV Z Z ?_);exact⟨bz,Z,Z⟩
theorem MF (B:Bk)(a:Nat->List RowQ):(bS (bI B) a (List.range B.obs.length)).map SrcQ.r=dP B a:=rfl
abbrev sC7 (A:Option Addr)(n c:Nat):Value:=.slice A n c
theorem kV (C:Mem)(M:Tabs C)(g:Value)(B:Bk)(N:List Rat)(c:Nat->List RowQ)(o:BookIn C g B)(h:Calm B N c) :
  Jog.Fn cx.P 37 [g] C [] fun u D k=>∃ (d:Option Addr)(e bz:Nat)(vs:List Value),u=.tuple #[.agg ⟨[.int .i64 (bs B*bp B:Nat),.slice d (dP B c).length e,.slice (some ⟨bz,0,none⟩) (bs B*bp B) (bs B*bp B)]⟩,.int .i64 0]/\RowsOk D vs (dP B c) /\
   k=[.arr (.slice d (dP B c).length e) 140 2 (dP B c).length (aC vs (dP B c)).flatten,.arr (.slice (some ⟨bz,0,none⟩) (bs B*bp B) (bs B*bp B)) 32 1 (bs B*bp B) (List.replicate (bs B*bp B) (af [48]))]:=by
 have av:=o;have W:=h.rich.bookz M o;have X:=h.cnt (dD _);have Y:=h.n12;have aw:=h.ob;obtain⟨l,x⟩:∃ l,bS (bI B) c (List.range B.obs.length)=l:=⟨_,rfl⟩;have O:dP B c=l.map SrcQ.r:=by rw[<- MF,x]
 have ay:l.length<=120:=by
  have:=X;rw[show pq B c (List.range B.obs.length)=dP B c from rfl,O,ar]at this;exact this
 have aa:∀ D:Mem,C.le D->Pur cx.P 54 [g] D fun u E=>∃ v,u=.tuple #[v,.int .i64 0]/\Ig E v l:=fun D p=>by
  have:=LW D (M.mono p) g B N c (o.mono p) h.rich om_ (by rw[x];omega);rw[x]at this;exact this
 obtain⟨n,Q⟩:∃ n,bs B*bp B=n:=⟨_,rfl⟩;have ab:∀ D:Mem,C.le D->Gives cx.P 92 [g] D (.tuple #[.int .i64 n,.int .i64 0]):=fun D p=>by
  have h:=zN D g B 0 (W.mono p) om_;rw[aJ rfl,Q]at h;exact h
 rw[O];rw[Q]at Y⊢;obtain⟨v1,v2,tv,cv,ov,rfl,h1,h2,h3,h4,h5⟩:=id o.ex;have az:maxLen<=9223372036854775807:=by simp[maxLen]
 refine Ur func37 47 U3 fun w0=>Ul fun R a=>UC U6 fun b1=>UB U5 fun q=>C6 1 [1,2] a Z<|G.freeze 1 Z fun _ _ S=>Ul fun R a=>Uj (bkT S 5) U8<|UR (aa _ mup) U7 (fun aA _ _ ad=>?_);obtain⟨wv,rfl,ag⟩:=ad;obtain⟨vs,y,z⟩:=ag;have T:=lI y;obtain⟨Aw,cw,rfl,ah,aB,_⟩:=id z;have ai:(ck vs l).length=l.length:=by unfold ck;simp[T]
 rw[ai]at z ah⊢;refine C6 5 [1,2,4,5] a Z<|Uh 2 [1,2,4,5,16] Z<|G.cd (fun U=>?_) fun U=>?_
 ·exact absurd U dc_
 refine Ul fun R a=>Uj (bkT S 5) U8<|Ut (ab _ mup) U7<|C6 5 [2,4,5,6] a Z<|Uh 2 [2,4,5,6,25] Z<|G.cd (fun V=>?_) fun V=>?_
 ·exact absurd V dc_
 refine UI [(2,3)] Z fun R a=>Um 2 Z<|D.call (mg _ n om_) Z (.inr dc_) U6 (QI _) fl_ (fun aD _ aE _ ak=>?_);obtain⟨bz,rfl,rfl⟩:=ak;refine UA [.int .i64 n,.slice none 0 0,.slice (some ⟨bz,0,none⟩) n n] U8<|UB U5 fun t=>Us (j:=0) U12<|Un [2,4,7] a Z<|Uh 3 [2,7,32,33,34] Z<|G.nilArr 140 2<|G.perm (L':=[.arr (sC7 none 0 0) 140 2 0 (prC (vs.take 0) (l.take 0)).flatten,.arr (.slice (some ⟨bz,0,none⟩) n n) 32 1 n (List.replicate n (af [48])),.obj t (.cells ⟨[.int .i64 n,.slice none 0 0,.slice (some ⟨bz,0,none⟩) n n]⟩ 74 (0,0)),.obj q (.cells ⟨[.int .i64 0,.slice none 0 0,.slice none 0 0]⟩ 74 (0,0))]) (pkL [0,1,0,0] Z)<|G.loop (fun fr C' k μ=>∃ (i:Nat)(d:Option Addr)(n1 e:Nat),(i<=l.length)/\fr=[(2,[],.pointer (some ⟨q,0,none⟩)),(7,[],.pointer (some ⟨t,0,none⟩)),(32,[],.slice Aw l.length cw),(33,[],.int .i64 l.length),(34,[],.int .i64 i)]/\k=[.arr (sC7 d n1 e) 140 2 i (prC (vs.take i) (l.take i)).flatten,.arr (.slice (some ⟨bz,0,none⟩) n n) 32 1 n (List.replicate n (af [48])),.obj t (.cells ⟨[.int .i64 n,.slice d n1 e,.slice (some ⟨bz,0,none⟩) n n]⟩ 74 (0,0)),.obj q (.cells ⟨[.int .i64 0,.slice none 0 0,.slice none 0 0]⟩ 74 (0,0))]/\μ=l.length-i) (hn_ [2,7,32,33,34] Z) ⟨0,none,0,0,QH _,Z,Z,Z⟩ (fun fr aF aG m _ hI=>?_);obtain⟨i,d,n1,e,hi,rfl,rfl,rfl⟩:=hI;refine Uh 1 [2,7,32,33,34,35] Z<|G.cd (fun A=>?_) fun A=>?_
 ·have F:i<l.length:=by
   have:=PZ A;omega
  obtain⟨s,H⟩:∃ s,l[i]?=some s:=⟨l[i],aj F⟩;obtain⟨w,I⟩:∃ w,vs[i]?=some w:=⟨vs[i]'om_,aj om_⟩;have al:=y.2 i w s.r I (by rw[QD,H];rfl);obtain⟨Ax,am,rfl,_⟩:=id al;have an:=JB T I H;refine Ul fun R a=>Uy z.m_ U10 om_ (OJ I H) fl_ fun aH ao=>Uj ao U8<|UB U5 fun b9=>Us (j:=0) U12<|Un [2,7,9,32,33,34] a Z<|G.freeze 0 Z fun _ _ ap=>Ui 1 Z fun R a=>Uo ac U9<|Uk U6<|Uj (bkT ap 2) U8<|UF [[.slice Ax (s.r.f.map eM).length am,af (qtx s.r.b)]] U12 fun aI _ _ aq=>UP (j:=0) U11 aq.m_ Z ax (by show(i+1)*40<=_;omega) fl_ fun J K L=>Uk U6<|Us (j:=2) U12<|Un [2,7,32,33,34] a Z<|Ul fun R a=>Uq _ Z U6<|C6 1 [2,7,32,33,34] a Z<|G.perm (L':=[.arr (sC7 J K L) 140 2 (i+1) (prC (vs.take (i+1)) (l.take (i+1))).flatten,.arr (.slice (some ⟨bz,0,none⟩) n n) 32 1 n (List.replicate n (af [48])),.obj t (.cells ⟨[.int .i64 n,.slice J K L,.slice (some ⟨bz,0,none⟩) n n]⟩ 74 (0,0)),.obj q (.cells ⟨[.int .i64 0,.slice none 0 0,.slice none 0 0]⟩ 74 (0,0))]) (by rw[an,Ro];(exact pkL [1,1,0,0] Z))<|Uw (m':=l.length-(i+1)) om_ mup (hn_ [2,7,32,33,34] Z) ⟨i+1,J,K,L,om_,Z,Z,Z⟩
 have F:i=l.length:=by
  have:=QF A;omega
 subst F;refine Ul fun R a=>Uo ac U9<|Us (j:=3) U12<|C6 1 [2,3] a Z ?_;rw[Rf (show vs.length<=l.length by omega),QM];refine UY 3 Z<|Wi ae (fun A0 c0 au _=>?_);obtain⟨rfl,rfl,rfl⟩:d=A0/\n1=l.length/\e=c0:=by cases au;exact⟨rfl,rfl,rfl⟩
 refine Uv (WU 0 Z Z Z Z Z Z ?_);exact⟨d,e,bz,vs,by rw[ar];rfl,RowsOk.mono y mup,by rw[ar];rfl⟩
def yL (s p:Nat)(pt:Nat->Rat):List (List Str):=chunks s p (((List.range (s*p)).map pt).map qtx)
abbrev nI (B:Bk)(RO:Nat->List RowQ):Lp.Sys:=ci (bs B*bp B) (eO (dP B RO))
inductive BuiO (B:Bk) (RO:Nat->List RowQ) (D:Mem):Value->Prop where
|yes (pt:Nat->Rat) (v:Value):(nI B RO).At pt->Lp.CmD (bs B*bp B) 20 pt->(∀ j,QB 20 (pt j))->FieldsIn D v (yL (bs B) (bp B) pt)->BuiO B RO D (.tuple #[v,.agg ⟨[.slice none 0 0]⟩,.bool true,.int .i64 0])
|no (du:Nat->Rat) (vd:Value):Lp.InfR (nI B RO) 20 du->Sl D 1 vd (((List.range (dP B RO).length).map du).map aQ)->BuiO B RO D (.tuple #[.slice none 0 0,.agg ⟨[vd]⟩,.bool false,.int .i64 0])
theorem Hn {p:Lp.Sys}{D:Mem}(h:FeaO p D u):∃ (A:Option Addr)(n c:Nat)(A2:Option Addr)(n2 c2:Nat)(a:Bool),u=.tuple #[.slice A n c,.agg ⟨[.slice A2 n2 c2]⟩,.bool a,.int .i64 0] /\
  ((a=true/\A2=none/\n2=0/\c2=0/\∃ pt,p.At pt/\Lp.CmD p.n 20 pt/\(∀ j,QB 20 (pt j))/\Sl D 1 (.slice A n c) (((List.range p.n).map pt).map aQ)) ∨
  (a=false/\∃ du,Lp.InfR p 20 du/\Sl D 1 (.slice A2 n2 c2) (((List.range p.m).map du).map aQ))):=by
 cases h with
|yes pt g b d e h1 =>
  obtain⟨A,c,rfl,_⟩:=id h1;exact⟨_,_,_,_,_,_,true,Z,.inl ⟨Z,Z,Z,Z,pt,b,d,e,h1⟩⟩
|no du i f h1 =>
  obtain⟨A,c,rfl,_⟩:=id h1;exact⟨_,_,_,_,_,_,false,Z,.inr ⟨Z,du,f,h1⟩⟩
theorem Hq (l:List Rat):l.map aQ=(l.map qtx).map eA:=by
 rw[RC];rfl
theorem O4 (n:Nat):∀ x∈List.replicate n (0:Rat),QB 22 x:=fun x a=>by rw[(List.mem_replicate.1 a).2];exact QB_zero.le dc_
theorem xL (a:∀ j,QB 20 (pt j)):rG s p (((List.range (s*p)).map pt).map qtx)=0:=by
 unfold rG;rw[aJ al,QX.2 fun x b=>?_]
 ·rfl
 obtain⟨q,c,rfl⟩:=QE.1 b;obtain⟨j,_,rfl⟩:=QE.1 c;exact bi ((a j).le dc_)
theorem wZ (a:∀ j,QB 20 (pt j)):∀ x∈((List.range (s*p)).map pt).map qtx,x.length<=999998:=fun x b=>by
 obtain⟨q,c,rfl⟩:=QE.1 b;obtain⟨j,_,rfl⟩:=QE.1 c;exact QW (bg (a j) dc_) dc_
theorem xE (C:Mem)(d:Tabs C)(k:Value)(B:Bk)(l:List Rat)(b:Nat->List RowQ)(c:BookIn C k B)(h:Calm B l b) :
  Pur cx.P 26 [k] C fun u D=>BuiO B b D u:=by
 have n:=c;have A:=h.rich.bookz d c;have aa:=h.n12;have e:=dD B.obs.length;have E:=h.rowsQ e;have F:=h.q22 e;have H:=h.lim e;obtain⟨v1,v2,tv,cv,ov,rfl,h1,h2,h3,h4,h5⟩:=id c.ex;have ab:maxLen<=9223372036854775807:=by simp[maxLen]
 refine Ur func26 43 U3 fun w0=>Ul fun R a=>UC U6 fun b1=>Uk U6<|UB U5 fun b3=>C6 2 [1,3] a Z<|G.freeze 1 Z fun _ _ o=>UI [(1,3)] Z fun R a=>Uj (bkT o 5) U8<|D.call (kV _ d.m_ _ B l b n.m_ h) Z (.inr dc_) U6 (QI _) fl_ (fun ac _ ad _ I=>?_);obtain⟨Ar,cr,bo,vs,rfl,q,rfl⟩:=I;refine Um 3 Z<|UB U5 fun b6=>Us (j:=0) U12<|C6 1 [1,3,5,6] a Z<|Uh 2 [1,3,5,6,14] Z<|G.cd (fun r=>?_) fun r=>?_
 ·exact absurd r dc_
 refine G.freezeArr 1 (aC vs (dP B b)) Z Z (bZ _ _) (by rw[bN q.1]) (fun _ _ J=>?_);rw[lL];refine G.freezeArr 1 ((List.replicate (bs B*bp B) (0:Rat)).map aQ) Z Z bU al fun _ _ K=>G.freeze 0 Z (fun L _ M=>?_);have N:=ue (RowsOk.m_ q) (J.mono mup:Sl L 2 _ _);refine Ul fun R a=>Uj (bkT M 3) U8<|UK (JF _ d.m_ (bs B*bp B) _ _ (eO (dP B b)) (List.replicate (bs B*bp B) 0) N.m_ K.m_ E (O4 _) F om_ al H) U7 fl_ (fun ae _ _ O=>?_);obtain⟨Q,S,T,U,nd,cd,t,rfl,v⟩:=Hn O;refine Um 6 Z<|Us (j:=0) U12<|C6 2 [1,3,4,5,7] a Z<|Ui 5 Z fun R a=>UN U8<|Un [1,3,5,7,29] a Z<|G.cd (fun f=>?_) fun f=>?_
 ·have g:t=false:=by simpa using f
  subst g;obtain⟨du,V,w⟩:∃ du,Lp.InfR (nI B b) 20 du/\Sl _ 1 (.slice U nd cd) (((List.range (nI B b).m).map du).map aQ):=by
   rcases v with⟨h,_⟩|⟨_,h⟩
   ·cases h
   exact h
  refine UD [0,1,2,3,4,5] [] Z kr_ fun R c a=>Uo ag U9<|Um 2 Z<|Us (j:=0) U12<|Um 2 Z<|Un [2,3,4,5] a Z ?_;clear a c R;refine Uv (VP ag U7 ?_);refine⟨Z,.no du _ V ?_⟩;rw[show(nI B b).m=(dP B b).length from ar _]at w;exact w.mono mup
 have g:t=true:=by simpa using f
 subst g;obtain⟨pt,W,X,i,x⟩:∃ pt,(nI B b).At pt/\Lp.CmD (bs B*bp B) 20 pt/\(∀ j,QB 20 (pt j))/\Sl _ 1 (.slice Q S T) (((List.range (bs B*bp B)).map pt).map aQ):=by
  rcases v with⟨_,_,_,_,h⟩|⟨h,_⟩
  ·exact h
  cases h
 rw[Hq]at x;have y:=xL (s:=bs B) (p:=bp B) i;refine Ul fun R a=>Uj (bkT o 5) U8<|Uk U6<|UK (xU _ d.m_ _ _ B (((List.range (bs B*bp B)).map pt).map qtx) n.m_ A.m_ om_ x.m_ (wZ i) ap) U7 fl_ (fun af _ _ Y=>?_);obtain⟨fv,rfl,z⟩:=Y;rw[y,aJ rfl]at z;rw[y];refine C6 5 [2,3,5] a Z<|Ui 1 Z fun R a=>UA ([.slice none 0 0]) U8<|Um 4 Z<|Us (j:=0) U12<|C6 2 [2,3,4,5] a Z<|Uv (VP ag U7 ?_);exact⟨Z,.yes pt _ W X i z.m_⟩
open Go Go.Jog Go.Shelf
set_option maxRecDepth 100000
def xZ (e:Nat × Nat):List Value:=[.int .i64 e.1,.int .i64 e.2]
def NX (x y:Nat × Nat):Int:=Ly [x.1,x.2] [y.1,y.2]
theorem vu {x y:Nat × Nat}:NX x y<0 ↔ ltP x y:=by
 unfold NX ltP;simp only[Ly];split
 ·exact⟨fun _=>.inl ‹_›,fun _=>by decide⟩
 split
 ·exact⟨fun h=>absurd h dc_,fun h=>by omega⟩
 split
 ·exact⟨fun _=>.inr ⟨by omega,‹_›⟩,fun _=>by decide⟩
 split
 ·exact⟨fun h=>absurd h dc_,fun h=>by omega⟩
 exact⟨fun h=>absurd h dc_,fun h=>by omega⟩
theorem KH:Sort.SWO (ltOf NX) where
 irrefl x:=by unfold ltOf;exact Q6 (fun h=>zm x (vu.1 h))
 trans x y z h1 h2:=by
  unfold ltOf at *;simp only[QK] at *;rw[vu] at *;unfold ltP at *;omega
 ntrans x y z h1 h2:=by
  unfold ltOf at *;simp only[Q7] at *;rw[vu] at *;unfold ltP at *;omega
def Cv (ks:List fy)(s:fy):Bool:=decide (s.1<s.2) || !(decide (nY s∈ks))
def lS (s:fy):Nat × Nat:=((min s.1 s.2).toNat,(max s.1 s.2).toNat)
def kI (ks:List fy)(seen:List Nat):List (Nat × Nat):=((seen.map fun j=>ks.getD j (0,0)).filter (Cv ks)).map lS
theorem Dt {seen:List Nat}{s:fy}(h:ks[j]?=some s):kI ks (seen++[j])=kI ks seen++if Cv ks s then [lS s] else []:=by
 unfold kI;rw[Rh,Se,Rh];congr 1;rw[Ri,SG,am,h,List.filter_cons];split <;> simp_all
theorem Hr {s:fy}(a:0<=s.1)(b:0<=s.2):xZ (lS s)=[.int .i64 (min s.1 s.2),.int .i64 (max s.1 s.2)]:=by
 unfold xZ lS;rw[show(((min s.1 s.2).toNat:Nat):Int)=min s.1 s.2 by omega,show(((max s.1 s.2).toNat:Nat):Int)=max s.1 s.2 by omega]
theorem ub (h:∀ t∈tris,nD n t):∀ s∈bO tris,0<=s.1/\0<=s.2/\s.1.toNat<n/\s.2.toNat<n:=by
 intro s hs;obtain⟨t,a,hs⟩:=List.mem_flatMap.1 hs;obtain⟨h1,h2,h3⟩:=h t a;simp only[pi,QQ,RJ,S5]at hs;rcases hs with rfl|rfl|rfl <;> simp[nZ,EK] <;> omega
structure EdgL (tris:List Tri)(es:List (Nat × Nat)):Prop where
 up:es.Pairwise ltP
 mem:∀ e,e∈es ↔ e.1<e.2/\(((e.1:Int),(e.2:Int))∈bO tris∨((e.2:Int),(e.1:Int))∈bO tris)
theorem EdgL.same {a:List (Nat × Nat)}(h:EdgL tris es)(k:EdgL tris a):es=a :=
 Ew zm JX h.up k.up fun e=>(h.mem e).trans (k.mem e).symm
theorem EdgL.ok (h:EdgL tris es)(a:∀ t∈tris,nD n t)(s:Nat):EdgeOk s n es:=⟨fun e b=>by
 obtain⟨h1,h2⟩:=(h.mem e).1 b;rcases h2 with h2|h2
 ·have:=ub a _ h2;simp only[Sx]at this;omega
 have:=ub a _ h2;simp only[Sx]at this;omega⟩
theorem EdgL.le (h:EdgL tris es)(a:∀ t∈tris,nD n t)(b:n<=6):es.length<=15/\(n<=4->es.length<=6):=JG b h.up (h.ok a 0).lt
theorem Nh {s t:fy}(a:0<=s.1)(b:0<=s.2)(c:0<=t.1)(d:0<=t.2)(h:lS s=lS t):s=t∨t=nY s:=by
 obtain⟨e,f⟩:=s;obtain⟨g,i⟩:=t;unfold lS at h;simp only[SQ,nY] at *;omega
theorem NH {l:List (Nat × Nat)}(c:ks.Perm (bO tris))(o:(bO tris).Nodup)(d:∀ s∈bO tris,0<=s.1/\0<=s.2)
  (p:l.Perm ((ks.filter (Cv (bO tris))).map lS)) (q:es.Perm l) (b:es.Pairwise fun x y=>ltOf NX y x=false):EdgL tris es:=by
 have k:=q.trans p;have r:ks.Nodup:=c.nodup_iff.2 o;have f:∀ s∈ks.filter (Cv (bO tris)),s∈bO tris/\Cv (bO tris) s=true:=fun s b=>by
  obtain⟨h1,h2⟩:=R7.1 b;exact⟨c.mem_iff.1 h1,h2⟩
 have u:((ks.filter (Cv (bO tris))).map lS).Nodup:=by
  rw[List.Nodup,List.pairwise_map];refine(r.filter _).imp_of_mem fun {s t} b v g w=>?_;obtain⟨a,k1⟩:=f s b;obtain⟨m,k2⟩:=f t v;obtain⟨i,a2⟩:=d s a;obtain⟨z,A⟩:=d t m;rcases Nh i a2 z A w with e|e
  ·exact g e
  subst e;unfold Cv at k1 k2;have j:nY (nY s)=s:=rfl;simp only[j,a,m,decide_true,Bool.not_true,Bool.or_false,QK]at k1 k2;simp only[nY]at k2;omega
 have g:es.Nodup:=k.nodup_iff.2 u;refine⟨?_,fun e=>?_⟩
 ·refine(List.Pairwise.and g b).imp fun {x y} ⟨h1,h2⟩=>?_;unfold ltOf at h2;have h3:¬ ltP y x:=fun h=>absurd (vu.2 h) (QF h2);unfold ltP at h3⊢;obtain⟨x1,x2⟩:=x;obtain⟨y1,y2⟩:=y;simp only[ne_eq,SQ] at *;omega
 rw[k.mem_iff];constructor
 ·intro h;obtain⟨s,b,rfl⟩:=QE.1 h;obtain⟨a,k1⟩:=f s b;obtain⟨i,a2⟩:=d s a;have n:s.1≠s.2:=fun e=>by
   unfold Cv at k1;have j:nY s=s:=by obtain⟨x,y⟩:=s;simp only[nY] at *;rw[e]
   rw[j]at k1;simp only[a,decide_true,Bool.not_true,Bool.or_false,QK]at k1;omega
  obtain⟨x,y⟩:=s;unfold lS;simp only at i a2 n a⊢;rcases Int.lt_or_gt_of_ne n with h|h
  ·refine⟨by omega,.inl ?_⟩;rw[show(((min x y).toNat:Nat):Int)=x by omega,show(((max x y).toNat:Nat):Int)=y by omega];exact a
  refine⟨by omega,.inr ?_⟩;rw[show(((min x y).toNat:Nat):Int)=y by omega,show(((max x y).toNat:Nat):Int)=x by omega];exact a
 rintro ⟨h1,h2⟩;have B:lS ((e.1:Int),(e.2:Int))=e:=by
  obtain⟨x,y⟩:=e;unfold lS;simp only[SQ] at *;omega
 have C:lS ((e.2:Int),(e.1:Int))=e:=by
  obtain⟨x,y⟩:=e;unfold lS;simp only[SQ] at *;omega
 by_cases h3:((e.1:Int),(e.2:Int))∈bO tris
 ·refine QE.2 ⟨_,R7.2 ⟨c.mem_iff.2 h3, ?_⟩,B⟩;unfold Cv;rw[QV (by show(e.1:Int)<e.2;omega)];rfl
 have h4:=h2.resolve_left h3;refine QE.2 ⟨_,R7.2 ⟨c.mem_iff.2 h4, ?_⟩,C⟩;unfold Cv;rw[show nY ((e.2:Int),(e.1:Int))=((e.1:Int),(e.2:Int)) from rfl,Q6 h3,Bool.not_false,Bool.or_true]
theorem xx (C:Mem)(a:Int):Gives cx.P 274 [.int .i64 a] C (.bool false):=by
 exact Ur func274 6 U3 fun w0=>Uh 1 [0] Z<|Uh 4 [2] Z<|Up U2<|⟨by simp,Z⟩
theorem zP (C:Mem)(a b:Int):Gives cx.P 216 [.int .i64 a,.int .i64 b] C (.int .i64 (LR a b)):=by
 refine Ur func216 20 U3 fun w0=>Uh 1 [0,1] Z<|Ui 1 Z fun R d=>Ut (xx _ _) U7<|C6 1 [0,1,5] d Z<|Ui 1 Z fun R d=>Ut (xx _ _) U7<|C6 1 [0,1,5,6] d Z<|Uh 1 [0,1,6,11] Z<|G.cd (fun f=>?_) fun f=>?_
 ·cases f
 refine Uh 1 [0,1,13] Z<|G.cd (fun g=>?_) fun g=>?_
 ·cases g
 refine Uh 3 [0,1,16] Z<|G.cd (fun c=>?_) fun c=>?_
 ·refine Uh 1 [4] Z<|Up U2 ?_;simp only[QK]at c;exact⟨by rw[LR,aJ c],Z⟩
 refine Uh 3 [19] Z<|G.cd (fun e=>?_) fun e=>?_
 ·refine Uh 1 [4] Z<|Up U2 ?_;simp only[QK,Q7]at c e;exact⟨by rw[LR,aF c,aF om_],Z⟩
 refine Uh 1 [4] Z<|Up U2 ?_;simp only[Q7]at c e;exact⟨by rw[LR,aF c,aJ om_],Z⟩
theorem zQ (C:Mem)(v w:Value)(a b:List Nat)(l:Sl C 1 v (a.map aT))(n:Sl C 1 w (b.map aT))(L:a.length<=1000000)(_M:b.length<=1000000) :
  Gives cx.P 148 [v,w] C (.int .i64 (Ly a b)):=by
 obtain⟨A,c,rfl,_⟩:=id l;obtain⟨B,d,rfl,_⟩:=id n;simp only[ar]at l n⊢;refine Ur func148 36 U3 fun w0=>Uh 1 [0,1] Z<|Uh 3 [0,1,9,10,11] Z<|G.loop (fun fr N z D=>∃ (k:Nat),(k<=a.length/\k<=b.length/\Ly (a.drop k) (b.drop k)=Ly a b)/\fr=[(0,[],.slice A a.length c),(1,[],.slice B b.length d),(9,[],.slice A a.length c),(10,[],.int .i64 a.length),(11,[],.int .i64 k)]/\z=[]/\D=a.length-k) (hn_ [0,1,9,10,11] Z) ⟨0,⟨QH _,QH _,Z⟩,Z,Z,Z⟩ (fun fr O Q m _ E=>?_);obtain⟨k,⟨S,T,g⟩,rfl,rfl,rfl⟩:=E;refine Uh 1 [0,1,9,10,11,12] Z<|G.cd (fun o=>?_) fun o=>?_
 ·have h:k<a.length:=by simpa using o
  obtain⟨x,t⟩:∃ x,a[k]?=some x:=⟨a[k],aj h⟩;have F:(a.map aT)[k]?=some (aT x):=by rw[QD,t];rfl
  have p:a.drop k=x::a.drop (k+1):=by rw[Q0 h,(aL.1 t).2]
  refine Ui 1 Z fun R f=>Uy l.m_ U10 om_ F fl_ fun U H=>Uj H U8<|C6 2 [0,1,5,6,9,10,11] f Z<|Uh 4 [0,1,5,6,9,10,11,19] Z<|G.cd (fun q=>?_) fun q=>?_
  ·have i:b.length<=k:=by simpa using q
   have j:b.drop k=[]:=Ss i;exact Uh 1 [4] Z<|Up U2<|⟨by rw[<- g,p,j];rfl,Z⟩
  have i:k<b.length:=by
   have:¬ b.length<=k:=by simpa using q
   omega
  obtain⟨y,hy⟩:∃ y,b[k]?=some y:=⟨b[k],aj i⟩;have I:(b.map aT)[k]?=some (aT y):=by rw[QD,hy];rfl
  have j:b.drop k=y::b.drop (k+1):=by rw[Q0 i,(aL.1 hy).2]
  refine Ui 2 Z fun R f=>Uy n.m_ U10 om_ I fl_ fun V J=>Uj J U8<|C6 1 [0,1,6,7,9,10,11] f Z<|Ui 2 Z fun R f=>Ut (zP _ _ _) U7<|C6 1 [0,1,8,9,10,11] f Z<|Uh 2 [0,1,8,9,10,11,28] Z<|G.cd (fun r=>?_) fun r=>?_
  ·have e:LR x y≠0:=by simpa using r
   refine Uh 2 [4] Z<|Up U2<|⟨?_,Z⟩;rw[<- g,p,j];simp only[Ly];unfold LR at e⊢;by_cases h1:x<y
   ·have h3:(x:Int)<y:=by omega
    rw[aJ h1,aJ h3]
   have h3:¬ (x:Int)<y:=by omega
   rw[aF h1,aF h3];rw[aF h3]at e;by_cases h2:y<x
   ·have h4:¬ (x:Int)=y:=by omega
    rw[aJ h2,aF h4]
   have h4:(x:Int)=y:=by omega
   rw[aJ h4]at e;exact absurd Z e
  have e:LR x y=0:=by simpa using r
  have K:x=y:=by
   unfold LR at e;split at e
   ·cases e
   split at e
   ·omega
   cases e
  refine Ul fun R f=>Uq _ Z U6<|C6 1 [0,1,9,10,11] f Z<|Uw (m':=a.length-(k+1)) om_ mup (hn_ [0,1,9,10,11] Z) ⟨k+1,⟨by omega,by omega,by rw[<- g,p,j,K];simp[Ly]⟩,Z,Z,Z⟩
 have h:k=a.length:=by
  have:¬ k<a.length:=by simpa using o
  omega
 subst h;rw[RN]at g;refine Uh 5 [35] Z<|G.cd (fun s=>?_) fun s=>?_
 ·have u:a.length<b.length:=by simpa using s
  refine Uh 1 [4] Z<|Up U2<|⟨?_,Z⟩;rw[<- g,Q0 u];rfl
 have u:¬ a.length<b.length:=by simpa using s
 refine Uh 1 [4] Z<|Up U2<|⟨?_,Z⟩;rw[<- g,Ss om_];rfl
theorem Kr (C:Mem)(x y:Nat × Nat):Gives cx.P 147 [.agg ⟨xZ x⟩,.agg ⟨xZ y⟩] C (.int .i64 (NX x y)):=by
 refine Ur func147 8 U3 fun w0=>Ul fun R a=>UC U6 fun m=>UC U6 fun n=>C6 1 [2,3] a Z<|G.freeze 1 Z fun _ _ f=>G.freeze 0 Z (fun d _ g=>?_);have e:∀ {b:Nat}(z:Nat × Nat){t:TypeId},d b=some (.cells ⟨xZ z⟩ t (0,0))->Sl d 1 (.slice (some ⟨b,0,none⟩) 2 2) (([z.1,z.2]:List Nat).map aT):=fun z t h=>Sl.ofBlock (rows:=([z.1,z.2]:List Nat).map aT) (c:=2) h (by intro r hr;obtain⟨y,_,rfl⟩:=QE.1 hr;rfl) (fun j v i=>by simpa [xZ,aT] using i) (Qz _) dc_;have k:=e x (Mem.get f mup);have l:=e y (Mem.get g mup);exact UD [0,1,2,3] [(2,1)] Z kr_ fun R o a=>VE 0 2 2 U12 (fun _=>⟨.inl ⟨Z,Z⟩,.inl ⟨Z,Z⟩,.inl ⟨Z,Z⟩,by omega,by omega,Qz _⟩) U2<|VE 0 2 2 U12 (fun _=>⟨.inl ⟨Z,Z⟩,.inl ⟨Z,Z⟩,.inl ⟨Z,Z⟩,by omega,by omega,Qz _⟩) U2<|UG (fun _=>(zQ _ _ _ [x.1,x.2] [y.1,y.2] k.m_ l.m_ (by show 2<=1000000;decide) (by show 2<=1000000;decide))) U9<|C6 1 [4] a Z<|Up U2<|⟨Z,Z⟩
theorem IW (C:Mem)(v:Value)(l:List (Nat × Nat))(d:l.length<=1000000):Jog.Fn cx.P 146 [v,.func (.func 147) #[] #[]] C [.arr v 163 2 l.length (l.map xZ).flatten]
  fun u _e b=>∃ a:List (Nat × Nat),u=.tuple #[]/\b=[.arr v 163 2 l.length (a.map xZ).flatten]/\a.Perm l/\a.Pairwise (fun x y=>ltOf NX y x=false) :=
 yO (P:=cx.P) (T:=tab) Tryz.sortE cx.hT rfl rfl xZ fl_ (fun x=>rfl) NX KH 147 [] C (fun x y c _=>Kr c x y) v 163 l om_ kr_ kr_
abbrev sE (A:Option Addr)(n c:Nat):Value:=.slice A n c
theorem Ko (l:List (Nat × Nat)):∀ r∈l.map xZ,r.length=2:=fun r hr=>by obtain⟨y,_,rfl⟩:=QE.1 hr;rfl
theorem wG (b:List fy)(a:List Nat):(kI b a).length<=a.length:=by
 unfold kI;rw[ar];refine QW (Sm _ _) ?_;rw[ar];exact Qz _
theorem Kp (C:Mem)(hT:Tabs C)(N:Value)(B:List Pt)(f:List Tri)(O:MeshIn C N B f)(E:Good B f) :
  Pur cx.P 76 [N] C fun u D=>∃ es v,u=.tuple #[v,.int .i64 0]/\EdgL f es/\Sl D 2 v (es.map xZ):=by
 have n:=E.ok;have ai:=O;obtain⟨v1,v2,rfl,h1,h2⟩:=id O.ex;have aB:maxLen<=9223372036854775807:=by simp[maxLen]
 have x:=ub n.ins;have ak:=mX f;have aC:=n.lt;refine Ur func76 63 U3 fun w0=>Ul fun R c=>UC U6 fun b1=>C6 2 [1] c Z<|G.freeze 0 Z fun _ _ Q=>Ul fun R c=>Uj (bkT Q 2) U8<|Ut (gG _ hT.m_ _ B f ai.m_ E) U7<|C6 1 [1,4] c Z<|Uh 2 [1,4,14] Z<|G.cd (fun S=>?_) fun S=>?_
 ·exact absurd S dc_
 refine Ul fun R c=>Uj (bkT Q 2) U8<|UR (xg _ _ _ f E.ne h2.m_ (sn n.sides)) U7 (fun aD _ _ al=>?_);obtain⟨b,rfl,g⟩:=al;obtain⟨m,T⟩:∃ m,xh f f.length=m:=⟨_,rfl⟩;have y:m.map (·.1)=bO f:=by
  have:=fK n.sides f.length (Qz _);rw[QM,T]at this;exact this
 rw[T]at g;obtain⟨ks,z⟩:∃ ks,bO f=ks:=⟨_,rfl⟩;rw[z]at y x ak;have U:ks.length=m.length:=by rw[<- y];simp
 have V:∀ s:fy,(dY m (s.2,s.1)).isSome=decide (nY s∈ks):=fun s=>by
  have:=BW (m:=m) (s:=s);rw[y]at this;rw[this];unfold ju;rw[Bool.not_not]
 refine C6 5 [5] c Z<|Uh 1 [5,7] Z<|Ui 1 Z fun R c=>V2 kI2.enc (Mem.get g mup) Z Z Z Z Z Z Z fl_ fun A=>Un [5,7,22] c Z<|G.nilArr 163 2<|G.loop (fun fr C' F μ=>∃ (seen:List Nat)(o:Option Addr)(n1 r:Nat),(seen.Nodup/\(∀ j∈seen,j<ks.length))/\fr=[(5,[],.map (some b)),(7,[],.slice o n1 r),(22,[],.pointer (some ⟨A,0,none⟩))]/\F=[.arr (sE o n1 r) 163 2 (kI ks seen).length ((kI ks seen).map xZ).flatten,.obj A (bq b m.length seen)]/\μ=ks.length-seen.length) (hn_ [5,7,22] Z) ⟨[],none,0,0,⟨List.nodup_nil,by simp⟩,Z,Z,Z⟩ (fun fr aE aF m _ hI=>?_);obtain⟨seen,o,n1,r,⟨H,I⟩,rfl,rfl,rfl⟩:=hI;refine Ul fun R c=>V5 kI2.enc (q:=1) (Mem.get g mup) Z Z Z Z Z Z fl_ fun W aG k X=>C6 1 [5,7,22,24] c Z<|G.cd (fun t=>?_) fun t=>?_
 ·obtain⟨aH,j,Y,am,rfl⟩:W=true/\∃ j,j<m.length/\j ∉ seen/\k=seen++[j]:=by
   rcases X with⟨h1,_⟩|h1
   ·rw[h1]at t;cases t
   exact h1
  rw[<- U]at Y;obtain⟨⟨s,bv⟩,hs⟩:∃ p,m[j]?=some p:=⟨m[j]'om_,aj om_⟩;have aa:ks[j]?=some s:=by rw[<- y,QD,hs];rfl
  have J:(seen++[j]).Nodup:=by
   rw[Sa];exact⟨H,by simp,fun a ha b g e=>by rw[QY.1 g]at e;subst e;exact am ha⟩
  have K:∀ i∈seen++[j],i<ks.length:=fun i w=>by
   rcases QS.1 w with h|h
   ·exact I i h
   rw[QY.1 h];exact Y
  have an:(seen++[j]).length<=ks.length:=by
   have:=List.Nodup.length_le_of_subset J (l₂:=List.range ks.length) (fun i w=>QU.2 (K i w));simpa using this
  have aI:(seen++[j]).length=seen.length+1:=by simp
  have l:=Dt aa (seen:=seen);obtain⟨ao,ap,_⟩:=x s (aX aa);have aq:=wG ks seen;refine Ul fun R c=>V3 kI2.enc (Mem.get g mup) hs ag Z Z Z Z Z Z Z<|Uk U6<|UB U5 fun b8=>Us (j:=0) U12<|Un [5,7,8,22] c Z<|Ui 1 Z fun R c=>UE (1) U9 ah U2<|Uo ag U9<|UE (0) U9 ah U2<|Uo ag U9<|UA [.int .i64 s.2,.int .i64 s.1] U8<|V9 kI2 (fun _=>(Mem.get g mup)) Z Z Z Z Z Z Z Z Z (lW _ (dY m (s.2,s.1))) Z Z<|C6 5 [5,7,8,10,22] c Z<|Ul fun R c=>UE (0) U9 ah U2<|Uo ag U9<|UE (1) U9 ah U2<|Uo ag U9<|Um 4 Z<|UN U8<|Un [5,7,8,22,45] c Z<|G.cd (fun L=>?_) fun L=>?_
  ·have M:Cv ks s=true:=by
    unfold Cv;rw[<- V];exact L
   rw[M,aJ rfl]at l;have aK:(kI ks (seen++[j])).length=(kI ks seen).length+1:=by rw[l];simp
   refine Ui 1 Z fun R c=>UE (0) U9 ah U2<|Uo ag U9<|UE (1) U9 ah U2<|Uo ag U9<|D.min (min s.1 s.2) U6 Z U2<|UE (0) U9 ah U2<|Uo ag U9<|UE (1) U9 ah U2<|Uo ag U9<|D.max (max s.1 s.2) U6 Z U2<|UA [.int .i64 (min s.1 s.2),.int .i64 (max s.1 s.2)] U8<|UF [[.int .i64 (min s.1 s.2),.int .i64 (max s.1 s.2)]] U12 fun aL _ _ au=>UP (j:=2) U11 au.m_ Z ax (by simp only[QA];omega) fl_ fun ab ac ad=>C6 1 [5,7,22] c Z<|UY 1 Z<|Uz (L':=[.arr (sE ab ac ad) 163 2 (kI ks (seen++[j])).length ((kI ks (seen++[j])).map xZ).flatten,.obj A (bq b m.length (seen++[j]))]) (by rw[l,Rh,Ro,<- Hr ao ap];simp)<|Uw (m':=ks.length-(seen++[j]).length) om_ mup (hn_ [5,7,22] Z) ⟨seen++[j],ab,ac,ad,⟨J,K⟩,Z,Z,Z⟩
  have M:Cv ks s=false:=by
   unfold Cv;rw[<- V];exact L
  rw[M]at l;simp only[Rz,R4,Q2]at l;refine UY 0 Z<|G.perm (L':=[.arr (sE o n1 r) 163 2 (kI ks (seen++[j])).length ((kI ks (seen++[j])).map xZ).flatten,.obj A (bq b m.length (seen++[j]))]) (by rw[l];exact List.Perm.swap _ _ _)<|Uw (m':=ks.length-(seen++[j]).length) om_ mup (hn_ [5,7,22] Z) ⟨seen++[j],o,n1,r,⟨J,K⟩,Z,Z,Z⟩
 obtain⟨aM,rfl,ae⟩:W=false/\k=seen/\∀ j,j<m.length->j∈seen:=by
  rcases X with h1|⟨h1,_⟩
  ·exact h1
  rw[h1]at t;cases t
 rw[<- U]at ae;have hp:=pk (d:=((0:Int),(0:Int))) H I ae;have aq:=wG ks k;have an:k.length<=ks.length:=by
  have:=List.Nodup.length_le_of_subset H (l₂:=List.range ks.length) (fun i w=>QU.2 (I i w));simpa using this
 refine UY 0 Z<|UI [(1,3)] Z fun R c=>Uk U6<|D.call (IW _ _ (kI ks k) om_) Z (.inr dc_) U6 (QI _) fl_ fun aN _ aO _ av=>Un [7] c Z ?_;obtain⟨es,rfl,rfl,af,aw⟩:=av;have ay:EdgL f es:=NH (ks:=k.map fun j=>ks.getD j (0,0)) (by rw[z];exact hp) n.sides (fun s hs=>by rw[z]at hs;exact⟨(x s hs).1,(x s hs).2.1⟩) (by rw[z];exact QI _) af aw;have az:es.length=(kI ks k).length:=af.length_eq;refine Uh 3 [2,3] Z<|G.freezeArr 0 (es.map xZ) Z Z (Ko es) (by rw[ar,az]) fun Cf aP aA=>Uv (G.dropAll (UH U3 ?_));exact⟨Z,es,_,Z,ay,aA⟩
theorem MS {q:Rat}(h:q.den=1):q=(q.num:Rat):=Rat.ext rfl h
def wlB (D:Int)(q:Rat):Bool:=decide ((q*(D:Rat)).den=1) && decide ((q*(D:Rat)).num.natAbs<=999999999)
theorem EX {D:Int}{q:Rat}(h:wlB D q=true):Wl D q:=by
 unfold wlB at h;simp only[QR,QK]at h;exact⟨_,MS h.1,h.2⟩
theorem Jj (D:Int)(a:D≠0)(c:D.natAbs<=999999999)(h:(r.f.all (wlB D) && wlB D r.b)=true):RowI r:=by
 simp only[QR,QX]at h;exact⟨D,a,c,fun q d=>EX (h.1 q d),EX h.2⟩
def xP (i:Nat):Pt:=if i<2 then (3,0) else if i=2 then (0,0) else (6,0)
def xD (i:Nat):Rat:=if i=1 then 5 else if i=3 then 1 else 4
def xX (i:Nat):Str:=if i=1 then [53] else if i=3 then [49] else [52]
def xN (i:Nat):Str:=if i % 2=0 then [97] else [98]
def xO (i:Nat):Obs:=⟨2,xN i,qtx (xP i).1,qtx (xP i).2,xX i,[66],[65],[],[],[]⟩
def xT (i:Nat):Obs:=⟨2,xN i,if i<2 then [51] else if i=2 then [48] else [54],[48],xX i,[66],[65],[],[],[]⟩
def xB (l:List Nat):Bk:=⟨[(0,0),(6,0),(0,4)],[(0,1,2)],[[49,48],[49,48],[49,48]],[⟨[65],0,none⟩,⟨[66],0,none⟩],l.map xO⟩
def xFs:List Rat:=[10,10,10]
theorem FU:qtx 3=[51]:=gY (z:=3) aq
theorem Ln:qtx 4=[52]:=gY (z:=4) aq
theorem Pa:qtx 5=[53]:=gY (z:=5) aq
theorem Jt:qtx 6=[54]:=gY (z:=6) aq
theorem MW:qtx 1=[49]:=gY (z:=1) aq
theorem O9:qtx 10=[49,48]:=gY (z:=10) aq
theorem xX_e (i:Nat):qtx (xD i)=xX i:=by
 unfold xD xX;split
 ·exact Pa
 split
 ·exact MW
 exact Ln
theorem Iu (i:Nat):xO i=xT i:=by
 unfold xO xT xP;split
 ·simp only[FU,qtx_zero]
 split <;> simp only[qtx_zero,Jt]
theorem K6:∀ i<4,QB 22 (xD i)/\QB 22 (xP i).1/\QB 22 (xP i).2/\QB 22 (10-xD i)/\QP 23 (xP i):=by decide +kernel
theorem Mc (i:Nat)(a:i<4):di (xX i)=xD i:=MT (xD i) (xX_e i) (K6 i a).1
theorem P6 (i:Nat)(a:i<4):aW (xX i)=true:=by rw[<- xX_e];exact bi (K6 i a).1
theorem x_pt (i:Nat)(a:i<4):ptO (xO i)=xP i:=by
 unfold ptO;show(di (qtx (xP i).1),di (qtx (xP i).2))=xP i;rw[cR (bi (K6 i a).2.1),cR (bi (K6 i a).2.2.1)]
theorem IC:∀ i<4,jU (xB []).pts (xB []).tris (xP i)=[0]:=by decide +kernel
theorem x_sh:∀ i<4,dZ (xT i)=0:=by decide +kernel
theorem Ou:∀ i<4,La (xB []).col (xT i)=false/\ordB (xB []).col (xT i)=false/\IB (xT i)=false/\0<=kp (isU (xT i).upper) (xB []).col 0:=by decide +kernel
theorem P3:∀ i<4,decide (xD i<0)=false:=by decide +kernel
theorem x_ov (i:Nat)(a:i<4):ia (xB []).pts (xB []).tris (xB []).col (xO i)=0:=by
 obtain⟨h1,h2,h3,_⟩:=Ou i a;unfold ia;rw[aF (by rw[Iu i,x_sh i a];decide),aF (by unfold KD;rw[x_pt i a,IC i a];decide),aF (by rw[Iu i,h1];decide),aF (by rw[Iu i,h2];decide),aF (by
  unfold depB;rw[show(xO i).depth=xX i from rfl,Mc i a,P3 i a,Bool.and_false];decide),aF (by rw[Iu i,h3];decide)]
theorem x_on:∀ i<4,onQ (xB []).pts xFs (0,1,2) (xP i)=10:=by decide +kernel
theorem Ot (i:Nat)(a:i<4):AS (xB []).pts (xB []).tris xFs (xP i)=.tuple #[af (qtx 10),.int .i64 0]:=by
 unfold AS;rw[IC i a];show zh (onQ (xB []).pts xFs (0,1,2) (xP i))=_;rw[x_on i a];unfold zh;rw[aJ (bi aq)]
theorem x_w3:∀ i<4,∀ j<3,QB 22 (wgt (xB []).pts (0,1,2) (xP i) j):=by decide +kernel
theorem x_w (i:Nat)(a:i<4)(j:Nat):QB 22 (wgt (xB []).pts (0,1,2) (xP i) j):=by
 rw[Mg];exact x_w3 i a _ (Rj _ dc_)
theorem x_sl:∀ j,QP 22 (slf (xB []).pts (0,1,2) j):=by
 intro j;unfold slf;rw[IL];rcases(by omega:min j 2=0∨min j 2=1∨min j 2=2) with h|h|h <;> rw[h] <;> decide +kernel
theorem Oy:Good (xB []).pts (xB []).tris:=(G9 aq dc_ dc_ dc_).1
def xW (i:Nat):List Rat:=if i<2 then [1/2,1/2,0] else if i=2 then [1,0,0] else [0,1,0]
def xR (i:Nat):List RowQ:=[⟨xW i,10-xD i⟩,⟨(xW i).map (-1*·), -(10-xD i)⟩]
theorem L4:∀ i<4,((cE (xB []).col (xT i)).flatMap fun k=>[1, -1].map (gV (bs (xB [])) (bp (xB [])) k (atT (0,1,2) (wgt (xB []).pts (0,1,2) (xP i))) (10-xD i)))=xR i:=by decide +kernel
theorem K4 (l:List Nat)(i:Nat)(a:i<4):rowsO (xB l) (xO i) (xP i) (0,1,2) 10=xR i:=by
 unfold rowsO;rw[aF (by show ¬ ((2:Int)=1);decide),aJ (by rfl)];unfold lk;rw[show(xO i).depth=xX i from rfl,Mc i a,Iu i];exact L4 i a
theorem Ow:∀ i<4,∀ r∈xR i,Ol r:=by unfold Ol;decide +kernel
theorem K5 (i:Nat)(a:i<4):∀ r∈xR i,RowI r:=by
 have:∀ i<4,∀ r∈xR i,(r.f.all (wlB 2) && wlB 2 r.b)=true:=by decide +kernel
 exact fun r hr=>Jj 2 dc_ dc_ (this i a r hr)
theorem P2 (i:Nat)(a:i<4):ObsR (xO i):=by
 have:∀ i<4,(xT i).name.length<=9/\(xT i).x.length<=9/\(xT i).y.length<=9/\(xT i).depth.length<=9:=by decide +kernel
 obtain⟨h1,h2,h3,h4⟩:=this i a;rw[Iu i];exact⟨by omega,by omega,by omega,by omega,(by decide:1<=999998),(by decide:1<=999998),(by decide:0<=999998),(by decide:0<=999998),(by decide:0<=999998)⟩
theorem Me {o:Obs}(h:(xB l).obs[k]?=some o):∃ i,l[k]?=some i/\o=xO i:=by
 have a:(l.map xO)[k]?=some o:=h;rw[QD]at a;cases b:l[k]? with
|none=>rw[b]at a;cases a
|some i=>rw[b]at a;exact⟨i,rfl,(R6 a).symm⟩
structure XOk (l:List Nat):Prop where
 lt:∀ i∈l,i<4
 nd:(l.map xN).Nodup
 len:l.length<=4
theorem K7 {l:List Nat}(b:XOk l):∀ n,n<=l.length->vN (xB l) n=0
|0,_=>rfl
|n+1,m=>by
  have d:=K7 b n om_;show(if vN (xB l) n≠0 then vN (xB l) n else obZ (xB l) ((xB l).obs.take n) ((xB l).obs.getD n JQ))=0;rw[aF (by rw[d];decide)];have c:l[n]?=some l[n]:=aj om_;have f:(xB l).obs.getD n JQ=xO l[n]:=Lw (by
   show(l.map xO)[n]?=_;rw[QD,c];rfl)
  rw[f];unfold obZ;rw[aF (by rw[show ia (xB l).pts (xB l).tris (xB l).col (xO l[n])=0 from x_ov _ (b.lt _ (Rv _))];decide),aF fun hm=>?_];obtain⟨o,g,e⟩:=QE.1 hm;obtain⟨j,a⟩:=Sc g;rw[Rs]at a;split at a
  ·rename_i p;obtain⟨i,h,rfl⟩:=Me a;have k:xN i=xN l[n]:=e;have h1:(l.map xN)[j]?=some (xN l[n]):=by rw[QD,h];exact congrArg some k
   have h2:(l.map xN)[n]?=some (xN l[n]):=by rw[QD,c];rfl
   have:=(List.getElem?_inj (by rw[ar];omega) b.nd).1 (h1.trans h2.symm);omega
  cases a
theorem oL (l:List Nat):(xB l).obs.length=l.length:=by simp[xB]
theorem P8 (a:XOk l):iH (xB l)=0:=by
 unfold iH;have:=a.len;rw[aF (by show ¬ (nR (xB []).pts.length (xB []).terr≠0);decide +kernel),aF (by show ¬ (rK (xB []).col≠0);decide +kernel),aF (by rw[oL];omega),oL];exact K7 a _ (Qz _)
theorem P9 (b:XOk l):BookR (xB l):=by
 refine⟨by show ∀ x∈(xB []).terr,_;decide, ?_,by show(xB []).col.length<=_;decide,fun o c=>?_⟩
 ·intro x a;simp only[xB,QQ,RJ,S5]at a;rcases a with rfl|rfl
  ·exact⟨by decide +kernel,fun q h=>by simp at h,by decide⟩
  exact⟨by decide +kernel,fun q h=>by simp at h,by decide⟩
 obtain⟨k,d⟩:=Sc c;obtain⟨i,e,rfl⟩:=Me d;exact P2 i (b.lt i (aX e))
theorem OA (l:List Nat)(i:Nat)(a:i<4):Fine (xB l) xFs (xO i) (xP i) 0 (0,1,2) 10:=by
 obtain⟨f,b,c,d,e⟩:=K6 i a;refine⟨⟨Z,Z,e,⟨bi b,bi c⟩,fun _=>P6 i a⟩,⟨[],IC i a⟩,Z,Ot i a,by decide +kernel, ?_,x_w i a, ?_,x_sl,fun _ h=>absurd Z h, ?_⟩
 ·unfold lk;rw[aJ (by rfl),show(xO i).depth=xX i from rfl,Mc i a];exact d
 ·exact(Ou i a).2.2.2
 rw[K4 l i a];exact Ow i a
theorem Ov (l:List Nat):Terr (xB l) xFs:=⟨by simp[xB,xFs,O9],rfl,by decide +kernel⟩
def xRO (l:List Nat)(k:Nat):List RowQ:=xR (l.getD k 0)
theorem yI (b:XOk l):Calm (xB l) xFs (xRO l):=by
 have c:∀ k,k<l.length->l.getD k 0<4:=fun k d=>by
  rw[am,aj d];exact b.lt _ (Rv _)
 have h4:=b.len;refine⟨⟨Oy,P9 b,P8 b,Ov l,(by decide:3<=60),fun k o e=>?_⟩,(by decide:3<=12),fun r hr=>?_,fun i a=>K5 _ (c i (by rw[oL]at a;exact a)), ?_,fun i a=>(by show 2<=8;decide),by rw[oL];omega⟩
 ·obtain⟨i,a,rfl⟩:=Me e;have h1:=b.lt i (aX a);refine⟨_,_,_,_,OA l i h1, ?_⟩;rw[K4 l i h1,xRO,am,a];rfl
 ·have:bI (xB l)=[]:=rfl;rw[this]at hr;cases hr
 have:bI (xB l)=[]:=rfl;rw[this];decide
theorem ok0:XOk [0]:=⟨by decide,by decide,by decide⟩
theorem ok01:XOk [0,1]:=⟨by decide,by decide,by decide⟩
theorem ok23:XOk [2,3]:=⟨by decide,by decide,by decide⟩
theorem rows0:dP (xB [0]) (xRO [0])=xR 0:=by rw[dP,gU,oL];rfl
theorem OZ:dP (xB [0,1]) (xRO [0,1])=xR 0++xR 1:=by rw[dP,gU,oL];rfl
theorem OY:dP (xB [2,3]) (xRO [2,3])=xR 2++xR 3:=by rw[dP,gU,oL];rfl
theorem P4:Lp.Val (ci 3 (eO (xR 0))) (fun j=>([1/2,1/2,0]:List Rat).getD j 0) 1 6:=by
 refine .inl ⟨Z,⟨fun _=>6,gQ.2 aq,by decide +kernel⟩,fun y hy=>?_⟩;have h1:=gQ.1 hy ⟨[-1/2, -1/2,0], -6⟩ aq;show _<=Lp.sumN _ 3;simp only[Lp.sumN,am,List.getElem?_cons_zero,So,RT]at h1⊢;grind
theorem Ox:Lp.Val (ci 3 (eO (xR 0))) (fun j=>([-1/2, -1/2,0]:List Rat).getD j 0) 1 (-6):=by
 refine .inl ⟨Z,⟨fun _=>6,gQ.2 aq,by decide +kernel⟩,fun y hy=>?_⟩;have h1:=gQ.1 hy ⟨[1/2,1/2,0],6⟩ aq;show _<=Lp.sumN _ 3;simp only[Lp.sumN,am,List.getElem?_cons_zero,So,RT]at h1⊢;grind
theorem x_no:¬ (ci 3 (eO (xR 0++xR 1))).Hold:=by
 rintro ⟨y,hy⟩;have h1:=gQ.1 hy ⟨[-1/2, -1/2,0], -6⟩ aq;have h2:=gQ.1 hy ⟨[1/2,1/2,0],5⟩ aq;simp only[Lp.sumN,am,List.getElem?_cons_zero,So,RT]at h1 h2;grind
def es3:List (Nat × Nat):=[(0,1),(0,2),(1,2)]
theorem Px:EdgL [(0,1,2)] es3:=by
 refine⟨by simp[es3,ltP],fun e=>?_⟩;rw[show bO [(0,1,2)]=[(0,1),(1,2),(2,0)] from rfl];obtain⟨x,y⟩:=e;simp only[es3,QQ,RJ,S5,SQ];omega
theorem Pw:EdgeOk 1 3 es3:=⟨by decide⟩
theorem Oz:Lp.Val (ci (1*3+1*es3.length) (eO (yY (xR 2++xR 3) (1*3) 3 es3 (1*es3.length)))) (fun j=>(mZ (1*3) (1*es3.length)).getD j 0) 1 6:=by
 refine .inl ⟨Z,⟨fun j=>([6,9,6,3,0,3]:List Rat).getD j 0,gQ.2 aq,by decide +kernel⟩,fun y hy=>?_⟩;obtain⟨h0,h2⟩:=(Lh Pw aq).1 hy;have h1:=gQ.1 h0 ⟨[1,0,0],6⟩ aq;have h3:=gQ.1 h0 ⟨[0, -1,0], -9⟩ aq;have k0:=yy.1 (h2 0 dc_);have k1:=yy.1 (h2 1 dc_);have k2:=yy.1 (h2 2 dc_);rw[show Oj 3 es3 y 0=y 0-y 1 from rfl]at k0;rw[show Oj 3 es3 y 1=y 0-y 2 from rfl]at k1;rw[show Oj 3 es3 y 2=y 1-y 2 from rfl]at k2;rw[show Lp.sumN (fun j=>(mZ (1*3) (1*es3.length)).getD j 0*y j) (ci (1*3+1*es3.length) (eO (yY (xR 2++xR 3) (1*3) 3 es3 (1*es3.length)))).n=_ from Gs (h:=1*3) (more:=1*es3.length)];show _<=Lp.sumN (fun k=>y (3+k)) 3;simp only[SV,Lp.sumN,am,List.getElem?_cons_zero,So,RT,Sh,Nat.reduceAdd]at h1 h3 k0 k1 k2⊢;grind
abbrev tq (q:Rat):Value:=af (qtx q)
theorem tV (l:List Rat):(l.map aQ).flatten=l.map tq:=eE tq l
theorem ft {l:List Rat}(h:i<l.length):aD (l.map tq) [tq x] i=(l.set i x).map tq:=by
 rw[List.set_eq_take_append_cons_drop,aJ h];unfold aD;simp[List.map_drop]
theorem Lj (n:Nat):List.replicate n (af [48])=(List.replicate n (0:Rat)).map tq:=by rw[lL,tV]
def jF (n a:Nat)(t:Tri)(w:Nat->Rat):Nat->List Rat
|0=>List.replicate n 0
|j+1=>(jF n a t w j).set (a+dw t j) (w j)
theorem ef (n a:Nat)(t:Tri)(w:Nat->Rat):∀ j,(jF n a t w j).length=n
|0=>Rb
|j+1=>by rw[jF,Ru,ef n a t w j]
theorem IF (C:Mem)(k:Tabs C)(f:Value)(B:Bk)(L:List Rat)(M:Nat->List RowQ)(s:Nat)(p:Pt)(i:Nat)(r:List Nat)(t:Tri)(b:BookIn C f B)(h:Calm B L M)(N:s<bs B)(x:QP 23 p)(y:PtR p)
  (O:jU B.pts B.tris p=i::r) (l:B.tris[i]?=some t) (Q:∀ j,QB 22 (wgt B.pts t p j)) :
  Pur cx.P 59 [f,.int .i64 s,ptV p] C fun u D=>∃ v,u=.tuple #[v,.int .i64 0]/\Sl D 1 v ((jF (bs B*bp B) (s*bp B) t (wgt B.pts t p) 3).map aQ):=by
 have S:=b;have o:=h.rich.good;have T:=h.rich.bookz k b;have U:=h.n12;have V:=o.ok.ins t (aX l);have q:∀ D:Mem,C.le D->Gives cx.P 92 [f] D (.tuple #[.int .i64 (bs B*bp B:Nat),.int .i64 0]):=fun D W=>by
  have h:=zN D f B 0 (T.mono W) om_;rw[aJ rfl]at h;exact h
 obtain⟨z,A,tv,cv,ov,rfl,h1,h2,h3,h4,h5⟩:=id b.ex;have hm:MeshIn C (.agg ⟨[z,A]⟩) B.pts B.tris:=⟨z,A,rfl,h1,h2⟩;obtain⟨A1,c1,rfl,X,_⟩:=id h1;obtain⟨A2,c2,rfl,Y,_⟩:=id h2;have aa:(B.pts.map gl).length=bp B:=ar _;have ab:(B.tris.map iu).length=B.tris.length:=ar _;simp only[aa,ab]at h1 X h2 Y hm S q⊢;have al:maxLen<=9223372036854775807:=by simp[maxLen]
 obtain⟨n,E⟩:∃ n,bs B*bp B=n:=⟨_,rfl⟩;have c:∀ j,s*bp B+dw t j<n:=fun j=>by rw[<- E];exact Ca N (eo V j)
 rw[E]at q U⊢;have am:=c 0;have an:=c 1;have ao:=c 2;refine Ur func59 78 U3 fun w0=>?_;refine Ul fun R a=>?_;refine UC U6 (fun b3=>?_);refine UC U6 (fun b5=>?_);refine C6 2 [1,3,5] a Z ?_;clear a R;refine G.freeze 1 Z (fun _ _ d=>?_);refine G.freeze 0 Z (fun _ _ F=>?_);refine Ul fun R a=>?_;refine Uj (bkT d 5) U8 ?_;refine Ut (q _ mup) U7 ?_;refine C6 5 [1,3,5,8,9] a Z ?_;clear a R;refine Uh 2 [1,3,5,8,9,21] Z ?_;refine G.cd (fun H=>?_) fun H=>?_
 ·exact absurd H dc_
 refine Ui 1 Z fun R a=>?_;refine Uj (bkT d 2) U8 ?_;refine Uj (bkT F 2) U8 ?_;refine UR (lY _ k.m_ _ B.pts B.tris p hm.m_ o x y) U7 (fun aq _ _ ac=>?_);obtain⟨wv,rfl,g⟩:=ac;rw[O]at g;obtain⟨Aw,cw,rfl,_⟩:=id g;refine C6 5 [1,3,5,8,9,10] a Z ?_;clear a R;refine Uh 2 [1,3,5,8,9,10,31] Z ?_;refine G.cd (fun I=>?_) fun I=>?_
 ·exact absurd I dc_
 refine Uh 3 [1,3,5,8,10,35] Z ?_;refine G.cd (fun J=>?_) fun J=>?_
 ·exact absurd (PZ J) ap
 refine UD [0,1,2,3,4,5,6,7,8,9,10,11,12] [(6,1)] Z kr_ (fun R b a=>?_);refine Uk U6 ?_;refine Uj (bkT d 2) U8 ?_;refine Uk U6 ?_;refine Uy g.m_ U10 om_ (rfl:(List.map aT (i::r))[0]?=some (aT i)) fl_ (fun au ad=>?_);refine Uj ad U8 ?_;refine Uj (bkT F 2) U8 ?_;refine US (fun _=>(wE _ k.m_ _ B.pts B.tris p i t hm.m_ o x y l Q)) U9 ?_;refine Um 3 Z ?_;refine UB U5 (fun ae=>?_);refine Us (j:=0) U12 ?_;refine Uk U6 ?_;refine Un [1,3,8,9,10,11] a Z ?_;clear a b R;refine Uh 2 [1,3,8,9,10,11,47] Z ?_;refine G.cd (fun K=>?_) fun K=>?_
 ·exact absurd K dc_
 refine UI [(1,3)] Z (fun R a=>?_);refine Uk U6 ?_;refine D.call (mg _ n om_) Z (.inr dc_) U6 (QI _) fl_ (fun av _ aw _ af=>?_);refine C6 1 [1,3,10,11,12] a Z ?_;clear a R;obtain⟨bz,rfl,rfl⟩:=af;refine G.freeze 1 Z (fun _ _ w=>?_);refine UD [0,1,2,3,4,5,6,7,8] [] Z kr_ (fun R b a=>?_);refine Um 2 Z ?_;refine Uj (bkT d 1) U8 ?_;refine Uk U6 ?_;refine Uy g.m_ U10 om_ (rfl:(List.map aT (i::r))[0]?=some (aT i)) fl_ (fun ax ag=>?_);refine Uj ag U8 ?_;refine Uy h2.m_ U10 om_ (by rw[QD,l];rfl:(B.tris.map iu)[i]?=some (iu t)) fl_ (fun ay ai=>?_);refine Uj ai U8 ?_;refine Uk U6 ?_;refine Un [1,3,11,12,58,59] a Z ?_;clear a b R;refine Uz (L':=[.arr (.slice (some ⟨bz,0,none⟩) n n) 32 1 n ((jF n (s*bp B) t (wgt B.pts t p) 0).map tq)]) (by rw[Lj];rfl) ?_;refine G.loop (fun fr C' e μ=>∃ (j:Nat),(j<=3)/\fr=[(1,[],.int .i64 s),(3,[],.pointer (some ⟨b3,0,none⟩)),(11,[],.pointer (some ⟨ae,0,none⟩)),(12,[],.slice (some ⟨bz,0,none⟩) n n),(58,[],.agg ⟨iu t⟩),(59,[],.int .i64 j)]/\e=[.arr (.slice (some ⟨bz,0,none⟩) n n) 32 1 n ((jF n (s*bp B) t (wgt B.pts t p) j).map tq)]/\μ=3-j) (hn_ [1,3,11,12,58,59] Z) ⟨0,QH _,Z,Z,Z⟩ (fun fr az aA m _ hI=>?_);obtain⟨j,hj,rfl,rfl,rfl⟩:=hI;refine Uh 1 [1,3,11,12,58,59,60] Z ?_;refine G.cd (fun h60=>?_) fun h60=>?_
 ·have aB:j<3:=by
   have:=PZ h60;omega
  rcases(by omega:j=0∨j=1∨j=2) with rfl|rfl|rfl
  ·refine Ui 1 Z fun R a=>?_;refine Vj U11 (fun _=>⟨by omega,by omega,(show(iu t)[((0:Nat):Int).toNat]?=some (.int .i64 ((dw t 0:Nat):Int)) from by rw[<- Bb];exact qI t dc_)⟩) U2 ?_;refine C6 2 [1,3,11,12,13,14,58,59] a Z ?_;clear a R;refine UD [0,1,2,3,4,5,6,7,8,9,10,11,12,13] [] Z kr_ (fun R b a=>?_);refine Um 4 Z ?_;refine Uj (bkT d 1) U8 ?_;refine Uk U6 ?_;refine Uq (((s*bp B:Nat):Int)) (Ra _ _) U6 ?_;refine Uk U6 ?_;refine UQ (((s*bp B+dw t 0:Nat):Int)) U4 om_ om_ om_ U2 ?_;refine Uk U6 ?_;refine UE (0) U9 ah U2 ?_;refine Uj (bkT w 1) U8 ?_;refine UL ((s*bp B+dw t 0)) U10 (fun _=>⟨by omega,by omega,(RY _).symm⟩) U2 ?_;refine UO (j:=0) U11 (by rw[ar,ef];have:=c 0;simp;omega) ?_;refine Un [1,3,11,12,58,59] a Z ?_;clear a b R;refine Ul fun R a=>?_;refine Uq _ Z U6 ?_;refine C6 1 [1,3,11,12,58,59] a Z ?_;clear a R;refine Uz (L':=[.arr (.slice (some ⟨bz,0,none⟩) n n) 32 1 n ((jF n (s*bp B) t (wgt B.pts t p) 1).map tq)]) (by rw[ft (by rw[ef];exact c 0)];rfl) ?_;refine Uw (m':=2) om_ mup (hn_ [1,3,11,12,58,59] Z) ⟨1,by decide,Z,Z,Z⟩
  ·refine Ui 1 Z fun R a=>?_;refine Vj U11 (fun _=>⟨by omega,by omega,(show(iu t)[((1:Nat):Int).toNat]?=some (.int .i64 ((dw t 1:Nat):Int)) from by rw[<- Bb];exact qI t dc_)⟩) U2 ?_;refine C6 2 [1,3,11,12,13,14,58,59] a Z ?_;clear a R;refine UD [0,1,2,3,4,5,6,7,8,9,10,11,12,13] [] Z kr_ (fun R b a=>?_);refine Um 4 Z ?_;refine Uj (bkT d 1) U8 ?_;refine Uk U6 ?_;refine Uq (((s*bp B:Nat):Int)) (Ra _ _) U6 ?_;refine Uk U6 ?_;refine UQ (((s*bp B+dw t 1:Nat):Int)) U4 om_ om_ om_ U2 ?_;refine Uk U6 ?_;refine UE (1) U9 ah U2 ?_;refine Uj (bkT w 1) U8 ?_;refine UL ((s*bp B+dw t 1)) U10 (fun _=>⟨by omega,by omega,(RY _).symm⟩) U2 ?_;refine UO (j:=0) U11 (by rw[ar,ef];have:=c 1;simp;omega) ?_;refine Un [1,3,11,12,58,59] a Z ?_;clear a b R;refine Ul fun R a=>?_;refine Uq _ Z U6 ?_;refine C6 1 [1,3,11,12,58,59] a Z ?_;clear a R;refine Uz (L':=[.arr (.slice (some ⟨bz,0,none⟩) n n) 32 1 n ((jF n (s*bp B) t (wgt B.pts t p) 2).map tq)]) (by rw[ft (by rw[ef];exact c 1)];rfl) ?_;refine Uw (m':=1) om_ mup (hn_ [1,3,11,12,58,59] Z) ⟨2,by decide,Z,Z,Z⟩
  refine Ui 1 Z fun R a=>?_;refine Vj U11 (fun _=>⟨by omega,by omega,(show(iu t)[((2:Nat):Int).toNat]?=some (.int .i64 ((dw t 2:Nat):Int)) from by rw[<- Bb];exact qI t dc_)⟩) U2 ?_;refine C6 2 [1,3,11,12,13,14,58,59] a Z ?_;clear a R;refine UD [0,1,2,3,4,5,6,7,8,9,10,11,12,13] [] Z kr_ (fun R b a=>?_);refine Um 4 Z ?_;refine Uj (bkT d 1) U8 ?_;refine Uk U6 ?_;refine Uq (((s*bp B:Nat):Int)) (Ra _ _) U6 ?_;refine Uk U6 ?_;refine UQ (((s*bp B+dw t 2:Nat):Int)) U4 om_ om_ om_ U2 ?_;refine Uk U6 ?_;refine UE (2) U9 ah U2 ?_;refine Uj (bkT w 1) U8 ?_;refine UL ((s*bp B+dw t 2)) U10 (fun _=>⟨by omega,by omega,(RY _).symm⟩) U2 ?_;refine UO (j:=0) U11 (by rw[ar,ef];have:=c 2;simp;omega) ?_;refine Un [1,3,11,12,58,59] a Z ?_;clear a b R;refine Ul fun R a=>?_;refine Uq _ Z U6 ?_;refine C6 1 [1,3,11,12,58,59] a Z ?_;clear a R;refine Uz (L':=[.arr (.slice (some ⟨bz,0,none⟩) n n) 32 1 n ((jF n (s*bp B) t (wgt B.pts t p) 3).map tq)]) (by rw[ft (by rw[ef];exact c 2)];rfl) ?_;refine Uw (m':=0) om_ mup (hn_ [1,3,11,12,58,59] Z) ⟨3,by decide,Z,Z,Z⟩
 have aj:j=3:=by
  have:=QF h60;omega
 subst aj;refine Uh 3 [6,7] Z ?_;rw[<- tV];refine G.freezeArr 0 ((jF n (s*bp B) t (wgt B.pts t p) 3).map aQ) Z Z bU (by rw[ar,ef]) (fun Cf aC ak=>?_);refine Uv (G.dropAll (UH U3 ?_));exact⟨Z,_,Z,ak⟩
theorem wo {A B:List Value}{x:Value}(h:A.length=j):aD (A++x::B) [v] j=A++v::B:=by
 subst h;unfold aD;rw[List.take_left,QA];have:List.drop (A.length+1) (A++x::B)=B:=by rw[Tq];simp
 rw[this];simp
theorem F6 (C:Mem)(G:Tabs C)(n:Nat)(l d:Value)(b:List (List Rat × Rat))(a:List Rat)(H:RowsT C l (b.map fW))(I:RowsQ n b)(J:∀ x∈a,QB 22 x)(K:∀ r∈b,(∀ x∈r.1,QB 22 x)/\QB 22 r.2)(M:n<=60)(z:a.length=n)(N:Lp.Lim (ci n b) (fun j=>a.getD j 0) 20) :
  Jog.Fn cx.P 21 [.agg ⟨[.int .i64 n,l,d]⟩] C [.arr d 32 1 n (a.map tq)] fun u _ g=>(∃ (kd:Int)(v:Rat)(i:Str)(o:Option Addr)(n1 p:Nat)(A2:Option Addr)(n2 c2:Nat)(q:Option Addr)(t w:Nat),
   u=.tuple #[.agg ⟨[.int .i64 kd,af i,.slice o n1 p,.slice A2 n2 c2,.slice q t w]⟩,.int .i64 0]/\(kd=1->i=qtx v)/\Lp.Val (ci n b) (fun j=>a.getD j 0) kd v/\QB 20 v)/\g=[.arr d 32 1 n (a.map tq)]:=by
 have h1:=VK (P:=cx.P) (f:=21) (args:=[.agg ⟨[.int .i64 n,l,d]⟩]) (C:=C) (L:=[]) (v:=d) (e:=32) (s:=1) (m:=n) (rows:=a.map aQ)
  (post:=fun u g=>g=[]/\∃ (kd:Int)(v:Rat)(i:Str)(o:Option Addr)(n1 p:Nat)(A2:Option Addr)(n2 c2:Nat)(q:Option Addr)(t w:Nat),
   u=.tuple #[.agg ⟨[.int .i64 kd,af i,.slice o n1 p,.slice A2 n2 c2,.slice q t w]⟩,.int .i64 0]/\(kd=1->i=qtx v)/\Lp.Val (ci n b) (fun j=>a.getD j 0) kd v/\QB 20 v) kr_ bU (by rw[ar,z]) fun D B hs=>by
  refine Fn.mono (F7 D (G.mono B) n l d b a (H.mono B) hs I J K M z N) fun u E g _ ⟨h0,r,h1,h2⟩=>⟨h0, ?_⟩;subst h1;cases h2 with
 |opt val pt du O Q F k y =>
   obtain⟨A,c,rfl,_⟩:=id k;obtain⟨A2,c2,rfl,_⟩:=id y;exact⟨1,val,_,_,_,_,_,_,_,_,_,_,Z,fun _=>rfl,F.val,F.qv⟩
 |inf du Q R k =>
   obtain⟨A,c,rfl,_⟩:=id k;exact⟨2,0,_,_,_,_,_,_,_,_,_,_,Z,fun h=>absurd h dc_,R.val 0,QB_zero.le dc_⟩
 |unb pt ra O T S k y =>
   obtain⟨A,c,rfl,_⟩:=id k;obtain⟨A2,c2,rfl,_⟩:=id y;exact⟨3,0,_,_,_,_,_,_,_,_,_,_,Z,fun h=>absurd h dc_,S.val 0,QB_zero.le dc_⟩
 rw[tV]at h1;exact Fn.mono h1 fun u E U _ ⟨g,h2,h3,h4⟩=>⟨h4,by rw[h2,h3]⟩
def oh (k:Nat):Rat:=if k=0 then 1 else -1
def qe (kd:Int)(v:Rat):Str:=if kd=1 then qtx (1*v) else []
def fP (kd:Int)(v:Rat):Str:=if kd=1 then qtx (-1*v) else []
def sgL (c:List Rat)(k:Nat):List Rat:=c.map (oh k*·)
def Ih (p:Lp.Sys)(c:List Rat)(u:Value):Prop:=∃ (kd1:Int)(v1:Rat)(kd2:Int)(v2:Rat),(QB 20 v1/\QB 20 v2)/\Lp.Val p (fun j=>(sgL c 0).getD j 0) kd1 v1/\(kd1≠2->Lp.Val p (fun j=>(sgL c 1).getD j 0) kd2 v2) /\
 ((kd1=2/\u=.tuple #[af [],af [],.int .i64 22])∨(kd1≠2/\u=.tuple #[af (qe kd1 v1),af (fP kd2 v2),.int .i64 0]))
theorem II {p:Lp.Sys}{d:Nat->Rat}{c:Int}{v w:Rat}(h:Lp.Val p cc kd v)(k:Lp.Val p d c w)(f:kd≠2):c≠2:=by
 intro e;have b:¬ p.Hold:=by
  rcases k with⟨a,_⟩|⟨_,b⟩|⟨a,_⟩
  ·rw[a]at e;cases e
  ·exact b
  rw[a]at e;cases e
 rcases h with⟨_,⟨y,hy,_⟩,_⟩|⟨a,_⟩|⟨_,hh,_⟩
 ·exact b ⟨y,hy⟩
 ·exact f a
 exact b hh
theorem FW:qtx (-1)=[45,49]:=gY (z:=-1) aq
theorem sgns:[[af [49]],[af [45,49]]]=([1, -1]:List Rat).map aQ:=by
 show _=[[af (qtx 1)],[af (qtx (-1))]];rw[MW,FW]
theorem Lf (a:k<2):([1, -1]:List Rat)[k]?=some (oh k):=by
 rcases(by omega:k=0∨k=1) with rfl|rfl <;> rfl
theorem Bw (k:Nat):QB 22 (oh k):=by
 unfold oh;split
 ·decide +kernel
 decide +kernel
abbrev sO2 (A:Option Addr)(n c:Nat):Value:=.slice A n c
theorem qu (C:Mem)(H:Tabs C)(Q:Value)(B:Bk)(M:List Rat)(o:Nat->List RowQ)(s:Nat)(p:Pt)(i:Nat)(r:List Nat)(t:Tri)(x0:Str)(v:BookIn C Q B)(h:Calm B M o)(hs:s<bs B)(hq:QP 23 p)(hr:PtR p)
  (hl:jU B.pts B.tris p=i::r) (ht:B.tris[i]?=some t) (S:∀ j,QB 22 (wgt B.pts t p j)) (hv:AS B.pts B.tris M p=.tuple #[af x0,.int .i64 0])
  (T:∀ k,k<2->Lp.Lim (nI B o) (fun j=>(sgL (jF (bs B*bp B) (s*bp B) t (wgt B.pts t p) 3) k).getD j 0) 20) :
  Pur cx.P 14 [Q,.int .i64 s,ptV p] C fun u _=>Ih (nI B o) (jF (bs B*bp B) (s*bp B) t (wgt B.pts t p) 3) u:=by
 have aH:=v;have hG:=h.rich.good;have aI:=h.n12;have hS:=dD B.obs.length;have ao:=h.rowsQ hS;have aJ:=h.q22 hS;have U:=h.rich.terr;obtain⟨b,Y⟩:∃ b,jF (bs B*bp B) (s*bp B) t (wgt B.pts t p) 3=b:=⟨_,rfl⟩;have J:b.length=bs B*bp B:=by rw[<- Y];exact ef _ _ _ _ _
 have aa:∀ x∈b,QB 22 x:=fun x c=>by
  rw[<- Y]at c;simp only[jF]at c;rcases RS c with c|rfl
  ·rcases RS c with c|rfl
   ·rcases RS c with c|rfl
    ·rw[(List.mem_replicate.1 c).2];exact QB_zero.le dc_
    exact S 0
   exact S 1
  exact S 2
 have ab:=fun(D:Mem)(z:C.le D)=>IF D (H.mono z) Q B M o s p i r t (v.mono z) h hs hq hr hl ht S;rw[Y]at ab T⊢;have ac:=fun(D:Mem)(z:C.le D)=>kV D (H.mono z) Q B M o (v.mono z) h;unfold nI at T⊢;obtain⟨n,hn⟩:∃ n,bs B*bp B=n:=⟨_,rfl⟩;rw[hn]at J aI ao ac T⊢;obtain⟨v1,v2,tv,cv,ov,rfl,h1,h2,h3,h4,h5⟩:=id v.ex;have hm:MeshIn C (.agg ⟨[v1,v2]⟩) B.pts B.tris:=⟨v1,v2,rfl,h1,h2⟩;rw[U.e,<- iv]at h3;have aq:=fun(D:Mem)(z:C.le D)=>tR D (H.mono z) (.agg ⟨[v1,v2]⟩) tv B.pts B.tris M 22 dc_ dc_ (hm.mono z) hG (h3.mono z) U.l U.q (Lb U) p hq hr;rw[hv]at aq;obtain⟨A4,c4,rfl,aK,_⟩:=id h4;have aL:(B.col.map xY).length=bs B+1:=by rw[ar];have:=h.rich.scol.1;omega
 simp only[aL]at h4 aK aH ab ac⊢;have a1:maxLen<=9223372036854775807:=by simp[maxLen]
 refine Ur func14 110 U3 fun w0=>?_;refine Ul fun R a=>?_;refine UC U6 (fun b3=>?_);refine UC U6 (fun b5=>?_);refine C6 3 [1,3,5] a Z ?_;clear a R;refine G.freeze 1 Z (fun _ _ N=>?_);refine G.freeze 0 Z (fun _ _ au=>?_);refine UI [(1,3)] Z (fun R a=>?_);refine Uj (bkT N 5) U8 ?_;refine D.call (ac _ mup) Z (.inr dc_) U6 (QI _) fl_ (fun a2 aM a3 _ aN=>?_);obtain⟨Ar,cr,A,vs,rfl,av,rfl⟩:=aN;refine Um 3 Z ?_;refine UB U5 (fun b9=>?_);refine Us (j:=0) U12 ?_;refine C6 1 [1,3,5,8,9] a Z ?_;clear a R;refine Uh 2 [1,3,5,8,9,26] Z ?_;refine G.cd (fun aw=>?_) fun aw=>?_
 ·exact absurd aw dc_
 refine Ui 5 Z fun R a=>?_;refine UM U6 (fun _=>PtrTo.blockT (Mem.get N mup) _ 1) U3 ?_;refine Uk U6 ?_;refine Uq _ Z U6 ?_;refine Uk U6 ?_;refine UN U8 ?_;refine Un [1,3,5,9,37] a Z ?_;clear a R;refine G.cd (fun ax=>?_) fun ax=>?_
 ·exact absurd ax ap
 refine Ui 1 Z fun R a=>?_;refine Uj (bkT N 2) U8 ?_;refine Uk U6 ?_;refine Uj (bkT N 1) U8 ?_;refine Uj (bkT au 2) U8 ?_;refine Ut (aq _ mup) U7 ?_;refine C6 5 [1,3,5,9,11] a Z ?_;clear a R;refine Uh 2 [1,3,5,9,11,48] Z ?_;refine G.cd (fun ay=>?_) fun ay=>?_
 ·exact absurd ay dc_
 refine Ul fun R a=>?_;refine Uj (bkT N 5) U8 ?_;refine Uk U6 ?_;refine Uj (bkT au 2) U8 ?_;refine UR (ab _ mup) U7 (fun a4 _ _ aO=>?_);obtain⟨uv,rfl,ad⟩:=aO;obtain⟨Au,cu,rfl,_⟩:=id ad;simp only[ar,J]at ad⊢;refine C6 5 [8,9,12] a Z ?_;clear a R;refine Uh 2 [8,9,12,58] Z ?_;refine G.cd (fun az=>?_) fun az=>?_
 ·exact absurd az dc_
 refine Ul fun R a=>?_;refine UB U5 (fun f=>?_);refine Un [9,12,13] a Z ?_;clear a R;refine G.freezeArr 2 (aC vs (dP B o)) Z Z (bZ _ _) (by rw[bN av.1]) (fun _ _ aP=>?_);refine G.freeze 1 Z (fun aR _ aA=>?_);have aS:=ue (RowsOk.m_ av) (aP.mono mup:Sl aR 2 _ _);refine Ul fun R a=>?_;refine Ve [[af [49]],[af [45,49]]] U12 fl_ (fun aB _ _ aD=>?_);refine C6 2 [9,12,13,60,61,62] a Z ?_;clear a R;rw[sgns]at aD;refine G.perm (L':=[.arr (sO2 (some ⟨A,0,none⟩) n n) 32 1 n (List.replicate n (af [48])),.obj f (.cells ⟨[af (if 0<0 then qe 0 0 else []),af (if 1<0 then fP 0 0 else [])]⟩ 144 (0,0))]) (pkL [1,0] Z) ?_;refine G.loop (fun fr C' g μ=>∃ (k:Nat)(xs:List Value)(d:Int)(w1:Rat)(F:Int)(E:Rat),(k<=2/\xs.length=n/\(QB 20 w1/\QB 20 E)/\(0<k->Lp.Val (ci n (eO (dP B o))) (fun j=>(sgL b 0).getD j 0) d w1/\d≠2)/\(1<k->Lp.Val (ci n (eO (dP B o))) (fun j=>(sgL b 1).getD j 0) F E))/\fr=[(9,[],.pointer (some ⟨b9,0,none⟩)),(12,[],.slice Au n cu),(13,[],.pointer (some ⟨f,0,none⟩)),(60,[],.slice (some ⟨aB,0,none⟩) 2 2),(61,[],.int .i64 2),(62,[],.int .i64 k)]/\g=[.arr (sO2 (some ⟨A,0,none⟩) n n) 32 1 n xs,.obj f (.cells ⟨[af (if 0<k then qe d w1 else []),af (if 1<k then fP F E else [])]⟩ 144 (0,0))]/\μ=2-k) (hn_ [9,12,13,60,61,62] Z) ⟨0,List.replicate n (af [48]),0,0,0,0,⟨QH _,Rb,⟨QB_zero.le dc_,QB_zero.le dc_⟩,fun h=>absurd h om_,fun h=>absurd h om_⟩,Z,Z,Z⟩ (fun fr a5 a6 m _ hI=>?_);obtain⟨k,xs,d,w1,F,E,⟨hk,a7,ag,K,aT⟩,rfl,rfl,rfl⟩:=hI;refine Uh 1 [9,12,13,60,61,62,63] Z ?_;refine G.cd (fun ai=>?_) fun ai=>?_
 ·have V:k<2:=by
   have:=PZ ai;omega
  refine Ui 1 Z fun R a=>?_;refine Uy aD.m_ U10 om_ (by rw[QD,Lf V];rfl:(([1, -1]:List Rat).map aQ)[k]?=some (aQ (oh k))) fl_ (fun a8 aU=>?_);refine Uj aU U8 ?_;refine C6 2 [9,12,13,14,15,60,61,62] a Z ?_;clear a R;refine Uh 3 [9,12,13,14,15,60,61,62,67,68,69] Z ?_;refine Uz (L':=[.arr (sO2 (some ⟨A,0,none⟩) n n) 32 1 n (((b.take 0).map fun x=>tq (oh k*x))++xs.drop 0),.obj f (.cells ⟨[af (if 0<k then qe d w1 else []),af (if 1<k then fP F E else [])]⟩ 144 (0,0))]) al ?_;refine G.loop (fun fr C' g μ=>∃ (j:Nat),(j<=n)/\fr=[(9,[],.pointer (some ⟨b9,0,none⟩)),(12,[],.slice Au n cu),(13,[],.pointer (some ⟨f,0,none⟩)),(14,[],.int .i64 k),(15,[],af (qtx (oh k))),(60,[],.slice (some ⟨aB,0,none⟩) 2 2),(61,[],.int .i64 2),(62,[],.int .i64 k),(67,[],.slice Au n cu),(68,[],.int .i64 n),(69,[],.int .i64 j)]/\g=[.arr (sO2 (some ⟨A,0,none⟩) n n) 32 1 n (((b.take j).map fun x=>tq (oh k*x))++xs.drop j),.obj f (.cells ⟨[af (if 0<k then qe d w1 else []),af (if 1<k then fP F E else [])]⟩ 144 (0,0))]/\μ=n-j) (hn_ [9,12,13,14,15,60,61,62,67,68,69] Z) ⟨0,QH _,Z,Z,Z⟩ (fun fr a9 ba m _ hI=>?_);obtain⟨j,hj,rfl,rfl,rfl⟩:=hI;refine Uh 1 [9,12,13,14,15,60,61,62,67,68,69,70] Z ?_;refine G.cd (fun ak=>?_) fun ak=>?_
  ·have aE:j<n:=by
    have:=PZ ak;omega
   obtain⟨x,c⟩:∃ x,b[j]?=some x:=⟨b[j]'om_,aj om_⟩;have aV:xs.drop j=xs[j]'om_::xs.drop (j+1):=Q0 om_;have aF:((b.take j).map fun x=>tq (oh k*x)).length=j:=by rw[ar,QO];omega
   refine Ui 1 Z fun R a=>?_;refine Uy ad.m_ U10 om_ (by rw[QD,c];rfl:(b.map aQ)[j]?=some (aQ x)) fl_ (fun bb aW=>?_);refine Uj aW U8 ?_;refine C6 2 [9,12,13,14,15,16,17,60,61,62,67,68,69] a Z ?_;clear a R;refine UD [0,1,2,3,4,5,6,7] [(5,1),(1,0)] Z kr_ (fun R v a=>?_);refine Uk U6 ?_;refine Vr (fun _=>((bkT aA 2).mono v)) U9 ?_;refine Um 3 Z ?_;refine UG (fun _=>(dm _ H.m_ (oh k) x 22 dc_ dc_ (Bw k) (aa x (aX c)))) U9 ?_;refine UL (j) U10 (fun _=>⟨by omega,by omega,(RY _).symm⟩) U2 ?_;refine UO (j:=0) U11 (by rw[QG,aF,SE];simp;omega) ?_;refine Un [9,12,13,14,15,60,61,62,67,68,69] a Z ?_;clear a v R;refine Ul fun R a=>?_;refine Uq _ Z U6 ?_;refine C6 1 [9,12,13,14,15,60,61,62,67,68,69] a Z ?_;clear a R;refine Uz (L':=[.arr (sO2 (some ⟨A,0,none⟩) n n) 32 1 n (((b.take (j+1)).map fun x=>tq (oh k*x))++xs.drop (j+1)),.obj f (.cells ⟨[af (if 0<k then qe d w1 else []),af (if 1<k then fP F E else [])]⟩ 144 (0,0))]) (by rw[aV,wo aF,Q4,c];simp) ?_;refine Uw (m':=n-(j+1)) om_ mup (hn_ [9,12,13,14,15,60,61,62,67,68,69] Z) ⟨j+1,om_,Z,Z,Z⟩
  have aE:j=n:=by
   have:=QF ak;omega
  subst aE;refine Uz (L':=[.arr (sO2 (some ⟨A,0,none⟩) j j) 32 1 j ((sgL b k).map tq),.obj f (.cells ⟨[af (if 0<k then qe d w1 else []),af (if 1<k then fP F E else [])]⟩ 144 (0,0))]) (by rw[Rf om_,Ss om_,Q2];unfold sgL;rw[RC];rfl) ?_;refine UI [(1,3)] Z (fun R a=>?_);refine Uj (bkT aA 3) U8 ?_;refine D.call (F6 _ H.m_ j _ _ (eO (dP B o)) (sgL b k) aS.m_ ao (fun y hy=>by
   obtain⟨x,c,rfl⟩:=QE.1 hy;unfold oh;split
   ·rw[Rat.one_mul];exact aa x c
   rw[show(-1:Rat)*x=-x by grind];exact Lp.qb_neg (aa x c)) aJ om_ (by unfold sgL;rw[ar];exact J) (T k V)) rfl (.inr dc_) U6 (QI _) fl_ (fun bc _ bd _ aY=>?_)
  obtain⟨⟨kd,w,vt,A1,n1,be,A2,n2,bf,A3,n3,bg,rfl,aZ,L,I⟩,rfl⟩:=aY;refine Um 3 Z ?_;refine UB U5 (fun bh=>?_);refine Us (j:=0) U12 ?_;refine C6 1 [9,12,13,14,15,18,19,60,61,62] a Z ?_;clear a R;refine G.freeze 0 Z (fun aM _ W=>?_);refine Uh 3 [9,12,13,14,15,18,19,60,61,62,87] Z ?_;refine G.cd (fun aG=>?_) fun aG=>?_
  ·exact absurd aG dc_
  refine Ui 1 Z fun R a=>?_;refine Uj (bkT W 1) U8 ?_;refine C6 2 [9,12,13,14,15,18,60,61,62,91] a Z ?_;clear a R;refine G.cd (fun am=>?_) fun am=>?_
  ·have O:kd=2:=by simpa using am
   have a0:k=0:=by
    rcases RM k with h|h
    ·exact h
    exact absurd O (II (K h).1 L (K h).2)
   subst a0;refine Uh 3 [6,7,8] Z ?_;refine Uv (G.dropAll (Vi U4 ?_));exact⟨Z,kd,w,0,0,⟨I,QB_zero.le dc_⟩,L,fun h=>absurd O h,.inl ⟨O,Z⟩⟩
  have O:kd≠2:=by simpa using am
  refine Ui 1 Z fun R a=>?_;refine Uj (bkT W 1) U8 ?_;refine C6 2 [9,12,13,14,15,18,60,61,62,95] a Z ?_;clear a R;refine G.cd (fun an=>?_) fun an=>?_
  ·have X:kd=1:=by simpa using an
   obtain rfl:=aZ X;subst X;rcases(by omega:k=0∨k=1) with rfl|rfl
   ·refine Ui 3 Z fun R a=>?_;refine Uj (bkT W 1) U8 ?_;refine Uu (dm _ H.m_ (oh 0) w 22 dc_ dc_ (Bw 0) (I.le dc_)) U7 fl_ ?_;refine UE (0) U9 ah U2 ?_;refine Us (j:=1) U12 ?_;refine Un [9,12,13,60,61,62] a Z ?_;clear a R;refine Ul fun R a=>?_;refine Uq _ Z U6 ?_;refine C6 1 [9,12,13,60,61,62] a Z ?_;clear a R;refine G.perm (L':=[.arr (sO2 (some ⟨A,0,none⟩) j j) 32 1 j ((sgL b 0).map tq),.obj f (.cells ⟨[af (if 0<1 then qe 1 w else []),af (if 1<1 then fP 0 0 else [])]⟩ 144 (0,0))]) (pkL [1,0] Z) ?_;refine Uw (m':=1) om_ mup (hn_ [9,12,13,60,61,62] Z) ⟨1,(sgL b 0).map tq,1,w,0,0,⟨by decide,by unfold sgL;simp[J],⟨I,QB_zero.le dc_⟩,fun _=>⟨L,by decide⟩,fun h=>absurd h dc_⟩,Z,Z,Z⟩
   refine Ui 3 Z fun R a=>?_;refine Uj (bkT W 1) U8 ?_;refine Uu (dm _ H.m_ (oh 1) w 22 dc_ dc_ (Bw 1) (I.le dc_)) U7 fl_ ?_;refine UE (1) U9 ah U2 ?_;refine Us (j:=1) U12 ?_;refine Un [9,12,13,60,61,62] a Z ?_;clear a R;refine Ul fun R a=>?_;refine Uq _ Z U6 ?_;refine C6 1 [9,12,13,60,61,62] a Z ?_;clear a R;refine G.perm (L':=[.arr (sO2 (some ⟨A,0,none⟩) j j) 32 1 j ((sgL b 1).map tq),.obj f (.cells ⟨[af (if 0<2 then qe d w1 else []),af (if 1<2 then fP 1 w else [])]⟩ 144 (0,0))]) (pkL [1,0] Z) ?_;refine Uw (m':=0) om_ mup (hn_ [9,12,13,60,61,62] Z) ⟨2,(sgL b 1).map tq,d,w1,1,w,⟨by decide,by unfold sgL;simp[J],⟨ag.1,I⟩,fun _=>K dc_,fun _=>L⟩,Z,Z,Z⟩
  have X:kd≠1:=by simpa using an
  refine Ul fun R a=>?_;refine Uq _ Z U6 ?_;refine C6 1 [9,12,13,60,61,62] a Z ?_;clear a R;refine Uz (L':=[.arr (sO2 (some ⟨A,0,none⟩) j j) 32 1 j ((sgL b k).map tq),.obj f (.cells ⟨[af (if 0<k+1 then qe (if k=0 then kd else d) (if k=0 then w else w1) else []),af (if 1<k+1 then fP (if k=0 then 0 else kd) (if k=0 then 0 else w) else [])]⟩ 144 (0,0))]) (by rcases(by omega:k=0∨k=1) with rfl|rfl <;> simp[qe,fP,X]) ?_;refine Uw (m':=2-(k+1)) om_ mup (hn_ [9,12,13,60,61,62] Z) ⟨k+1,(sgL b k).map tq,if k=0 then kd else d,if k=0 then w else w1,if k=0 then 0 else kd,if k=0 then 0 else w,⟨by omega,by unfold sgL;simp[J],⟨(by split <;> first|exact I|exact ag.1),(by split <;> first|exact QB_zero.le dc_|exact I)⟩,fun _=>by
   rcases(by omega:k=0∨k=1) with rfl|rfl
   ·exact⟨L,O⟩
   ·exact K dc_,fun h=>by
   obtain rfl:k=1:=by omega
   exact L⟩,Z,Z,Z⟩
 have V:k=2:=by
  have:=QF ai;omega
 subst V;refine UD [0,1,2,3,4,5,6] [] Z kr_ (fun R v a=>?_);refine UE (0) U9 ah U2 ?_;refine Uo ae U9 ?_;refine UE (1) U9 ah U2 ?_;refine Uo ae U9 ?_;refine Um 3 Z ?_;refine Un [6,7,8] a Z ?_;clear a v R;refine Uv (G.dropAll (Vi U4 ?_));exact⟨Z,d,w1,F,E,ag,(K dc_).1,fun _=>aT dc_,.inr ⟨(K dc_).2,Z⟩⟩
end Go.Proofs.YtfjcldheldflbaaGreatDoor
