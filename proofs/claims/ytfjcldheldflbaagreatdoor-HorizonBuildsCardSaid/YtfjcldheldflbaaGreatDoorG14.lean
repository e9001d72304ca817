/- Laws that the proofs of this seat share, part 14. -/
import Derived.Test.YtfjcldheldflbaaGreatDoorG13
import Derived.Test.YtfjcldheldflbaaGreatDoorShelf
set_option maxHeartbeats 4000000
namespace Go.Proofs.YtfjcldheldflbaaGreatDoor
open Go.Proofs.Tryz
open Go Go.Jog
set_option maxRecDepth 100000
variable {cc:Nat->Rat}{e:Nat × Nat}{es:List (Nat × Nat)}{h i j k:Nat}{kd:Int}{ks:List fE}{l:List Nat}{m more n p:Nat}{pt:Nat->Rat}{r:RowQ}{rows:List RowQ}{s:Nat}{sg:Rat}{tris:List Tri}{u v:Value}{vs:List Value}{w:Value}{x:Rat}{y:Nat->Rat}
theorem SolO.mono {p:Lp.Sys}{d:Nat->Rat}{D E:Mem}{u:Value}(h:SolO p d D u)(a:D.le E):SolO p d E u:=by
 cases h with
|opt val pt du b c e h1 h2=>exact .opt val pt du b c e (h1.mono a) (h2.mono a)
|inf du c f h1=>exact .inf du c f (h1.mono a)
|unb pt ra b g i h1 h2=>exact .unb pt ra b g i (h1.mono a) (h2.mono a)
theorem SolO.m_ {p:Lp.Sys}{D E:Mem}(h:SolO p cc D u)(a:D.le E:=by exact mup):SolO p cc E u:=SolO.mono h a
theorem wJ {p:Lp.Sys}{D:Mem}(h:SolO p cc D u):∃ (kd:Int)(val:Str)(e g i:Value)(a b c:List Rat),u=.agg ⟨[i_ kd,af val,e,g,i]⟩/\Sl D 1 e (a.map aQ)/\Sl D 1 g (b.map aQ)/\Sl D 1 i (c.map aQ) /\
  (∀ x∈a,QB 20 x)/\(∀ x∈b,QB 20 x)/\(∀ x∈c,QB 20 x)/\a.length<=p.n/\b.length<=p.m/\c.length<=p.n/\(kd=1->∃ q,val=qtx q/\QB 20 q):=by
 have hr:∀ (n:Nat)(f:Nat->Rat),(∀ j,QB 20 (f j))->∀ x∈(List.range n).map f,QB 20 x:=fun n f o x d=>by
  obtain⟨j,_,rfl⟩:=Ra.1 d;exact o j
 cases h with
|opt val pt du e g k h1 h2=>exact⟨1,qtx val,e,g,.slice none 0 0,_,_,[],rfl,h1,h2,Sl.nil _ _,hr _ _ k.qp,hr _ _ k.qd,fun x d=>(by cases d),by simp,by simp,Re _,fun _=>⟨val,rfl,k.qv⟩⟩
|inf du g r h1=>exact⟨2,[],.slice none 0 0,g,.slice none 0 0,[],_,[],rfl,Sl.nil _ _,h1,Sl.nil _ _,fun x d=>(by cases d),hr _ _ r.qd,fun x d=>(by cases d),Re _,by simp,Re _,fun h=>absurd h dc_⟩
|unb pt ra e i l h1 h2=>exact⟨3,[],e,.slice none 0 0,i,_,[],_,rfl,h1,Sl.nil _ _,h2,hr _ _ l.qp,fun x d=>(by cases d),hr _ _ l.qr,by simp,Re _,by simp,fun h=>absurd h dc_⟩
theorem nW {l:List Rat}(h:∀ x∈l,QB 22 x):(l.map qtx).all aS=true:=Ru.2 fun s hs=>by
 obtain⟨x,a,rfl⟩:=Ra.1 hs;exact bA (h x a)
theorem pW {n:Nat}:∀ {rs:List (List Rat × Rat)},(∀ r∈rs,r.1.length=n)->(∀ r∈rs,(∀ x∈r.1,QB 22 x)/\QB 22 r.2)->ut n (rs.map di)=0
|[],_,_=>rfl
|r::rs,b,a=>by
  have e:ut n ((r::rs).map di)=if Gd n (di r)≠0 then Gd n (di r) else ut n (rs.map di):=rfl;have h0:Gd n (di r)=0:=Gc.2 ⟨gS.2 ⟨by show((r.1.map qtx).length:Int)=n;rw[au,b r Q9],nW (a r Q9).1⟩,bA (a r Q9).2⟩;rw[e,aF fun h=>h h0];exact pW (fun r hr=>b r (Rm _ hr)) fun r hr=>a r (Rm _ hr)
theorem nV {a:List (List Rat × Rat)}{b:List Rat}(g:n<=60)(i:a.length<=300)(c:∀ r∈a,r.1.length=n)(d:∀ r∈a,(∀ x∈r.1,QB 22 x)/\QB 22 r.2)(e:b.length=n)(f:∀ x∈b,QB 22 x):tM n (a.map di) (b.map qtx)=0:=by
 unfold tM;rw[aF om_,aF (by rw[au];omega),aF fun h=>h (gS.2 ⟨by rw[au,e],nW f⟩)];exact pW c d
theorem Gy (C:Mem)(o:Tabs C)(n:Nat)(g i:Value)(d:List (List Rat × Rat))(f:List Rat)(k:RowsT C g (d.map di))(v:Sl C 1 i (f.map aQ))(p:RowsQ n d)(w:∀ x∈f,QB 22 x)(y:∀ r∈d,(∀ x∈r.1,QB 22 x)/\QB 22 r.2)(L:n<=60)(z:f.length=n)(M:Lp.Lim (bU n d) (fun j=>f.getD j 0) 20) :
  Pur cx.P 21 [.agg ⟨[i_ n,g,i]⟩] C fun u D=>∃ r,u=.tuple #[r,i_ 0]/\SolO (bU n d) (fun j=>f.getD j 0) D r:=by
 have Z:=mx_
 have hm:=p.m;have N:tM n (d.map di) (f.map qtx)=0:=nV L om_ p.l y z w;have O:∀ D:Mem,C.le D->Gives cx.P 73 [.agg ⟨[i_ n,g,i]⟩] D (i_ 0):=fun D q=>by
  have h:=lY D (o.mono q) n g i (d.map di) (f.map qtx) (k.mono q) (by rw[<- fj];exact v.mono q) (fun r k=>by
   obtain⟨r,Q,rfl⟩:=Ra.1 k;obtain⟨h1,h2⟩:=y r Q;refine⟨fun s hs=>?_,Rn (aZ h2 dc_) dc_⟩;obtain⟨x,t,rfl⟩:=Ra.1 hs;exact Rn (aZ (h1 x t) dc_) dc_) (fun s hs=>by
   obtain⟨x,t,rfl⟩:=Ra.1 hs;exact Rn (aZ (w x t) dc_) dc_)
  rw[N]at h;exact h
 refine UU func21 19 U3 fun w0=>UQ fun R e=>Vd U6 fun b1=>Ve U5 fun b2=>C6 1 [1,2] e U<|G.freeze 1 U fun _ _ A=>UQ fun R e=>UO (bkT A 3) U8<|UZ (O _ mup) U7<|C6 1 [1,2,4] e U<|UM 2 [1,2,4,9] U<|G.cd (fun B=>?_) fun B=>?_
 ·exact absurd B dc_
 refine UQ fun R e=>UO (bkT A 3) U8<|Vo (BQ _ o.m_ n g i d f k.m_ v.m_ p om_ z M) U7 fl_ (fun aa _ _ E=>?_);obtain⟨kd,val,vp,vd,vr,a,b,c,rfl,F,H,I,S,qb,T,V,W,X,Y⟩:=wJ E;obtain⟨Ap,cp,rfl,_⟩:=id F;obtain⟨Ad,cd,rfl,_⟩:=id H;obtain⟨Ar,cr,rfl,_⟩:=id I;refine Ve U5 fun b5=>UX (j:=0) U12<|US [2,5] e U<|G.freeze 0 U fun _ _ J=>UQ fun R e=>UO (bkT J 5) U8<|UY (BT _ o.m_ kd val _ _ _ a b c F.m_ H.m_ I.m_ S qb T (Rn V (by show n<=_;omega)) (Rn W (by show d.length<=_;omega)) (Rn X (by show n<=_;omega)) Y) U7 fl_<|C6 1 [2,5,16] e U<|G.cd (fun K=>?_) fun K=>?_
 ·exact absurd K dc_
 refine UQ fun R e=>UO (bkT J 5) U8<|UX (j:=0) U12<|C6 1 [2,3] e U<|U1 (V4 ag U5 ?_);exact⟨U,_,U,E.mono mup⟩
inductive FeaO (p:Lp.Sys) (D:Mem):Value->Prop where
|yes (pt:Nat->Rat) (vp:Value):p.At pt->Lp.CmD p.n 20 pt->(∀ j,QB 20 (pt j))->Sl D 1 vp (((List.range p.n).map pt).map aQ)->FeaO p D (.tuple #[vp,.agg ⟨[.slice none 0 0]⟩,.bool true,.int .i64 0])
|no (du:Nat->Rat) (vd:Value):Lp.InfR p 20 du->Sl D 1 vd (((List.range p.m).map du).map aQ)->FeaO p D (.tuple #[.slice none 0 0,.agg ⟨[vd]⟩,.bool false,.int .i64 0])
theorem Jo {p:Lp.Sys}{D:Mem}{f a b e:Value}(h:SolO p cc D (.agg ⟨[i_ kd,f,a,b,e]⟩)) :
  (kd=2/\∃ du,Lp.InfR p 20 du/\Sl D 1 b (((List.range p.m).map du).map aQ))∨(kd≠2/\∃ pt,p.At pt/\Lp.CmD p.n 20 pt/\(∀ j,QB 20 (pt j))/\Sl D 1 a (((List.range p.n).map pt).map aQ)):=by
 cases h with
|opt w pt du a b c h1 h2=>exact .inr ⟨by decide,pt,c.row,c.cd,c.qp,h1⟩
|inf du b g h1=>exact .inl ⟨rfl,du,g,h1⟩
|unb pt ra a e d h1 h2=>exact .inr ⟨by decide,pt,d.row,d.cd,d.qp,h1⟩
theorem gp (n:Nat):List.replicate n (af [48])=((List.replicate n (0:Rat)).map aQ).flatten:=by
 rw[TJ,Q0];induction n with
|zero=>rfl
|succ n a=>rw[Sd,Sd,Si,a];rfl
theorem Gg (n j:Nat):(List.replicate n (0:Rat)).getD j 0=0:=by
 rw[am,Sq];split <;> rfl
theorem J4 (C:Mem)(t:Tabs C)(n:Nat)(g k:Value)(f:List (List Rat × Rat))(i:List Rat)(o:RowsT C g (f.map di))(v:Sl C 1 k (i.map aQ))(w:RowsQ n f)(A:∀ x∈i,QB 22 x)(B:∀ r∈f,(∀ x∈r.1,QB 22 x)/\QB 22 r.2)(N:n<=60)(O:i.length=n)(Q:Lp.Lim (bU n f) (fun _=>0) 20) :
  Pur cx.P 43 [.agg ⟨[i_ n,g,k]⟩] C fun u D=>FeaO (bU n f) D u:=by
 have ah:=mx_
 have hm:=w.m;have S:tM n (f.map di) (i.map qtx)=0:=nV N om_ w.l B O A;have T:∀ D:Mem,C.le D->Gives cx.P 73 [.agg ⟨[i_ n,g,k]⟩] D (i_ 0):=fun D y=>by
  have h:=lY D (t.mono y) n g k (f.map di) (i.map qtx) (o.mono y) (by rw[<- fj];exact v.mono y) (fun r o=>by
   obtain⟨r,V,rfl⟩:=Ra.1 o;obtain⟨h1,h2⟩:=B r V;refine⟨fun s hs=>?_,Rn (aZ h2 dc_) dc_⟩;obtain⟨x,z,rfl⟩:=Ra.1 hs;exact Rn (aZ (h1 x z) dc_) dc_) (fun s hs=>by
   obtain⟨x,z,rfl⟩:=Ra.1 hs;exact Rn (aZ (A x z) dc_) dc_)
  rw[S]at h;exact h
 have W:Lp.Lim (bU n f) (fun j=>(List.replicate n (0:Rat)).getD j 0) 20:=by
  have e:(fun j=>(List.replicate n (0:Rat)).getD j 0)=fun _=>(0:Rat):=funext (Gg n);rw[e];exact Q
 refine UU func43 32 U3 fun w0=>UQ fun R d=>Vd U6 fun b1=>UP U6<|Ve U5 fun b3=>C6 2 [1,3] d U<|UQ fun R d=>UW ae U9<|UZ (T _ mup) U7<|C6 1 [1,3,6] d U<|UM 2 [1,3,6,11] U<|G.cd (fun E=>?_) fun E=>?_
 ·exact absurd E dc_
 refine Vl [(2,3)] U fun R d=>UP U6<|UW ae U9<|D.call (gN _ n om_) U (.inr dc_) U6 (Rh _) fl_ (fun ai _ aj _ X=>?_);obtain⟨bz,rfl,rfl⟩:=X;rw[gp];refine UP U6<|UX (j:=2) U12<|US [1,3] d U<|G.freezeArr 1 ((List.replicate n (0:Rat)).map aQ) U2 bP ak fun _ _ Y=>G.freeze 0 U fun _ _ Z=>UQ fun R d=>UO (bkT Z 3) U8<|Vo (BQ _ t.m_ n g _ f (List.replicate n 0) o.m_ Y.m_ w om_ ak W) U7 fl_ (fun al _ _ F=>?_);obtain⟨kd,val,vp,vd,vr,a,b,c,rfl,H,I,J,qa,qb,qc,aa,ab,ac,hv⟩:=wJ F;have K:=Jo F;obtain⟨Ap,cp,rfl,_⟩:=id H;obtain⟨Ad,cd,rfl,_⟩:=id I;obtain⟨Ar,cr,rfl,_⟩:=id J;refine Ve U5 fun b7=>UX (j:=0) U12<|US [3,7] d U<|G.freeze 0 U fun _ _ p=>UQ fun R d=>UO (bkT p 5) U8<|UY (BT _ t.m_ kd val _ _ _ a b c H.m_ I.m_ J.m_ qa qb qc (Rn aa (by show n<=_;omega)) (Rn ab (by show f.length<=_;omega)) (Rn ac (by show n<=_;omega)) hv) U7 fl_<|C6 1 [3,7,22] d U<|G.cd (fun L=>?_) fun L=>?_
 ·exact absurd L dc_
 refine UN 1 U fun R d=>UO (bkT p 1) U8<|C6 1 [3,7,26] d U<|G.cd (fun q=>?_) fun q=>?_
 ·refine Vg [0,1,2,3,4,5] [(1,0)] U kr_ fun R M d=>UP U6<|VW (fun _=>((bkT p 1).mono M)) U9<|UP U6<|UX (j:=0) U12<|UR 2 U<|US [2,3,4,5] d U ?_;clear d M R;refine U1 (Wn ag U7 ?_);refine⟨U, ?_⟩;rcases K with⟨_,du,hi,h1⟩|⟨h,_⟩
  ·exact .no du _ hi h1.m_
  exact absurd (by simpa using q) h
 refine UN 1 U fun R d=>UO (bkT p 1) U8<|Vf ([.slice none 0 0]) U8<|UP U6<|UX (j:=0) U12<|C6 2 [2,3,4,5] d U<|U1 (Wn ag U7 ?_);refine⟨U, ?_⟩;rcases K with⟨h,_⟩|⟨_,pt,v,ad,af,h1⟩
 ·rw[h]at q;cases q
 exact .yes pt _ v ad af h1.m_
def prC (vs:List Value)(l:List SrcQ):List (List Value):=aD vs (l.map SrcQ.r)
theorem Ck {l:List SrcQ}{s:SrcQ}(a:vs.length=l.length)(c:vs[i]?=some w)(d:l[i]?=some s):prC (vs.take (i+1)) (l.take (i+1))=prC (vs.take i) (l.take i)++[[w,af (qtx s.r.b)]]:=by
 unfold prC;rw[RE,RE,c,d,RN];exact eI (by simp[a]) w s.r
theorem LN {l:List SrcQ}{s:SrcQ}(a:vs[i]?=some w)(c:l[i]?=some s):(bY vs l)[i]?=some [i_ s.n,w,af (qtx s.r.b)]:=by
 unfold bY;rw[List.getElem?_zipWith,a,c]
theorem NB (a:List Value)(l:List SrcQ):∀ r∈prC a l,r.length=2:=bN _ _
theorem ig {C:Mem}(h:RowsOk C vs rows)(b:Sl C 2 v (aD vs rows)):RowsT C v ((dx rows).map di):=by
 refine⟨vs,by rw[h.1];simp[dx],fun i w r c hr=>?_, ?_⟩
 ·rw[dx,R8,Rb]at hr;cases a:rows[i]? with
 |none=>rw[a]at hr;cases hr
 |some x =>
   rw[a]at hr;cases hr
   have:=h.2 i w x c a;show Sl C 1 w ((x.f.map qtx).map gb);rw[<- fj];exact this
 have e:List.zipWith (fun w (r:List Str × Str)=>[w,af r.2]) vs ((dx rows).map di)=aD vs rows:=by
  unfold dx aD;rw[R8,List.zipWith_map_right];rfl
 rw[e];exact b
structure Calm (B:Bk)(fs:List Rat)(RO:Nat->List RowQ):Prop where
 rich:Rich B fs RO
 n12:bs B*bp B<=12
 thI:∀ r∈bK B,RowI r
 roI:∀ i,i<B.obs.length->∀ r∈RO i,RowI r
 th:(bK B).length<=24
 ro:∀ i,i<B.obs.length->(RO i).length<=8
 ob:B.obs.length<=12
structure SetIn (n:Nat)(l:List Nat):Prop where
 lt:∀ i∈l,i<n
 nd:l.Nodup
def pY (B:Bk)(RO:Nat->List RowQ)(l:List Nat):List RowQ:=(bV (bK B) RO l).map SrcQ.r
theorem jT {B:Bk}{a:Nat->List RowQ}:pY B a l=bK B++l.flatMap a:=by
 unfold pY bV kT;rw[RN,R8,List.map_flatMap];congr 1
 ·exact List.map_id _
 congr 1;funext i;rw[R8];exact List.map_id _
theorem SetIn.len (h:SetIn n l):l.length<=n:=by
 have:=List.Nodup.length_le_of_subset (l₂:=List.range n) h.nd fun v a=>Rv.2 (h.lt v a)
 rwa [Ss]at this
section
variable {B:Bk} {fs:List Rat} {RO:Nat->List RowQ} {l:List Nat}
theorem KN {c:Nat}{f:Nat->List RowQ}:∀ {l:List Nat},(∀ i∈l,(f i).length<=c)->(l.flatMap f).length<=c*l.length
|[],_=>Re _
|i::l,h=>by
  rw[List.flatMap_cons,Rf,Rs,Nat.mul_succ];have h1:=h i Q9;have h2:=KN (l:=l) fun j a=>h j (Rm _ a);omega
theorem Calm.cnt (h:Calm B fs RO)(a:SetIn B.obs.length l):(pY B RO l).length<=120:=by
 rw[jT,Rf];have h1:=KN (c:=8) (f:=RO) fun i b=>h.ro i (a.lt i b);have h2:=a.len;have h3:=h.ob;have h4:=h.th;omega
theorem Calm.rowI (h:Calm B fs RO)(a:SetIn B.obs.length l):∀ r∈pY B RO l,RowI r:=by
 intro r hr;rw[jT]at hr;rcases Rr.1 hr with hr|hr
 ·exact h.thI r hr
 obtain⟨i,b,hr⟩:=List.mem_flatMap.1 hr;exact h.roI i (a.lt i b) r hr
theorem wA {s p:Nat}{a:List Lay}:∀ n,∀ r∈bi s p a n,r.f.length=s*p
|0,r,hr=>by cases hr
|n+1,r,hr=>by
  rcases Rr.1 hr with hr|hr
  ·exact wA n r hr
  have:∀ k,∀ r∈bx s p (a.getD (n+1) ⟨[],0,none⟩) (n+1) k,r.f.length=s*p:=by
   intro k;induction k with
  |zero=>intro r hr;cases hr
  |succ k b =>
    intro r hr;rcases Rr.1 hr with hr|hr
    ·exact b r hr
    unfold kI at hr;rcases Rp.1 hr with rfl|hr
    ·exact jV _ _
    split at hr
    ·cases hr
    rw[Rw.1 hr];exact jV _ _
  exact this p r hr
theorem Pa {D:Int}{q:Rat}(h:Wl D q)(a:D≠0)(b:D.natAbs<=999999999):QB 1 q:=by
 obtain⟨z,h1,h2⟩:=h;exact qg a h1 om_ om_
theorem RowI.q {r:RowQ}(h:RowI r):(∀ x∈r.f,QB 1 x)/\QB 1 r.b:=by
 obtain⟨D,h0,a,h1,h2⟩:=h;exact⟨fun x c=>Pa (h1 x c) h0 a,Pa h2 h0 a⟩
theorem lS {a:List RowQ}{P:List Rat × Rat->Prop}(h:∀ r∈a,P (r.f,r.b)):∀ x∈dx a,P x:=fun x c=>by
 obtain⟨r,hr,rfl⟩:=Ra.1 c;exact h r hr
theorem Calm.q22 (h:Calm B fs RO)(a:SetIn B.obs.length l):∀ r∈dx (pY B RO l),(∀ x∈r.1,QB 22 x)/\QB 22 r.2 :=
 lS (P:=fun r=>(∀ x∈r.1,QB 22 x)/\QB 22 r.2) fun r hr=>⟨fun x b=>((h.rowI a r hr).q.1 x b).le dc_,(h.rowI a r hr).q.2.le dc_⟩
theorem Calm.rowsQ (h:Calm B fs RO)(a:SetIn B.obs.length l):RowsQ (bs B*bp B) (dx (pY B RO l)):=by
 refine⟨lS (P:=fun r=>r.1.length=bs B*bp B) fun r hr=>?_,fun r hr=>⟨fun x b=>((h.q22 a r hr).1 x b).le dc_,(h.q22 a r hr).2.le dc_⟩, ?_⟩
 ·rw[jT]at hr;rcases Rr.1 hr with hr|hr
  ·exact wA _ r hr
  obtain⟨i,c,hr⟩:=List.mem_flatMap.1 hr;exact(pX h.rich (a.lt i c)).2 r hr
 have:=h.cnt a;rw[dx,au];omega
theorem Calm.lim (h:Calm B fs RO)(a:SetIn B.obs.length l):Lp.Lim (bU (bs B*bp B) (dx (pY B RO l))) (fun _=>0) 20:=Kr h.n12 (h.rowI a)
end
def cq (B:Bk)(RO:Nat->List RowQ):List RowQ:=pY B RO (List.range B.obs.length)
theorem cS (n:Nat):SetIn n (List.range n):=⟨fun _a h=>Rv.1 h,List.nodup_range⟩
theorem vf {l:List Rat}(a:i<l.length):(l.set i x).getD j 0=if j=i then x else l.getD j 0:=by
 rw[am,List.getElem?_set,am];by_cases h:i=j
 ·subst h;rw[aJ rfl,aJ a,aJ rfl];rfl
 rw[aF h,aF fun e=>h e.symm]
theorem qZ (n j:Nat):(List.replicate n (0:Rat)).getD j 0=0:=Gg n j
def rgF (n h p m k:Nat)(e:Nat × Nat)(sg:Rat):List Rat:=(((List.replicate n (0:Rat)).set (k / m*p+e.1) sg).set (k / m*p+e.2) (-sg)).set (h+k) (-1)
def edg (es:List (Nat × Nat))(k:Nat):Nat × Nat:=es.getD (k % es.length) (0,0)
def rgK (n h p:Nat)(es:List (Nat × Nat))(k:Nat):List RowQ:=[⟨rgF n h p es.length k (edg es k) 1,0⟩,⟨rgF n h p es.length k (edg es k) (-1),0⟩]
def rgL (n h p:Nat)(es:List (Nat × Nat))(t:Nat):List RowQ:=(List.range t).flatMap (rgK n h p es)
def fw (more:Nat)(r:RowQ):RowQ:=⟨r.f++List.replicate more 0,r.b⟩
def zy (rows:List RowQ)(h p:Nat)(es:List (Nat × Nat))(more:Nat):List RowQ:=rows.map (fw more)++rgL (h+more) h p es more
def nA (h more:Nat):List Rat:=List.replicate h 0++List.replicate more 1
theorem zA (n h p m k:Nat)(e:Nat × Nat)(a:Rat):(rgF n h p m k e a).length=n:=by unfold rgF;simp
theorem B6 (n h p:Nat)(a:List (Nat × Nat))(t:Nat):rgL n h p a (t+1)=rgL n h p a t++rgK n h p a t:=by
 unfold rgL;rw[Sn,List.flatMap_append,List.flatMap_cons,List.flatMap_nil,RC]
theorem zz (n h p:Nat)(a:List (Nat × Nat)):∀ t,(rgL n h p a t).length=2*t
|0=>rfl
|t+1=>by rw[B6,Rf,zz n h p a t];rfl
theorem JL (a:List RowQ)(h p:Nat)(c:List (Nat × Nat))(b:Nat):(zy a h p c b).length=a.length+2*b:=by
 unfold zy;rw[Rf,au,zz]
theorem BZ (h a:Nat):(nA h a).length=h+a:=by unfold nA;simp
structure EdgeOk (s p:Nat)(es:List (Nat × Nat)):Prop where
 lt:∀ e∈es,e.1<e.2/\e.2<p
theorem HU (a:k<s*es.length):edg es k∈es/\k / es.length<s:=by
 have h0:0<es.length:=by
  rcases Sk es.length with h|h
  ·rw[h]at a;omega
  exact h
 refine⟨?_,(S8 h0).2 a⟩;unfold edg;have hm:=RU k h0;rw[am,ai hm];exact R6 hm
theorem GV {a:Nat}(b:a<s)(c:i<p):a*p+i<s*p:=by
 have:(a+1)*p<=s*p:=RV _ b;rw[Nat.succ_mul]at this;omega
theorem Mt (h:EdgeOk s p es)(a:k<s*es.length):k / es.length*p+(edg es k).1<s*p/\k / es.length*p+(edg es k).2<s*p/\(edg es k).1≠(edg es k).2:=by
 obtain⟨h1,h2⟩:=HU a;obtain⟨h3,h4⟩:=h.lt _ h1;exact⟨GV h2 om_,GV h2 h4,by omega⟩
theorem Nm (a:k / m*p+e.1<h)(b:k / m*p+e.2<h)(c:h+k<n)(j:Nat):(rgF n h p m k e sg).getD j 0=if j=h+k then -1 else if j=k / m*p+e.2 then -sg else if j=k / m*p+e.1 then sg else 0:=by
 unfold rgF;rw[vf ap,vf ap,vf ap,qZ]
theorem zD (a:i<n):Lp.sumN (fun j=>(if j=i then x else 0)*y j) n=x*y i:=by
 rw[Lp.sumN_at a,Lp.sumN_zero fun j _=>?_]
 ·rw[aJ rfl];grind
 by_cases h:j=i
 ·rw[aJ h]
 rw[aF h,aF h];grind
theorem Nl (a:k / m*p+e.1<h)(b:k / m*p+e.2<h)(d:e.1≠e.2)(c:h+k<n) :
  Lp.sumN (fun j=>(rgF n h p m k e sg).getD j 0*y j) n=sg*y (k / m*p+e.1)+(-sg*y (k / m*p+e.2) + -1*y (h+k)):=by
 rw[<- zD (i:=k / m*p+e.1) (n:=n) (x:=sg) om_,<- zD (i:=k / m*p+e.2) (n:=n) (x:=-sg) om_,<- zD (i:=h+k) (n:=n) (x:=-1) om_,<- Lp.sumN_add,<- Lp.sumN_add];refine Lp.sumN_congr fun j _=>?_;rw[Nm a b c];by_cases h1:j=h+k
 ·rw[aJ h1,aF om_,aF om_,aJ h1];grind
 by_cases h2:j=k / m*p+e.2
 ·rw[aF h1,aJ h2,aF om_,aJ h2,aF h1];grind
 by_cases h3:j=k / m*p+e.1
 ·rw[aF h1,aF h2,aJ h3,aF h2,aF h1];grind
 rw[aF h1,aF h2,aF h3,aF h2,aF h1];grind
theorem hU :(bU n (dx rows)).At y ↔ ∀ r∈rows,Lp.sumN (fun j=>r.f.getD j 0*y j) n<=r.b:=by
 have hm:(bU n (dx rows)).m=rows.length:=au _;constructor
 ·intro h r hr;obtain⟨i,c,rfl⟩:=List.mem_iff_getElem.1 hr;have h1:=h i (by rw[hm];exact c);have d:(bU n (dx rows)).a i=fun j=>rows[i].f.getD j 0:=by show(fun j=>((dx rows).getD i ([],0)).1.getD j 0)=_;rw[nu c]
  have e:(bU n (dx rows)).b i=rows[i].b:=by show((dx rows).getD i ([],0)).2=_;rw[nu c]
  rw[d,e]at h1;exact h1
 intro h i c;rw[hm]at c;have h1:=h rows[i] (R6 c);have d:(bU n (dx rows)).a i=fun j=>rows[i].f.getD j 0:=by show(fun j=>((dx rows).getD i ([],0)).1.getD j 0)=_;rw[nu c]
 have e:(bU n (dx rows)).b i=rows[i].b:=by show((dx rows).getD i ([],0)).2=_;rw[nu c]
 rw[d,e];exact h1
theorem Bt (a:r.f.length=h):Lp.sumN (fun j=>(fw more r).f.getD j 0*y j) (h+more)=Lp.sumN (fun j=>r.f.getD j 0*y j) h:=by
 rw[Lp.sumN_split,Lp.sumN_zero (n:=more) fun j _=>?_]
 ·rw[show Lp.sumN (fun j=>(fw more r).f.getD j 0*y j) h=Lp.sumN (fun j=>r.f.getD j 0*y j) h from Lp.sumN_congr fun j b=>?_]
  ·grind
  show(r.f++List.replicate more 0).getD j 0*y j=_;rw[am,R0 om_,<- am]
 show(r.f++List.replicate more 0).getD (h+j) 0*y (h+j)=0;rw[am,RD om_,<- am,qZ];grind
theorem GS :Lp.sumN (fun j=>(nA h more).getD j 0*y j) (h+more)=Lp.sumN (fun k=>y (h+k)) more:=by
 rw[Lp.sumN_split,Lp.sumN_zero (n:=h) fun j a=>?_]
 ·rw[show Lp.sumN (fun r=>(nA h more).getD (h+r) 0*y (h+r)) more=Lp.sumN (fun k=>y (h+k)) more from Lp.sumN_congr fun j a=>?_]
  ·grind
  unfold nA;rw[am,RD ak,Sq,aJ ap];show 1*_=_;grind
 unfold nA;rw[am,R0 ap,<- am,qZ];grind
def abR (x:Rat):Rat:=if x<0 then -x else x
theorem yQ {y:Rat}:abR x<=y ↔ x<=y/\-x<=y:=by
 unfold abR;split <;> grind
theorem OH (x:Rat):0<=abR x:=by
 unfold abR;split <;> grind
def OV (p:Nat)(es:List (Nat × Nat))(y:Nat->Rat)(k:Nat):Rat:=y (k / es.length*p+(edg es k).1)-y (k / es.length*p+(edg es k).2)
section
variable {rows:List RowQ} {s p:Nat} {es:List (Nat × Nat)} {y:Nat->Rat}
theorem LU (e:EdgeOk s p es)(d:∀ r∈rows,r.f.length=s*p):(bU (s*p+s*es.length) (dx (zy rows (s*p) p es (s*es.length)))).At y ↔ (bU (s*p) (dx rows)).At y/\∀ k,k<s*es.length->abR (OV p es y k)<=y (s*p+k):=by
 rw[hU,hU];have c:∀ k,k<s*es.length->∀ sg,Lp.sumN (fun j=>(rgF (s*p+s*es.length) (s*p) p es.length k (edg es k) sg).getD j 0*y j) (s*p+s*es.length)=sg*OV p es y k-y (s*p+k):=fun k a sg=>by
  obtain⟨h1,h2,h3⟩:=Mt e a;rw[Nl h1 h2 h3 om_];unfold OV;grind
 constructor
 ·intro h;refine⟨fun r hr=>?_,fun k a=>?_⟩
  ·have:=h (fw _ r) (SZ _ (Tl hr));rw[Bt (d r hr)]at this;exact this
  have hm:∀ x∈rgK (s*p+s*es.length) (s*p) p es k,x∈zy rows (s*p) p es (s*es.length):=fun x b=>S7 _ (List.mem_flatMap.2 ⟨k,Rv.2 a,b⟩);have h1:=h _ (hm _ Q9);have h2:=h _ (hm _ (Rm _ Q9));rw[c k a]at h1 h2;rw[yQ];simp only at h1 h2;constructor <;> grind
 rintro ⟨h1,h2⟩ r hr;rcases Rr.1 hr with hr|hr
 ·obtain⟨x,b,rfl⟩:=Ra.1 hr;rw[Bt (d x b)];exact h1 x b
 obtain⟨k,a,hr⟩:=List.mem_flatMap.1 hr;have a:=Rv.1 a;have h3:=yQ.1 (h2 k a);rcases Rp.1 hr with rfl|hr
 ·rw[c k a];simp only;grind
 rw[Rw.1 hr,c k a];simp only;grind
theorem Nh {a:Nat}{b c:Nat->Rat}(d:EdgeOk s p es)(e:∀ r∈rows,r.f.length=s*p)(h:Lp.UnbR (bU (s*p+s*es.length) (dx (zy rows (s*p) p es (s*es.length)))) (fun j=>(nA (s*p) (s*es.length)).getD j 0) a b c):False:=by
 obtain⟨y,hy,g⟩:=h.below 0;rw[show(bU (s*p+s*es.length) (dx (zy rows (s*p) p es (s*es.length)))).n=s*p+s*es.length from rfl,GS]at g;have h1:=((LU d e).1 hy).2;have h2:0<=Lp.sumN (fun k=>y (s*p+k)) (s*es.length):=Lp.sumN_ge fun k i=>Rat.le_trans (OH _) (h1 k i);grind
end
theorem Pz (h:∀ r∈rows,RowI r):∀ r∈zy rows (s*p) p es (s*es.length),RowI r:=by
 intro r hr;have d:Wl 1 1:=⟨1,by decide +kernel,by decide⟩;have b:Wl 1 (-1):=⟨-1,by decide +kernel,by decide⟩;rcases Rr.1 hr with hr|hr
 ·obtain⟨x,e,rfl⟩:=Ra.1 hr;obtain⟨D,h0,f,h1,h2⟩:=h x e;refine⟨D,h0,f,fun q a=>?_,h2⟩;rcases Rr.1 a with a|a
  ·exact h1 q a
  rw[(List.mem_replicate.1 a).2];exact Wl.zero _
 obtain⟨k,g,hr⟩:=List.mem_flatMap.1 hr;have c:∀ sg:Rat,Wl 1 sg->∀ q∈rgF (s*p+s*es.length) (s*p) p es.length k (edg es k) sg,Wl 1 q:=fun sg hs q a=>by
  unfold rgF at a;rcases Sy a with a|rfl
  ·rcases Sy a with a|rfl
   ·rcases Sy a with a|rfl
    ·rw[(List.mem_replicate.1 a).2];exact Wl.zero _
    exact hs
   exact hs.neg
  exact b
 rcases Rp.1 hr with rfl|hr
 ·exact⟨1,by decide,by decide,c 1 d,Wl.zero _⟩
 rw[Rw.1 hr];exact⟨1,by decide,by decide,c (-1) b,Wl.zero _⟩
theorem Nj (h b j:Nat):Wl 1 ((nA h b).getD j 0):=by
 unfold nA;rw[am];cases a:(List.replicate h (0:Rat)++List.replicate b 1)[j]? with
|none=>exact Wl.zero _
|some q =>
  rcases Rr.1 (aM a) with a|a
  ·rw[(List.mem_replicate.1 a).2];exact Wl.zero _
  rw[(List.mem_replicate.1 a).2];exact⟨1,by decide +kernel,by decide⟩
theorem Ni (a:s*p+s*es.length<=12)(h:∀ r∈rows,RowI r):Lp.Lim (bU (s*p+s*es.length) (dx (zy rows (s*p) p es (s*es.length)))) (fun j=>(nA (s*p) (s*es.length)).getD j 0) 20:=uS a (Pz h) ⟨1,by decide,by decide,fun j _=>Nj _ _ j⟩
theorem Pw (a:RowI r)(b:Lp.CmD n k pt)(u:i<=n)(v:n<=1000):QB (k+2) (Lp.sumN (fun j=>r.f.getD j 0*pt j) i):=by
 obtain⟨D,h0,c,h1,_⟩:=a;obtain⟨d,g0,g,h⟩:=b;have w:0<B9 ^ k:=om_;obtain⟨Z,e,l⟩:∃ Z:Int,Lp.sumN (fun j=>r.f.getD j 0*pt j*((D*d:Int):Rat)) i=Z/\Z.natAbs<=i*(999999999*B9 ^ k):=Lp.sumN_int fun j x=>by
  obtain⟨z,e,m⟩:=h j om_;obtain⟨y,o,hy⟩:Wl D (r.f.getD j 0):=by
   rw[am];cases p:r.f[j]? with
  |none=>exact Wl.zero _
  |some q=>exact h1 q (aM p)
  refine⟨y*z, ?_, ?_⟩
  ·rw[R9,R9,<- e,<- o];grind
  rw[Sv];exact Su hy (UL m)
 have s:Lp.sumN (fun j=>r.f.getD j 0*pt j) i*((D*d:Int):Rat)=Z:=by
  rw[<- e,UD,<- Lp.sumN_mul];exact Lp.sumN_congr fun j _=>UD _ _
 have t:1000*(999999999*B9 ^ k)<B9 ^ (k+2):=by
  rw[Tn,show B9 ^ 2=1000000000000000000 from by decide];omega
 refine Lp.Quo.qb (K:=1000*(999999999*B9 ^ k)) ⟨Z,D*d,Int.mul_ne_zero h0 g0,s, ?_, ?_⟩ t
 ·exact Rn l (RV _ om_)
 rw[Sv];have:=Su c (UL g);omega
theorem QT {z:Int}(h:s*p<=60):ofE z s p=z:=by
 unfold ofE;split
 ·rfl
 rename_i h2;have:z=0:=by simpa using h2
 rw[aF om_,this]
theorem AA (C:Mem)(a:Value)(B:Bk)(z:Int)(b:BookZ C a B z)(h:bs B*bp B<=60):Gives cx.P 92 [a] C (.tuple #[i_ (if z=0 then ((bs B*bp B:Nat):Int) else 0),i_ z]):=by
 have h1:=K4 C a B z b;rw[QT h]at h1;exact h1
theorem mD (C:Mem)(n:Nat)(h:n<=100000):Jog.Fn cx.P 77 [i_ n] C [] fun u _f a=>∃ b,u=s_ b n n/\a=[.arr u 32 1 n (List.replicate n (af [48]))]:=by
 refine UU func77 6 U3 fun w0=>UM 1 [0] U<|Vl [(2,3)] U fun R c=>Vj [[af [48]]] U12 fun g _ _ d=>UP U6<|D.call (nB _ _ n [48] d.m_ om_) U (.inr dc_) U6 (Rh _) fl_ fun i _ j _ e=>C6 1 [2] c U ?_;obtain⟨bz,rfl,rfl⟩:=e;refine U1 (Vx U U ?_);exact⟨bz,U,U⟩
theorem Gb (B:Bk)(a:Nat->List RowQ):(bV (bK B) a (List.range B.obs.length)).map SrcQ.r=cq B a:=rfl
abbrev sC7 (A:Option Addr)(n c:Nat):Value:=.slice A n c
theorem eZ (C:Mem)(M:Tabs C)(g:Value)(B:Bk)(N:List Rat)(c:Nat->List RowQ)(o:BookIn C g B)(h:Calm B N c) :
  Jog.Fn cx.P 37 [g] C [] fun u D k=>∃ (d:Option Addr)(e bz:Nat)(vs:List Value),u=.tuple #[.agg ⟨[i_ (bs B*bp B:Nat),.slice d (cq B c).length e,s_ bz (bs B*bp B) (bs B*bp B)]⟩,i_ 0]/\RowsOk D vs (cq B c) /\
   k=[.arr (.slice d (cq B c).length e) 140 2 (cq B c).length (aD vs (cq B c)).flatten,.arr (s_ bz (bs B*bp B) (bs B*bp B)) 32 1 (bs B*bp B) (List.replicate (bs B*bp B) (af [48]))]:=by
 have av:=o;have X:=h.rich.bookz M o;have Y:=h.cnt (cS _);have Z:=h.n12;have aw:=h.ob;obtain⟨l,x⟩:∃ l,bV (bK B) c (List.range B.obs.length)=l:=⟨_,rfl⟩;have O:cq B c=l.map SrcQ.r:=by rw[<- Gb,x]
 have ay:l.length<=120:=by
  have:=Y;rw[show pY B c (List.range B.obs.length)=cq B c from rfl,O,au]at this;exact this
 have aa:∀ D:Mem,C.le D->Pur cx.P 54 [g] D fun u E=>∃ v,u=.tuple #[v,i_ 0]/\Dq E v l:=fun D p=>by
  have:=MF D (M.mono p) g B N c (o.mono p) h.rich om_ (by rw[x];omega);rw[x]at this;exact this
 obtain⟨n,Q⟩:∃ n,bs B*bp B=n:=⟨_,rfl⟩;have ab:∀ D:Mem,C.le D->Gives cx.P 92 [g] D (.tuple #[i_ n,i_ 0]):=fun D p=>by
  have h:=AA D g B 0 (X.mono p) om_;rw[aJ rfl,Q]at h;exact h
 rw[O];rw[Q]at Z⊢;obtain⟨v1,v2,tv,cv,ov,rfl,h1,h2,h3,h4,h5⟩:=id o.ex;have az:=mx_
 refine UU func37 47 U3 fun w0=>UQ fun R a=>Vd U6 fun b1=>Ve U5 fun q=>C6 1 [1,2] a U<|G.freeze 1 U fun _ _ S=>UQ fun R a=>UO (bkT S 5) U8<|Vu (aa _ mup) U7 (fun aA _ _ ad=>?_);obtain⟨wv,rfl,ag⟩:=ad;obtain⟨vs,y,z⟩:=ag;have T:=jQ y;obtain⟨Aw,cw,rfl,ah,aB,_⟩:=id z;have aj:(bY vs l).length=l.length:=by unfold bY;simp[T]
 rw[aj]at z ah⊢;refine C6 5 [1,2,4,5] a U<|UM 2 [1,2,4,5,16] U<|G.cd (fun V=>?_) fun V=>?_
 ·exact absurd V dc_
 refine UQ fun R a=>UO (bkT S 5) U8<|UZ (ab _ mup) U7<|C6 5 [2,4,5,6] a U<|UM 2 [2,4,5,6,25] U<|G.cd (fun W=>?_) fun W=>?_
 ·exact absurd W dc_
 refine Vl [(2,3)] U fun R a=>UR 2 U<|D.call (mD _ n om_) U (.inr dc_) U6 (Rh _) fl_ (fun aC _ aE _ ak=>?_);obtain⟨bz,rfl,rfl⟩:=ak;refine Vf [i_ n,.slice none 0 0,s_ bz n n] U8<|Ve U5 fun t=>UX (j:=0) U12<|US [2,4,7] a U<|UM 3 [2,7,32,33,34] U<|G.nilArr 140 2<|G.perm (L':=[.arr (sC7 none 0 0) 140 2 0 (prC (vs.take 0) (l.take 0)).flatten,.arr (s_ bz n n) 32 1 n (List.replicate n (af [48])),.obj t (.cells ⟨[i_ n,.slice none 0 0,s_ bz n n]⟩ 74 (0,0)),.obj q (.cells ⟨[i_ 0,.slice none 0 0,.slice none 0 0]⟩ 74 (0,0))]) (pkL [0,1,0,0] U)<|G.loop (fun fr C' k μ=>∃ (i:Nat)(d:Option Addr)(n1 e:Nat),(i<=l.length)/\fr=[(2,[],p_ q),(7,[],p_ t),(32,[],.slice Aw l.length cw),(33,[],i_ l.length),(34,[],i_ i)]/\k=[.arr (sC7 d n1 e) 140 2 i (prC (vs.take i) (l.take i)).flatten,.arr (s_ bz n n) 32 1 n (List.replicate n (af [48])),.obj t (.cells ⟨[i_ n,.slice d n1 e,s_ bz n n]⟩ 74 (0,0)),.obj q (.cells ⟨[i_ 0,.slice none 0 0,.slice none 0 0]⟩ 74 (0,0))]/\μ=l.length-i) (hn_ [2,7,32,33,34] U) ⟨0,none,0,0,Re _,U,U,U⟩ (fun fr aF aG m _ hI=>?_);obtain⟨i,d,n1,e,hi,rfl,rfl,rfl⟩:=hI;refine UM 1 [2,7,32,33,34,35] U<|G.cd (fun A=>?_) fun A=>?_
 ·have F:i<l.length:=by
   have:=Qw A;omega
  obtain⟨s,H⟩:∃ s,l[i]?=some s:=⟨l[i],ai F⟩;obtain⟨w,I⟩:∃ w,vs[i]?=some w:=⟨vs[i]'om_,ai om_⟩;have al:=y.2 i w s.r I (by rw[Rb,H];rfl);obtain⟨Ax,am,rfl,_⟩:=id al;have an:=Ck T I H;refine UQ fun R a=>Va z.m_ U10 om_ (LN I H) fl_ fun aH ao=>UO ao U8<|Ve U5 fun b9=>UX (j:=0) U12<|US [2,7,9,32,33,34] a U<|G.freeze 0 U fun _ _ ap=>UN 1 U fun R a=>UW ac U9<|UP U6<|UO (bkT ap 2) U8<|Vj [[.slice Ax (s.r.f.map eE).length am,af (qtx s.r.b)]] U12 fun aI _ _ aq=>Vs (j:=0) U11 aq.m_ U ax (by show(i+1)*40<=_;omega) fl_ fun J K L=>UP U6<|UX (j:=2) U12<|US [2,7,32,33,34] a U<|UQ fun R a=>UV _ U U6<|C6 1 [2,7,32,33,34] a U<|G.perm (L':=[.arr (sC7 J K L) 140 2 (i+1) (prC (vs.take (i+1)) (l.take (i+1))).flatten,.arr (s_ bz n n) 32 1 n (List.replicate n (af [48])),.obj t (.cells ⟨[i_ n,.slice J K L,s_ bz n n]⟩ 74 (0,0)),.obj q (.cells ⟨[i_ 0,.slice none 0 0,.slice none 0 0]⟩ 74 (0,0))]) (by rw[an,RP];(exact pkL [1,1,0,0] U))<|U0 (m':=l.length-(i+1)) om_ mup (hn_ [2,7,32,33,34] U) ⟨i+1,J,K,L,om_,U,U,U⟩
 have F:i=l.length:=by
  have:=Rc A;omega
 subst F;refine UQ fun R a=>UW ac U9<|UX (j:=3) U12<|C6 1 [2,3] a U ?_;rw[RH (show vs.length<=l.length by omega),Rk];refine VC 3 U<|Wt ae (fun A0 c0 ar _=>?_);obtain⟨rfl,rfl,rfl⟩:d=A0/\n1=l.length/\e=c0:=by cases ar;exact⟨rfl,rfl,rfl⟩
 refine U1 (Xv 0 U U U U U U ?_);exact⟨d,e,bz,vs,by rw[au];rfl,RowsOk.mono y mup,by rw[au];rfl⟩
def jf (s p:Nat)(pt:Nat->Rat):List (List Str):=chunks s p (((List.range (s*p)).map pt).map qtx)
abbrev od (B:Bk)(RO:Nat->List RowQ):Lp.Sys:=bU (bs B*bp B) (dx (cq B RO))
inductive BuiO (B:Bk) (RO:Nat->List RowQ) (D:Mem):Value->Prop where
|yes (pt:Nat->Rat) (v:Value):(od B RO).At pt->Lp.CmD (bs B*bp B) 20 pt->(∀ j,QB 20 (pt j))->FieldsIn D v (jf (bs B) (bp B) pt)->BuiO B RO D (.tuple #[v,.agg ⟨[.slice none 0 0]⟩,.bool true,.int .i64 0])
|no (du:Nat->Rat) (vd:Value):Lp.InfR (od B RO) 20 du->Sl D 1 vd (((List.range (cq B RO).length).map du).map aQ)->BuiO B RO D (.tuple #[.slice none 0 0,.agg ⟨[vd]⟩,.bool false,.int .i64 0])
theorem HO {p:Lp.Sys}{D:Mem}(h:FeaO p D u):∃ (A:Option Addr)(n c:Nat)(A2:Option Addr)(n2 c2:Nat)(a:Bool),u=.tuple #[.slice A n c,.agg ⟨[.slice A2 n2 c2]⟩,.bool a,i_ 0] /\
  ((a=true/\A2=none/\n2=0/\c2=0/\∃ pt,p.At pt/\Lp.CmD p.n 20 pt/\(∀ j,QB 20 (pt j))/\Sl D 1 (.slice A n c) (((List.range p.n).map pt).map aQ)) ∨
  (a=false/\∃ du,Lp.InfR p 20 du/\Sl D 1 (.slice A2 n2 c2) (((List.range p.m).map du).map aQ))):=by
 cases h with
|yes pt g b d e h1 =>
  obtain⟨A,c,rfl,_⟩:=id h1;exact⟨_,_,_,_,_,_,true,U,.inl ⟨U,U,U,U,pt,b,d,e,h1⟩⟩
|no du i f h1 =>
  obtain⟨A,c,rfl,_⟩:=id h1;exact⟨_,_,_,_,_,_,false,U,.inr ⟨U,du,f,h1⟩⟩
theorem Ak (l:List Rat):l.map aQ=(l.map qtx).map gc:=by
 rw[R8];rfl
theorem xi (n:Nat):∀ x∈List.replicate n (0:Rat),QB 22 x:=fun x a=>by rw[(List.mem_replicate.1 a).2];exact QB_zero.le dc_
theorem yk (a:∀ j,QB 20 (pt j)):sa s p (((List.range (s*p)).map pt).map qtx)=0:=by
 unfold sa;rw[aJ ak,Ru.2 fun x b=>?_]
 ·rfl
 obtain⟨q,c,rfl⟩:=Ra.1 b;obtain⟨j,_,rfl⟩:=Ra.1 c;exact bA ((a j).le dc_)
theorem xu (a:∀ j,QB 20 (pt j)):∀ x∈((List.range (s*p)).map pt).map qtx,x.length<=999998:=fun x b=>by
 obtain⟨q,c,rfl⟩:=Ra.1 b;obtain⟨j,_,rfl⟩:=Ra.1 c;exact Rn (aZ (a j) dc_) dc_
theorem ye (C:Mem)(d:Tabs C)(k:Value)(B:Bk)(l:List Rat)(b:Nat->List RowQ)(c:BookIn C k B)(h:Calm B l b) :
  Pur cx.P 26 [k] C fun u D=>BuiO B b D u:=by
 have n:=c;have A:=h.rich.bookz d c;have aa:=h.n12;have e:=cS B.obs.length;have E:=h.rowsQ e;have F:=h.q22 e;have H:=h.lim e;obtain⟨v1,v2,tv,cv,ov,rfl,h1,h2,h3,h4,h5⟩:=id c.ex;have ab:=mx_
 refine UU func26 43 U3 fun w0=>UQ fun R a=>Vd U6 fun b1=>UP U6<|Ve U5 fun b3=>C6 2 [1,3] a U<|G.freeze 1 U fun _ _ o=>Vl [(1,3)] U fun R a=>UO (bkT o 5) U8<|D.call (eZ _ d.m_ _ B l b n.m_ h) U (.inr dc_) U6 (Rh _) fl_ (fun ac _ ad _ I=>?_);obtain⟨Ar,cr,bo,vs,rfl,q,rfl⟩:=I;refine UR 3 U<|Ve U5 fun b6=>UX (j:=0) U12<|C6 1 [1,3,5,6] a U<|UM 2 [1,3,5,6,14] U<|G.cd (fun r=>?_) fun r=>?_
 ·exact absurd r dc_
 refine G.freezeArr 1 (aD vs (cq B b)) U2 (bN _ _) (by rw[bk q.1]) (fun _ _ J=>?_);rw[gp];refine G.freezeArr 1 ((List.replicate (bs B*bp B) (0:Rat)).map aQ) U2 bP ak fun _ _ K=>G.freeze 0 U (fun L _ M=>?_);have N:=ig (RowsOk.m_ q) (J.mono mup:Sl L 2 _ _);refine UQ fun R a=>UO (bkT M 3) U8<|Vo (J4 _ d.m_ (bs B*bp B) _ _ (dx (cq B b)) (List.replicate (bs B*bp B) 0) N.m_ K.m_ E (xi _) F om_ ak H) U7 fl_ (fun ae _ _ O=>?_);obtain⟨Q,S,T,V,nd,cd,t,rfl,v⟩:=HO O;refine UR 6 U<|UX (j:=0) U12<|C6 2 [1,3,4,5,7] a U<|UN 5 U fun R a=>Vq U8<|US [1,3,5,7,29] a U<|G.cd (fun f=>?_) fun f=>?_
 ·have g:t=false:=by simpa using f
  subst g;obtain⟨du,W,w⟩:∃ du,Lp.InfR (od B b) 20 du/\Sl _ 1 (.slice V nd cd) (((List.range (od B b).m).map du).map aQ):=by
   rcases v with⟨h,_⟩|⟨_,h⟩
   ·cases h
   exact h
  refine Vg [0,1,2,3,4,5] [] U kr_ fun R c a=>UW ag U9<|UR 2 U<|UX (j:=0) U12<|UR 2 U<|US [2,3,4,5] a U ?_;clear a c R;refine U1 (Wn ag U7 ?_);refine⟨U,.no du _ W ?_⟩;rw[show(od B b).m=(cq B b).length from au _]at w;exact w.mono mup
 have g:t=true:=by simpa using f
 subst g;obtain⟨pt,X,Y,i,x⟩:∃ pt,(od B b).At pt/\Lp.CmD (bs B*bp B) 20 pt/\(∀ j,QB 20 (pt j))/\Sl _ 1 (.slice Q S T) (((List.range (bs B*bp B)).map pt).map aQ):=by
  rcases v with⟨_,_,_,_,h⟩|⟨h,_⟩
  ·exact h
  cases h
 rw[Ak]at x;have y:=yk (s:=bs B) (p:=bp B) i;refine UQ fun R a=>UO (bkT o 5) U8<|UP U6<|Vo (yo _ d.m_ _ _ B (((List.range (bs B*bp B)).map pt).map qtx) n.m_ A.m_ om_ x.m_ (xu i) ap) U7 fl_ (fun af _ _ Z=>?_);obtain⟨fv,rfl,z⟩:=Z;rw[y,aJ rfl]at z;rw[y];refine C6 5 [2,3,5] a U<|UN 1 U fun R a=>Vf ([.slice none 0 0]) U8<|UR 4 U<|UX (j:=0) U12<|C6 2 [2,3,4,5] a U<|U1 (Wn ag U7 ?_);exact⟨U,.yes pt _ X Y i z.m_⟩
open Go Go.Jog Go.Shelf
set_option maxRecDepth 100000
def yq (e:Nat × Nat):List Value:=[.int .i64 e.1,.int .i64 e.2]
def OB (x y:Nat × Nat):Int:=Mh [x.1,x.2] [y.1,y.2]
theorem vE {x y:Nat × Nat}:OB x y<0 ↔ ltP x y:=by
 unfold OB ltP;simp only[Mh];split
 ·exact⟨fun _=>.inl ‹_›,fun _=>by decide⟩
 split
 ·exact⟨fun h=>absurd h dc_,fun h=>by omega⟩
 split
 ·exact⟨fun _=>.inr ⟨by omega,‹_›⟩,fun _=>by decide⟩
 split
 ·exact⟨fun h=>absurd h dc_,fun h=>by omega⟩
 exact⟨fun h=>absurd h dc_,fun h=>by omega⟩
theorem La:Sort.SWO (ltOf OB) where
 irrefl x:=by unfold ltOf;exact RG (fun h=>zL x (vE.1 h))
 trans x y z h1 h2:=by
  unfold ltOf at *;simp only[Rj] at *;rw[vE] at *;unfold ltP at *;omega
 ntrans x y z h1 h2:=by
  unfold ltOf at *;simp only[RJ] at *;rw[vE] at *;unfold ltP at *;omega
def CV (ks:List fE)(s:fE):Bool:=decide (s.1<s.2) || !(decide (oC s∈ks))
def mb (s:fE):Nat × Nat:=((min s.1 s.2).toNat,(max s.1 s.2).toNat)
def kU (ks:List fE)(seen:List Nat):List (Nat × Nat):=((seen.map fun j=>ks.getD j (0,0)).filter (CV ks)).map mb
theorem DZ {seen:List Nat}{s:fE}(h:ks[j]?=some s):kU ks (seen++[j])=kU ks seen++if CV ks s then [mb s] else []:=by
 unfold kU;rw[RN,SM,RN];congr 1;rw[RR,Te,am,h,List.filter_cons];split <;> simp_all
theorem HT {s:fE}(a:0<=s.1)(b:0<=s.2):yq (mb s)=[i_ (min s.1 s.2),i_ (max s.1 s.2)]:=by
 unfold yq mb;rw[show(((min s.1 s.2).toNat:Nat):Int)=min s.1 s.2 by omega,show(((max s.1 s.2).toNat:Nat):Int)=max s.1 s.2 by omega]
theorem ur (h:∀ t∈tris,nX n t):∀ s∈bQ tris,0<=s.1/\0<=s.2/\s.1.toNat<n/\s.2.toNat<n:=by
 intro s hs;obtain⟨t,a,hs⟩:=List.mem_flatMap.1 hs;obtain⟨h1,h2,h3⟩:=h t a;simp only[pR,Rp,Sh,TF]at hs;rcases hs with rfl|rfl|rfl <;> simp[oD,Fc] <;> omega
structure EdgL (tris:List Tri)(es:List (Nat × Nat)):Prop where
 up:es.Pairwise ltP
 mem:∀ e,e∈es ↔ e.1<e.2/\(((e.1:Int),(e.2:Int))∈bQ tris∨((e.2:Int),(e.1:Int))∈bQ tris)
theorem EdgL.same {a:List (Nat × Nat)}(h:EdgL tris es)(k:EdgL tris a):es=a :=
 EZ zL Kn h.up k.up fun e=>(h.mem e).trans (k.mem e).symm
theorem EdgL.ok (h:EdgL tris es)(a:∀ t∈tris,nX n t)(s:Nat):EdgeOk s n es:=⟨fun e b=>by
 obtain⟨h1,h2⟩:=(h.mem e).1 b;rcases h2 with h2|h2
 ·have:=ur a _ h2;simp only[S6]at this;omega
 have:=ur a _ h2;simp only[S6]at this;omega⟩
theorem EdgL.le (h:EdgL tris es)(a:∀ t∈tris,nX n t)(b:n<=6):es.length<=15/\(n<=4->es.length<=6):=J5 b h.up (h.ok a 0).lt
theorem NQ {s t:fE}(a:0<=s.1)(b:0<=s.2)(c:0<=t.1)(d:0<=t.2)(h:mb s=mb t):s=t∨t=oC s:=by
 obtain⟨e,f⟩:=s;obtain⟨g,i⟩:=t;unfold mb at h;simp only[To,oC] at *;omega
theorem Og {l:List (Nat × Nat)}(c:ks.Perm (bQ tris))(o:(bQ tris).Nodup)(d:∀ s∈bQ tris,0<=s.1/\0<=s.2)
  (p:l.Perm ((ks.filter (CV (bQ tris))).map mb)) (q:es.Perm l) (b:es.Pairwise fun x y=>ltOf OB y x=false):EdgL tris es:=by
 have k:=q.trans p;have r:ks.Nodup:=c.nodup_iff.2 o;have f:∀ s∈ks.filter (CV (bQ tris)),s∈bQ tris/\CV (bQ tris) s=true:=fun s b=>by
  obtain⟨h1,h2⟩:=SH.1 b;exact⟨c.mem_iff.1 h1,h2⟩
 have u:((ks.filter (CV (bQ tris))).map mb).Nodup:=by
  rw[List.Nodup,List.pairwise_map];refine(r.filter _).imp_of_mem fun {s t} b v g w=>?_;obtain⟨a,k1⟩:=f s b;obtain⟨m,k2⟩:=f t v;obtain⟨i,a2⟩:=d s a;obtain⟨z,A⟩:=d t m;rcases NQ i a2 z A w with e|e
  ·exact g e
  subst e;unfold CV at k1 k2;have j:oC (oC s)=s:=rfl;simp only[j,a,m,decide_true,Bool.not_true,Bool.or_false,Rj]at k1 k2;simp only[oC]at k2;omega
 have g:es.Nodup:=k.nodup_iff.2 u;refine⟨?_,fun e=>?_⟩
 ·refine(List.Pairwise.and g b).imp fun {x y} ⟨h1,h2⟩=>?_;unfold ltOf at h2;have h3:¬ ltP y x:=fun h=>absurd (vE.2 h) (Rc h2);unfold ltP at h3⊢;obtain⟨x1,x2⟩:=x;obtain⟨y1,y2⟩:=y;simp only[ne_eq,To] at *;omega
 rw[k.mem_iff];constructor
 ·intro h;obtain⟨s,b,rfl⟩:=Ra.1 h;obtain⟨a,k1⟩:=f s b;obtain⟨i,a2⟩:=d s a;have n:s.1≠s.2:=fun e=>by
   unfold CV at k1;have j:oC s=s:=by obtain⟨x,y⟩:=s;simp only[oC] at *;rw[e]
   rw[j]at k1;simp only[a,decide_true,Bool.not_true,Bool.or_false,Rj]at k1;omega
  obtain⟨x,y⟩:=s;unfold mb;simp only at i a2 n a⊢;rcases Int.lt_or_gt_of_ne n with h|h
  ·refine⟨by omega,.inl ?_⟩;rw[show(((min x y).toNat:Nat):Int)=x by omega,show(((max x y).toNat:Nat):Int)=y by omega];exact a
  refine⟨by omega,.inr ?_⟩;rw[show(((min x y).toNat:Nat):Int)=y by omega,show(((max x y).toNat:Nat):Int)=x by omega];exact a
 rintro ⟨h1,h2⟩;have B:mb ((e.1:Int),(e.2:Int))=e:=by
  obtain⟨x,y⟩:=e;unfold mb;simp only[To] at *;omega
 have C:mb ((e.2:Int),(e.1:Int))=e:=by
  obtain⟨x,y⟩:=e;unfold mb;simp only[To] at *;omega
 by_cases h3:((e.1:Int),(e.2:Int))∈bQ tris
 ·refine Ra.2 ⟨_,SH.2 ⟨c.mem_iff.2 h3, ?_⟩,B⟩;unfold CV;rw[Rt (by show(e.1:Int)<e.2;omega)];rfl
 have h4:=h2.resolve_left h3;refine Ra.2 ⟨_,SH.2 ⟨c.mem_iff.2 h4, ?_⟩,C⟩;unfold CV;rw[show oC ((e.2:Int),(e.1:Int))=((e.1:Int),(e.2:Int)) from rfl,RG h3,Bool.not_false,Bool.or_true]
theorem ya (C:Mem)(a:Int):Gives cx.P 274 [i_ a] C (.bool false):=by
 exact UU func274 6 U3 fun w0=>UM 1 [0] U<|UM 4 [2] U<|UT U2<|⟨by simp,U⟩
theorem AD (C:Mem)(a b:Int):Gives cx.P 216 [i_ a,i_ b] C (i_ (MB a b)):=by
 refine UU func216 20 U3 fun w0=>UM 1 [0,1] U<|UN 1 U fun R d=>UZ (ya _ _) U7<|C6 1 [0,1,5] d U<|UN 1 U fun R d=>UZ (ya _ _) U7<|C6 1 [0,1,5,6] d U<|UM 1 [0,1,6,11] U<|G.cd (fun f=>?_) fun f=>?_
 ·cases f
 refine UM 1 [0,1,13] U<|G.cd (fun g=>?_) fun g=>?_
 ·cases g
 refine UM 3 [0,1,16] U<|G.cd (fun c=>?_) fun c=>?_
 ·refine UM 1 [4] U<|UT U2 ?_;simp only[Rj]at c;exact⟨by rw[MB,aJ c],U⟩
 refine UM 3 [19] U<|G.cd (fun e=>?_) fun e=>?_
 ·refine UM 1 [4] U<|UT U2 ?_;simp only[Rj,RJ]at c e;exact⟨by rw[MB,aF c,aF om_],U⟩
 refine UM 1 [4] U<|UT U2 ?_;simp only[RJ]at c e;exact⟨by rw[MB,aF c,aJ om_],U⟩
theorem AE (C:Mem)(v w:Value)(a b:List Nat)(l:Sl C 1 v (a.map aW))(n:Sl C 1 w (b.map aW))(L:a.length<=1000000)(_M:b.length<=1000000) :
  Gives cx.P 148 [v,w] C (i_ (Mh a b)):=by
 obtain⟨A,c,rfl,_⟩:=id l;obtain⟨B,d,rfl,_⟩:=id n;simp only[au]at l n⊢;refine UU func148 36 U3 fun w0=>UM 1 [0,1] U<|UM 3 [0,1,9,10,11] U<|G.loop (fun fr N z D=>∃ (k:Nat),(k<=a.length/\k<=b.length/\Mh (a.drop k) (b.drop k)=Mh a b)/\fr=[(0,[],.slice A a.length c),(1,[],.slice B b.length d),(9,[],.slice A a.length c),(10,[],i_ a.length),(11,[],i_ k)]/\z=[]/\D=a.length-k) (hn_ [0,1,9,10,11] U) ⟨0,⟨Re _,Re _,U⟩,U,U,U⟩ (fun fr O Q m _ E=>?_);obtain⟨k,⟨S,T,g⟩,rfl,rfl,rfl⟩:=E;refine UM 1 [0,1,9,10,11,12] U<|G.cd (fun o=>?_) fun o=>?_
 ·have h:k<a.length:=by simpa using o
  obtain⟨x,t⟩:∃ x,a[k]?=some x:=⟨a[k],ai h⟩;have F:(a.map aW)[k]?=some (aW x):=by rw[Rb,t];rfl
  have p:a.drop k=x::a.drop (k+1):=by rw[Ry h,(aT.1 t).2]
  refine UN 1 U fun R f=>Va l.m_ U10 om_ F fl_ fun V H=>UO H U8<|C6 2 [0,1,5,6,9,10,11] f U<|UM 4 [0,1,5,6,9,10,11,19] U<|G.cd (fun q=>?_) fun q=>?_
  ·have i:b.length<=k:=by simpa using q
   have j:b.drop k=[]:=S2 i;exact UM 1 [4] U<|UT U2<|⟨by rw[<- g,p,j];rfl,U⟩
  have i:k<b.length:=by
   have:¬ b.length<=k:=by simpa using q
   omega
  obtain⟨y,hy⟩:∃ y,b[k]?=some y:=⟨b[k],ai i⟩;have I:(b.map aW)[k]?=some (aW y):=by rw[Rb,hy];rfl
  have j:b.drop k=y::b.drop (k+1):=by rw[Ry i,(aT.1 hy).2]
  refine UN 2 U fun R f=>Va n.m_ U10 om_ I fl_ fun W J=>UO J U8<|C6 1 [0,1,6,7,9,10,11] f U<|UN 2 U fun R f=>UZ (AD _ _ _) U7<|C6 1 [0,1,8,9,10,11] f U<|UM 2 [0,1,8,9,10,11,28] U<|G.cd (fun r=>?_) fun r=>?_
  ·have e:MB x y≠0:=by simpa using r
   refine UM 2 [4] U<|UT U2<|⟨?_,U⟩;rw[<- g,p,j];simp only[Mh];unfold MB at e⊢;by_cases h1:x<y
   ·have h3:(x:Int)<y:=by omega
    rw[aJ h1,aJ h3]
   have h3:¬ (x:Int)<y:=by omega
   rw[aF h1,aF h3];rw[aF h3]at e;by_cases h2:y<x
   ·have h4:¬ (x:Int)=y:=by omega
    rw[aJ h2,aF h4]
   have h4:(x:Int)=y:=by omega
   rw[aJ h4]at e;exact absurd U e
  have e:MB x y=0:=by simpa using r
  have K:x=y:=by
   unfold MB at e;split at e
   ·cases e
   split at e
   ·omega
   cases e
  refine UQ fun R f=>UV _ U U6<|C6 1 [0,1,9,10,11] f U<|U0 (m':=a.length-(k+1)) om_ mup (hn_ [0,1,9,10,11] U) ⟨k+1,⟨by omega,by omega,by rw[<- g,p,j,K];simp[Mh]⟩,U,U,U⟩
 have h:k=a.length:=by
  have:¬ k<a.length:=by simpa using o
  omega
 subst h;rw[Sm]at g;refine UM 5 [35] U<|G.cd (fun s=>?_) fun s=>?_
 ·have u:a.length<b.length:=by simpa using s
  refine UM 1 [4] U<|UT U2<|⟨?_,U⟩;rw[<- g,Ry u];rfl
 have u:¬ a.length<b.length:=by simpa using s
 refine UM 1 [4] U<|UT U2<|⟨?_,U⟩;rw[<- g,S2 om_];rfl
theorem KV (C:Mem)(x y:Nat × Nat):Gives cx.P 147 [.agg ⟨yq x⟩,.agg ⟨yq y⟩] C (i_ (OB x y)):=by
 refine UU func147 8 U3 fun w0=>UQ fun R a=>Vd U6 fun m=>Vd U6 fun n=>C6 1 [2,3] a U<|G.freeze 1 U fun _ _ f=>G.freeze 0 U (fun d _ g=>?_);have e:∀ {b:Nat}(z:Nat × Nat){t:TypeId},d b=some (.cells ⟨yq z⟩ t (0,0))->Sl d 1 (s_ b 2 2) (([z.1,z.2]:List Nat).map aW):=fun z t h=>Sl.ofBlock (rows:=([z.1,z.2]:List Nat).map aW) (c:=2) h e_ (fun j v i=>by simpa [yq,aW] using i) (Q7 _) dc_;have k:=e x (Mem.get f mup);have l:=e y (Mem.get g mup);exact Vg [0,1,2,3] [(2,1)] U kr_ fun R o a=>Wa 0 2 2 U12 (fun _=>⟨.inl ⟨U,U⟩,.inl ⟨U,U⟩,.inl ⟨U,U⟩,by omega,by omega,Q7 _⟩) U2<|Wa 0 2 2 U12 (fun _=>⟨.inl ⟨U,U⟩,.inl ⟨U,U⟩,.inl ⟨U,U⟩,by omega,by omega,Q7 _⟩) U2<|Vh (fun _=>(AE _ _ _ [x.1,x.2] [y.1,y.2] k.m_ l.m_ (by show 2<=1000000;decide) (by show 2<=1000000;decide))) U9<|C6 1 [4] a U<|UT U2<|⟨U,U⟩
theorem Jm (C:Mem)(v:Value)(l:List (Nat × Nat))(d:l.length<=1000000):Jog.Fn cx.P 146 [v,.func (.func 147) #[] #[]] C [.arr v 163 2 l.length (l.map yq).flatten]
  fun u _e b=>∃ a:List (Nat × Nat),u=.tuple #[]/\b=[.arr v 163 2 l.length (a.map yq).flatten]/\a.Perm l/\a.Pairwise (fun x y=>ltOf OB y x=false) :=
 zl (P:=cx.P) (T:=tab) Tryz.sortE cx.hT rfl rfl yq fl_ (fun x=>rfl) OB La 147 [] C (fun x y c _=>KV c x y) v 163 l om_ kr_ kr_
abbrev sE (A:Option Addr)(n c:Nat):Value:=.slice A n c
theorem KT (l:List (Nat × Nat)):∀ r∈l.map yq,r.length=2:=fun r hr=>by obtain⟨y,_,rfl⟩:=Ra.1 hr;rfl
theorem wS (b:List fE)(a:List Nat):(kU b a).length<=a.length:=by
 unfold kU;rw[au];refine Rn (SS _ _) ?_;rw[au];exact Q7 _
theorem KU (C:Mem)(hT:Tabs C)(N:Value)(B:List Pt)(f:List Tri)(O:MeshIn C N B f)(E:Good B f) :
  Pur cx.P 76 [N] C fun u D=>∃ es v,u=.tuple #[v,i_ 0]/\EdgL f es/\Sl D 2 v (es.map yq):=by
 have n:=E.ok;have ah:=O;obtain⟨v1,v2,rfl,h1,h2⟩:=id O.ex;have aA:=mx_
 have x:=ur n.ins;have aj:=nt f;have aB:=n.lt;refine UU func76 63 U3 fun w0=>UQ fun R c=>Vd U6 fun b1=>C6 2 [1] c U<|G.freeze 0 U fun _ _ Q=>UQ fun R c=>UO (bkT Q 2) U8<|UZ (gU _ hT.m_ _ B f ah.m_ E) U7<|C6 1 [1,4] c U<|UM 2 [1,4,14] U<|G.cd (fun S=>?_) fun S=>?_
 ·exact absurd S dc_
 refine UQ fun R c=>UO (bkT Q 2) U8<|Vu (xA _ _ _ f E.ne h2.m_ (sP n.sides)) U7 (fun aC _ _ ak=>?_);obtain⟨b,rfl,g⟩:=ak;obtain⟨m,T⟩:∃ m,xE f f.length=m:=⟨_,rfl⟩;have y:m.map (·.1)=bQ f:=by
  have:=fP n.sides f.length (Q7 _);rw[Rk,T]at this;exact this
 rw[T]at g;obtain⟨ks,z⟩:∃ ks,bQ f=ks:=⟨_,rfl⟩;rw[z]at y x aj;have V:ks.length=m.length:=by rw[<- y];simp
 have W:∀ s:fE,(dZ m (s.2,s.1)).isSome=decide (oC s∈ks):=fun s=>by
  have:=CB (m:=m) (s:=s);rw[y]at this;rw[this];unfold jE;rw[Bool.not_not]
 refine C6 5 [5] c U<|UM 1 [5,7] U<|UN 1 U fun R c=>WB kI2.enc (Mem.get g mup) U U U U U U U fl_ fun A=>US [5,7,22] c U<|G.nilArr 163 2<|G.loop (fun fr C' F μ=>∃ (seen:List Nat)(o:Option Addr)(n1 r:Nat),(seen.Nodup/\(∀ j∈seen,j<ks.length))/\fr=[(5,[],.map (some b)),(7,[],.slice o n1 r),(22,[],p_ A)]/\F=[.arr (sE o n1 r) 163 2 (kU ks seen).length ((kU ks seen).map yq).flatten,.obj A (bl b m.length seen)]/\μ=ks.length-seen.length) (hn_ [5,7,22] U) ⟨[],none,0,0,⟨List.nodup_nil,by simp⟩,U,U,U⟩ (fun fr aD aE m _ hI=>?_);obtain⟨seen,o,n1,r,⟨H,I⟩,rfl,rfl,rfl⟩:=hI;refine UQ fun R c=>WE kI2.enc (q:=1) (Mem.get g mup) U U U U U U fl_ fun X aF k Y=>C6 1 [5,7,22,24] c U<|G.cd (fun t=>?_) fun t=>?_
 ·obtain⟨aG,j,Z,al,rfl⟩:X=true/\∃ j,j<m.length/\j ∉ seen/\k=seen++[j]:=by
   rcases Y with⟨h1,_⟩|h1
   ·rw[h1]at t;cases t
   exact h1
  rw[<- V]at Z;obtain⟨⟨s,bv⟩,hs⟩:∃ p,m[j]?=some p:=⟨m[j]'om_,ai om_⟩;have aa:ks[j]?=some s:=by rw[<- y,Rb,hs];rfl
  have J:(seen++[j]).Nodup:=by
   rw[SJ];exact⟨H,by simp,fun a ha b g e=>by rw[Rw.1 g]at e;subst e;exact al ha⟩
  have K:∀ i∈seen++[j],i<ks.length:=fun i w=>by
   rcases Rr.1 w with h|h
   ·exact I i h
   rw[Rw.1 h];exact Z
  have am:(seen++[j]).length<=ks.length:=by
   have:=List.Nodup.length_le_of_subset J (l₂:=List.range ks.length) (fun i w=>Rv.2 (K i w));simpa using this
  have aH:(seen++[j]).length=seen.length+1:=by simp
  have l:=DZ aa (seen:=seen);obtain⟨an,ao,_⟩:=x s (aM aa);have ap:=wS ks seen;refine UQ fun R c=>WC kI2.enc (Mem.get g mup) hs ag U U U U U U U<|UP U6<|Ve U5 fun b8=>UX (j:=0) U12<|US [5,7,8,22] c U<|UN 1 U fun R c=>Vi (1) U9 k_ U2<|UW ag U9<|Vi (0) U9 k_ U2<|UW ag U9<|Vf [i_ s.2,i_ s.1] U8<|WI kI2 (fun _=>(Mem.get g mup)) U U U U U U U U U (mi _ (dZ m (s.2,s.1))) U U<|C6 5 [5,7,8,10,22] c U<|UQ fun R c=>Vi (0) U9 k_ U2<|UW ag U9<|Vi (1) U9 k_ U2<|UW ag U9<|UR 4 U<|Vq U8<|US [5,7,8,22,45] c U<|G.cd (fun L=>?_) fun L=>?_
  ·have M:CV ks s=true:=by
    unfold CV;rw[<- W];exact L
   rw[M,aJ rfl]at l;have aI:(kU ks (seen++[j])).length=(kU ks seen).length+1:=by rw[l];simp
   refine UN 1 U fun R c=>Vi (0) U9 k_ U2<|UW ag U9<|Vi (1) U9 k_ U2<|UW ag U9<|D.min (min s.1 s.2) U6 U U2<|Vi (0) U9 k_ U2<|UW ag U9<|Vi (1) U9 k_ U2<|UW ag U9<|D.max (max s.1 s.2) U6 U U2<|Vf [i_ (min s.1 s.2),i_ (max s.1 s.2)] U8<|Vj [[i_ (min s.1 s.2),i_ (max s.1 s.2)]] U12 fun aK _ _ aq=>Vs (j:=2) U11 aq.m_ U ax q_ fl_ fun ab ac ad=>C6 1 [5,7,22] c U<|VC 1 U<|Vc (L':=[.arr (sE ab ac ad) 163 2 (kU ks (seen++[j])).length ((kU ks (seen++[j])).map yq).flatten,.obj A (bl b m.length (seen++[j]))]) (by rw[l,RN,RP,<- HT an ao];simp)<|U0 (m':=ks.length-(seen++[j]).length) om_ mup (hn_ [5,7,22] U) ⟨seen++[j],ab,ac,ad,⟨J,K⟩,U,U,U⟩
  have M:CV ks s=false:=by
   unfold CV;rw[<- W];exact L
  rw[M]at l;simp only[R7,SF,RC]at l;refine VC 0 U<|G.perm (L':=[.arr (sE o n1 r) 163 2 (kU ks (seen++[j])).length ((kU ks (seen++[j])).map yq).flatten,.obj A (bl b m.length (seen++[j]))]) (by rw[l];exact List.Perm.swap _ _ _)<|U0 (m':=ks.length-(seen++[j]).length) om_ mup (hn_ [5,7,22] U) ⟨seen++[j],o,n1,r,⟨J,K⟩,U,U,U⟩
 obtain⟨aL,rfl,ae⟩:X=false/\k=seen/\∀ j,j<m.length->j∈seen:=by
  rcases Y with h1|⟨h1,_⟩
  ·exact h1
  rw[h1]at t;cases t
 rw[<- V]at ae;have hp:=pT (d:=((0:Int),(0:Int))) H I ae;have ap:=wS ks k;have am:k.length<=ks.length:=by
  have:=List.Nodup.length_le_of_subset H (l₂:=List.range ks.length) (fun i w=>Rv.2 (I i w));simpa using this
 refine VC 0 U<|Vl [(1,3)] U fun R c=>UP U6<|D.call (Jm _ _ (kU ks k) om_) U (.inr dc_) U6 (Rh _) fl_ fun aN _ aO _ ar=>US [7] c U ?_;obtain⟨es,rfl,rfl,af,av⟩:=ar;have aw:EdgL f es:=Og (ks:=k.map fun j=>ks.getD j (0,0)) (by rw[z];exact hp) n.sides (fun s hs=>by rw[z]at hs;exact⟨(x s hs).1,(x s hs).2.1⟩) (by rw[z];exact Rh _) af av;have ay:es.length=(kU ks k).length:=af.length_eq;refine UM 3 [2,3] U<|G.freezeArr 0 (es.map yq) U2 (KT es) (by rw[au,ay]) fun Cf aP az=>U1 (G.dropAll (Vn U3 ?_));exact⟨U,es,_,U,aw,az⟩
theorem Nr {q:Rat}(h:q.den=1):q=(q.num:Rat):=Rat.ext rfl h
def wlB (D:Int)(q:Rat):Bool:=decide ((q*(D:Rat)).den=1) && decide ((q*(D:Rat)).num.natAbs<=999999999)
theorem Fu {D:Int}{q:Rat}(h:wlB D q=true):Wl D q:=by
 unfold wlB at h;simp only[Rq,Rj]at h;exact⟨_,Nr h.1,h.2⟩
theorem JI (D:Int)(a:D≠0)(c:D.natAbs<=999999999)(h:(r.f.all (wlB D) && wlB D r.b)=true):RowI r:=by
 simp only[Rq,Ru]at h;exact⟨D,a,c,fun q d=>Fu (h.1 q d),Fu h.2⟩
def xP (i:Nat):Pt:=if i<2 then (3,0) else if i=2 then (0,0) else (6,0)
def xD (i:Nat):Rat:=if i=1 then 5 else if i=3 then 1 else 4
def xX (i:Nat):Str:=if i=1 then [53] else if i=3 then [49] else [52]
def xN (i:Nat):Str:=if i % 2=0 then [97] else [98]
def xO (i:Nat):Obs:=⟨2,xN i,qtx (xP i).1,qtx (xP i).2,xX i,[66],[65],[],[],[]⟩
def xT (i:Nat):Obs:=⟨2,xN i,if i<2 then [51] else if i=2 then [48] else [54],[48],xX i,[66],[65],[],[],[]⟩
def xB (l:List Nat):Bk:=⟨[(0,0),(6,0),(0,4)],[(0,1,2)],[[49,48],[49,48],[49,48]],[⟨[65],0,none⟩,⟨[66],0,none⟩],l.map xO⟩
def xFs:List Rat:=[10,10,10]
theorem Gn:qtx 3=[51]:=im (z:=3) aq
theorem L4:qtx 4=[52]:=im (z:=4) aq
theorem PH:qtx 5=[53]:=im (z:=5) aq
theorem JS:qtx 6=[54]:=im (z:=6) aq
theorem Nu:qtx 1=[49]:=im (z:=1) aq
theorem PG:qtx 10=[49,48]:=im (z:=10) aq
theorem xX_e (i:Nat):qtx (xD i)=xX i:=by
 unfold xD xX;split
 ·exact PH
 split
 ·exact Nu
 exact L4
theorem IU (i:Nat):xO i=xT i:=by
 unfold xO xT xP;split
 ·simp only[Gn,qtx_zero]
 split <;> simp only[qtx_zero,JS]
theorem LG:∀ i<4,QB 22 (xD i)/\QB 22 (xP i).1/\QB 22 (xP i).2/\QB 22 (10-xD i)/\QP 23 (xP i):=by decide +kernel
theorem MN (i:Nat)(a:i<4):dm (xX i)=xD i:=Ns (xD i) (xX_e i) (LG i a).1
theorem QE (i:Nat)(a:i<4):aS (xX i)=true:=by rw[<- xX_e];exact bA (LG i a).1
theorem x_pt (i:Nat)(a:i<4):ptO (xO i)=xP i:=by
 unfold ptO;show(dm (qtx (xP i).1),dm (qtx (xP i).2))=xP i;rw[cT (bA (LG i a).2.1),cT (bA (LG i a).2.2.1)]
theorem I2:∀ i<4,lf (xB []).pts (xB []).tris (xP i)=[0]:=by decide +kernel
theorem x_sh:∀ i<4,ec (xT i)=0:=by decide +kernel
theorem O2:∀ i<4,LL (xB []).col (xT i)=false/\ordB (xB []).col (xT i)=false/\I1 (xT i)=false/\0<=kg (isU (xT i).upper) (xB []).col 0:=by decide +kernel
theorem QA:∀ i<4,decide (xD i<0)=false:=by decide +kernel
theorem x_ov (i:Nat)(a:i<4):ip (xB []).pts (xB []).tris (xB []).col (xO i)=0:=by
 obtain⟨h1,h2,h3,_⟩:=O2 i a;unfold ip;rw[aF (by rw[IU i,x_sh i a];decide),aF (by unfold K6;rw[x_pt i a,I2 i a];decide),aF (by rw[IU i,h1];decide),aF (by rw[IU i,h2];decide),aF (by
  unfold depB;rw[show(xO i).depth=xX i from rfl,MN i a,QA i a,Bool.and_false];decide),aF (by rw[IU i,h3];decide)]
theorem x_on:∀ i<4,onQ (xB []).pts xFs (0,1,2) (xP i)=10:=by decide +kernel
theorem O1 (i:Nat)(a:i<4):Fb (xB []).pts (xB []).tris xFs (xP i)=.tuple #[af (qtx 10),i_ 0]:=by
 unfold Fb;rw[I2 i a];show Ei (onQ (xB []).pts xFs (0,1,2) (xP i))=_;rw[x_on i a];unfold Ei;rw[aJ (bA aq)]
theorem x_w3:∀ i<4,∀ j<3,QB 22 (wgt (xB []).pts (0,1,2) (xP i) j):=by decide +kernel
theorem x_w (i:Nat)(a:i<4)(j:Nat):QB 22 (wgt (xB []).pts (0,1,2) (xP i) j):=by
 rw[MQ];exact x_w3 i a _ (RU _ dc_)
theorem x_sl:∀ j,QP 22 (slf (xB []).pts (0,1,2) j):=by
 intro j;unfold slf;rw[Jb];rcases(by omega:min j 2=0∨min j 2=1∨min j 2=2) with h|h|h <;> rw[h] <;> decide +kernel
theorem O6:Good (xB []).pts (xB []).tris:=(HB aq dc_ dc_ dc_).1
def xW (i:Nat):List Rat:=if i<2 then [1/2,1/2,0] else if i=2 then [1,0,0] else [0,1,0]
def xR (i:Nat):List RowQ:=[⟨xW i,10-xD i⟩,⟨(xW i).map (-1*·), -(10-xD i)⟩]
theorem MK:∀ i<4,((cG (xB []).col (xT i)).flatMap fun k=>[1, -1].map (ii (bs (xB [])) (bp (xB [])) k (atT (0,1,2) (wgt (xB []).pts (0,1,2) (xP i))) (10-xD i)))=xR i:=by decide +kernel
theorem LD (l:List Nat)(i:Nat)(a:i<4):rowsO (xB l) (xO i) (xP i) (0,1,2) 10=xR i:=by
 unfold rowsO;rw[aF (by show ¬ ((2:Int)=1);decide),aJ (by rfl)];unfold lG;rw[show(xO i).depth=xX i from rfl,MN i a,IU i];exact MK i a
theorem O4:∀ i<4,∀ r∈xR i,OW r:=by unfold OW;decide +kernel
theorem LF (i:Nat)(a:i<4):∀ r∈xR i,RowI r:=by
 have:∀ i<4,∀ r∈xR i,(r.f.all (wlB 2) && wlB 2 r.b)=true:=by decide +kernel
 exact fun r hr=>JI 2 dc_ dc_ (this i a r hr)
theorem Qz (i:Nat)(a:i<4):ObsR (xO i):=by
 have:∀ i<4,(xT i).name.length<=9/\(xT i).x.length<=9/\(xT i).y.length<=9/\(xT i).depth.length<=9:=by decide +kernel
 obtain⟨h1,h2,h3,h4⟩:=this i a;rw[IU i];exact⟨by omega,by omega,by omega,by omega,(by decide:1<=999998),(by decide:1<=999998),(by decide:0<=999998),(by decide:0<=999998),(by decide:0<=999998)⟩
theorem MP {o:Obs}(h:(xB l).obs[k]?=some o):∃ i,l[k]?=some i/\o=xO i:=by
 have a:(l.map xO)[k]?=some o:=h;rw[Rb]at a;cases b:l[k]? with
|none=>rw[b]at a;cases a
|some i=>rw[b]at a;exact⟨i,rfl,(SG a).symm⟩
structure XOk (l:List Nat):Prop where
 lt:∀ i∈l,i<4
 nd:(l.map xN).Nodup
 len:l.length<=4
theorem LH {l:List Nat}(b:XOk l):∀ n,n<=l.length->vY (xB l) n=0
|0,_=>rfl
|n+1,m=>by
  have d:=LH b n om_;show(if vY (xB l) n≠0 then vY (xB l) n else obZ (xB l) ((xB l).obs.take n) ((xB l).obs.getD n Ke))=0;rw[aF (by rw[d];decide)];have c:l[n]?=some l[n]:=ai om_;have f:(xB l).obs.getD n Ke=xO l[n]:=Mg (by
   show(l.map xO)[n]?=_;rw[Rb,c];rfl)
  rw[f];unfold obZ;rw[aF (by rw[show ip (xB l).pts (xB l).tris (xB l).col (xO l[n])=0 from x_ov _ (b.lt _ (R6 _))];decide),aF fun hm=>?_];obtain⟨o,g,e⟩:=Ra.1 hm;obtain⟨j,a⟩:=SE g;rw[R2]at a;split at a
  ·rename_i p;obtain⟨i,h,rfl⟩:=MP a;have k:xN i=xN l[n]:=e;have h1:(l.map xN)[j]?=some (xN l[n]):=by rw[Rb,h];exact congrArg some k
   have h2:(l.map xN)[n]?=some (xN l[n]):=by rw[Rb,c];rfl
   have:=(List.getElem?_inj (by rw[au];omega) b.nd).1 (h1.trans h2.symm);omega
  cases a
theorem pn (l:List Nat):(xB l).obs.length=l.length:=by simp[xB]
theorem QG (a:XOk l):iP (xB l)=0:=by
 unfold iP;have:=a.len;rw[aF (by show ¬ (ou (xB []).pts.length (xB []).terr≠0);decide +kernel),aF (by show ¬ (sh (xB []).col≠0);decide +kernel),aF (by rw[pn];omega),pn];exact LH a _ (Q7 _)
theorem QH (b:XOk l):BookR (xB l):=by
 refine⟨by show ∀ x∈(xB []).terr,_;decide, ?_,by show(xB []).col.length<=_;decide,fun o c=>?_⟩
 ·intro x a;simp only[xB,Rp,Sh,TF]at a;rcases a with rfl|rfl
  ·exact⟨by decide +kernel,fun q h=>by simp at h,by decide⟩
  exact⟨by decide +kernel,fun q h=>by simp at h,by decide⟩
 obtain⟨k,d⟩:=SE c;obtain⟨i,e,rfl⟩:=MP d;exact Qz i (b.lt i (aM e))
theorem O8 (l:List Nat)(i:Nat)(a:i<4):Fine (xB l) xFs (xO i) (xP i) 0 (0,1,2) 10:=by
 obtain⟨f,b,c,d,e⟩:=LG i a;refine⟨⟨U,U,e,⟨bA b,bA c⟩,fun _=>QE i a⟩,⟨[],I2 i a⟩,U,O1 i a,by decide +kernel, ?_,x_w i a, ?_,x_sl,fun _ h=>absurd U h, ?_⟩
 ·unfold lG;rw[aJ (by rfl),show(xO i).depth=xX i from rfl,MN i a];exact d
 ·exact(O2 i a).2.2.2
 rw[LD l i a];exact O4 i a
theorem O3 (l:List Nat):Terr (xB l) xFs:=⟨by simp[xB,xFs,PG],rfl,by decide +kernel⟩
def xRO (l:List Nat)(k:Nat):List RowQ:=xR (l.getD k 0)
theorem ze (b:XOk l):Calm (xB l) xFs (xRO l):=by
 have c:∀ k,k<l.length->l.getD k 0<4:=fun k d=>by
  rw[am,ai d];exact b.lt _ (R6 _)
 have h4:=b.len;refine⟨⟨O6,QH b,QG b,O3 l,(by decide:3<=60),fun k o e=>?_⟩,(by decide:3<=12),fun r hr=>?_,fun i a=>LF _ (c i (by rw[pn]at a;exact a)), ?_,fun i a=>(by show 2<=8;decide),by rw[pn];omega⟩
 ·obtain⟨i,a,rfl⟩:=MP e;have h1:=b.lt i (aM a);refine⟨_,_,_,_,O8 l i h1, ?_⟩;rw[LD l i h1,xRO,am,a];rfl
 ·have:bK (xB l)=[]:=rfl;rw[this]at hr;cases hr
 have:bK (xB l)=[]:=rfl;rw[this];decide
theorem ok0:XOk [0]:=⟨by decide,by decide,by decide⟩
theorem ok01:XOk [0,1]:=⟨by decide,by decide,by decide⟩
theorem ok23:XOk [2,3]:=⟨by decide,by decide,by decide⟩
theorem rows0:cq (xB [0]) (xRO [0])=xR 0:=by rw[cq,jT,pn];rfl
theorem Pv:cq (xB [0,1]) (xRO [0,1])=xR 0++xR 1:=by rw[cq,jT,pn];rfl
theorem Pu:cq (xB [2,3]) (xRO [2,3])=xR 2++xR 3:=by rw[cq,jT,pn];rfl
theorem QC:Lp.Val (bU 3 (dx (xR 0))) (fun j=>([1/2,1/2,0]:List Rat).getD j 0) 1 6:=by
 refine .inl ⟨U,⟨fun _=>6,hU.2 aq,by decide +kernel⟩,fun y hy=>?_⟩;have h1:=hU.1 hy ⟨[-1/2, -1/2,0], -6⟩ aq;show _<=Lp.sumN _ 3;simp only[Lp.sumN,am,List.getElem?_cons_zero,SV,Sr]at h1⊢;grind
theorem O5:Lp.Val (bU 3 (dx (xR 0))) (fun j=>([-1/2, -1/2,0]:List Rat).getD j 0) 1 (-6):=by
 refine .inl ⟨U,⟨fun _=>6,hU.2 aq,by decide +kernel⟩,fun y hy=>?_⟩;have h1:=hU.1 hy ⟨[1/2,1/2,0],6⟩ aq;show _<=Lp.sumN _ 3;simp only[Lp.sumN,am,List.getElem?_cons_zero,SV,Sr]at h1⊢;grind
theorem x_no:¬ (bU 3 (dx (xR 0++xR 1))).Hold:=by
 rintro ⟨y,hy⟩;have h1:=hU.1 hy ⟨[-1/2, -1/2,0], -6⟩ aq;have h2:=hU.1 hy ⟨[1/2,1/2,0],5⟩ aq;simp only[Lp.sumN,am,List.getElem?_cons_zero,SV,Sr]at h1 h2;grind
def es3:List (Nat × Nat):=[(0,1),(0,2),(1,2)]
theorem P6:EdgL [(0,1,2)] es3:=by
 refine⟨by simp[es3,ltP],fun e=>?_⟩;rw[show bQ [(0,1,2)]=[(0,1),(1,2),(2,0)] from rfl];obtain⟨x,y⟩:=e;simp only[es3,Rp,Sh,TF,To];omega
theorem P5:EdgeOk 1 3 es3:=⟨by decide⟩
theorem O7:Lp.Val (bU (1*3+1*es3.length) (dx (zy (xR 2++xR 3) (1*3) 3 es3 (1*es3.length)))) (fun j=>(nA (1*3) (1*es3.length)).getD j 0) 1 6:=by
 refine .inl ⟨U,⟨fun j=>([6,9,6,3,0,3]:List Rat).getD j 0,hU.2 aq,by decide +kernel⟩,fun y hy=>?_⟩;obtain⟨h0,h2⟩:=(LU P5 aq).1 hy;have h1:=hU.1 h0 ⟨[1,0,0],6⟩ aq;have h3:=hU.1 h0 ⟨[0, -1,0], -9⟩ aq;have k0:=yQ.1 (h2 0 dc_);have k1:=yQ.1 (h2 1 dc_);have k2:=yQ.1 (h2 2 dc_);rw[show OV 3 es3 y 0=y 0-y 1 from rfl]at k0;rw[show OV 3 es3 y 1=y 0-y 2 from rfl]at k1;rw[show OV 3 es3 y 2=y 1-y 2 from rfl]at k2;rw[show Lp.sumN (fun j=>(nA (1*3) (1*es3.length)).getD j 0*y j) (bU (1*3+1*es3.length) (dx (zy (xR 2++xR 3) (1*3) 3 es3 (1*es3.length)))).n=_ from GS (h:=1*3) (more:=1*es3.length)];show _<=Lp.sumN (fun k=>y (3+k)) 3;simp only[TH,Lp.sumN,am,List.getElem?_cons_zero,SV,Sr,SQ,Nat.reduceAdd]at h1 h3 k0 k1 k2⊢;grind
abbrev tq (q:Rat):Value:=af (qtx q)
theorem uj (l:List Rat):(l.map aQ).flatten=l.map tq:=eB tq l
theorem fy {l:List Rat}(h:i<l.length):aE (l.map tq) [tq x] i=(l.set i x).map tq:=by
 rw[List.set_eq_take_append_cons_drop,aJ h];unfold aE;simp[List.map_drop]
theorem LW (n:Nat):List.replicate n (af [48])=(List.replicate n (0:Rat)).map tq:=by rw[gp,uj]
def zf (n a:Nat)(t:Tri)(w:Nat->Rat):Nat->List Rat
|0=>List.replicate n 0
|j+1=>(zf n a t w j).set (a+ie t j) (w j)
theorem fx (n a:Nat)(t:Tri)(w:Nat->Rat):∀ j,(zf n a t w j).length=n
|0=>RI
|j+1=>by rw[zf,R3,fx n a t w j]
theorem I5 (C:Mem)(k:Tabs C)(f:Value)(B:Bk)(L:List Rat)(M:Nat->List RowQ)(s:Nat)(p:Pt)(i:Nat)(r:List Nat)(t:Tri)(b:BookIn C f B)(h:Calm B L M)(N:s<bs B)(x:QP 23 p)(y:PtR p)
  (O:lf B.pts B.tris p=i::r) (l:B.tris[i]?=some t) (Q:∀ j,QB 22 (wgt B.pts t p j)) :
  Pur cx.P 59 [f,i_ s,ptV p] C fun u D=>∃ v,u=.tuple #[v,i_ 0]/\Sl D 1 v ((zf (bs B*bp B) (s*bp B) t (wgt B.pts t p) 3).map aQ):=by
 have S:=b;have o:=h.rich.good;have T:=h.rich.bookz k b;have V:=h.n12;have W:=o.ok.ins t (aM l);have q:∀ D:Mem,C.le D->Gives cx.P 92 [f] D (.tuple #[i_ (bs B*bp B:Nat),i_ 0]):=fun D X=>by
  have h:=AA D f B 0 (T.mono X) om_;rw[aJ rfl]at h;exact h
 obtain⟨z,A,tv,cv,ov,rfl,h1,h2,h3,h4,h5⟩:=id b.ex;have hm:MeshIn C (.agg ⟨[z,A]⟩) B.pts B.tris:=⟨z,A,rfl,h1,h2⟩;obtain⟨A1,c1,rfl,Y,_⟩:=id h1;obtain⟨A2,c2,rfl,Z,_⟩:=id h2;have aa:(B.pts.map gD).length=bp B:=au _;have ab:(B.tris.map iF).length=B.tris.length:=au _;simp only[aa,ab]at h1 Y h2 Z hm S q⊢;have ak:=mx_
 obtain⟨n,E⟩:∃ n,bs B*bp B=n:=⟨_,rfl⟩;have c:∀ j,s*bp B+ie t j<n:=fun j=>by rw[<- E];exact GV N (eS W j)
 rw[E]at q V⊢;have al:=c 0;have am:=c 1;have an:=c 2;refine UU func59 78 U3 fun w0=>?_;refine UQ fun R a=>?_;refine Vd U6 (fun b3=>?_);refine Vd U6 (fun b5=>?_);refine C6 2 [1,3,5] a U ?_;clear a R;refine G.freeze 1 U (fun _ _ d=>?_);refine G.freeze 0 U (fun _ _ F=>?_);refine UQ fun R a=>?_;refine UO (bkT d 5) U8 ?_;refine UZ (q _ mup) U7 ?_;refine C6 5 [1,3,5,8,9] a U ?_;clear a R;refine UM 2 [1,3,5,8,9,21] U ?_;refine G.cd (fun H=>?_) fun H=>?_
 ·exact absurd H dc_
 refine UN 1 U fun R a=>?_;refine UO (bkT d 2) U8 ?_;refine UO (bkT F 2) U8 ?_;refine Vu (ml _ k.m_ _ B.pts B.tris p hm.m_ o x y) U7 (fun ao _ _ ac=>?_);obtain⟨wv,rfl,g⟩:=ac;rw[O]at g;obtain⟨Aw,cw,rfl,_⟩:=id g;refine C6 5 [1,3,5,8,9,10] a U ?_;clear a R;refine UM 2 [1,3,5,8,9,10,31] U ?_;refine G.cd (fun I=>?_) fun I=>?_
 ·exact absurd I dc_
 refine UM 3 [1,3,5,8,10,35] U ?_;refine G.cd (fun J=>?_) fun J=>?_
 ·exact absurd (Qw J) ap
 refine Vg [0,1,2,3,4,5,6,7,8,9,10,11,12] [(6,1)] U kr_ (fun R b a=>?_);refine UP U6 ?_;refine UO (bkT d 2) U8 ?_;refine UP U6 ?_;refine Va g.m_ U10 om_ (rfl:(List.map aW (i::r))[0]?=some (aW i)) fl_ (fun aq ad=>?_);refine UO ad U8 ?_;refine UO (bkT F 2) U8 ?_;refine Vv (fun _=>(wR _ k.m_ _ B.pts B.tris p i t hm.m_ o x y l Q)) U9 ?_;refine UR 3 U ?_;refine Ve U5 (fun ae=>?_);refine UX (j:=0) U12 ?_;refine UP U6 ?_;refine US [1,3,8,9,10,11] a U ?_;clear a b R;refine UM 2 [1,3,8,9,10,11,47] U ?_;refine G.cd (fun K=>?_) fun K=>?_
 ·exact absurd K dc_
 refine Vl [(1,3)] U (fun R a=>?_);refine UP U6 ?_;refine D.call (mD _ n om_) U (.inr dc_) U6 (Rh _) fl_ (fun ar _ av _ af=>?_);refine C6 1 [1,3,10,11,12] a U ?_;clear a R;obtain⟨bz,rfl,rfl⟩:=af;refine G.freeze 1 U (fun _ _ w=>?_);refine Vg [0,1,2,3,4,5,6,7,8] [] U kr_ (fun R b a=>?_);refine UR 2 U ?_;refine UO (bkT d 1) U8 ?_;refine UP U6 ?_;refine Va g.m_ U10 om_ (rfl:(List.map aW (i::r))[0]?=some (aW i)) fl_ (fun aw ag=>?_);refine UO ag U8 ?_;refine Va h2.m_ U10 om_ (by rw[Rb,l];rfl:(B.tris.map iF)[i]?=some (iF t)) fl_ (fun ax ah=>?_);refine UO ah U8 ?_;refine UP U6 ?_;refine US [1,3,11,12,58,59] a U ?_;clear a b R;refine Vc (L':=[.arr (s_ bz n n) 32 1 n ((zf n (s*bp B) t (wgt B.pts t p) 0).map tq)]) (by rw[LW];rfl) ?_;refine G.loop (fun fr C' e μ=>∃ (j:Nat),(j<=3)/\fr=[(1,[],i_ s),(3,[],p_ b3),(11,[],p_ ae),(12,[],s_ bz n n),(58,[],.agg ⟨iF t⟩),(59,[],i_ j)]/\e=[.arr (s_ bz n n) 32 1 n ((zf n (s*bp B) t (wgt B.pts t p) j).map tq)]/\μ=3-j) (hn_ [1,3,11,12,58,59] U) ⟨0,Re _,U,U,U⟩ (fun fr ay az m _ hI=>?_);obtain⟨j,hj,rfl,rfl,rfl⟩:=hI;refine UM 1 [1,3,11,12,58,59,60] U ?_;refine G.cd (fun h60=>?_) fun h60=>?_
 ·have aA:j<3:=by
   have:=Qw h60;omega
  rcases(by omega:j=0∨j=1∨j=2) with rfl|rfl|rfl
  ·refine UN 1 U fun R a=>?_;refine VO U11 (fun _=>⟨by omega,by omega,(show(iF t)[((0:Nat):Int).toNat]?=some (i_ ((ie t 0:Nat):Int)) from by rw[<- BF];exact rk t dc_)⟩) U2 ?_;refine C6 2 [1,3,11,12,13,14,58,59] a U ?_;clear a R;refine Vg [0,1,2,3,4,5,6,7,8,9,10,11,12,13] [] U kr_ (fun R b a=>?_);refine UR 4 U ?_;refine UO (bkT d 1) U8 ?_;refine UP U6 ?_;refine UV (((s*bp B:Nat):Int)) (RF _ _) U6 ?_;refine UP U6 ?_;refine Vt (((s*bp B+ie t 0:Nat):Int)) U4 om_ om_ om_ U2 ?_;refine UP U6 ?_;refine Vi (0) U9 k_ U2 ?_;refine UO (bkT w 1) U8 ?_;refine Vp ((s*bp B+ie t 0)) U10 v_ U2 ?_;refine Vr (j:=0) U11 (by rw[au,fx];have:=c 0;simp;omega) ?_;refine US [1,3,11,12,58,59] a U ?_;clear a b R;refine UQ fun R a=>?_;refine UV _ U U6 ?_;refine C6 1 [1,3,11,12,58,59] a U ?_;clear a R;refine Vc (L':=[.arr (s_ bz n n) 32 1 n ((zf n (s*bp B) t (wgt B.pts t p) 1).map tq)]) (by rw[fy (by rw[fx];exact c 0)];rfl) ?_;refine U0 (m':=2) om_ mup (hn_ [1,3,11,12,58,59] U) ⟨1,by decide,U,U,U⟩
  ·refine UN 1 U fun R a=>?_;refine VO U11 (fun _=>⟨by omega,by omega,(show(iF t)[((1:Nat):Int).toNat]?=some (i_ ((ie t 1:Nat):Int)) from by rw[<- BF];exact rk t dc_)⟩) U2 ?_;refine C6 2 [1,3,11,12,13,14,58,59] a U ?_;clear a R;refine Vg [0,1,2,3,4,5,6,7,8,9,10,11,12,13] [] U kr_ (fun R b a=>?_);refine UR 4 U ?_;refine UO (bkT d 1) U8 ?_;refine UP U6 ?_;refine UV (((s*bp B:Nat):Int)) (RF _ _) U6 ?_;refine UP U6 ?_;refine Vt (((s*bp B+ie t 1:Nat):Int)) U4 om_ om_ om_ U2 ?_;refine UP U6 ?_;refine Vi (1) U9 k_ U2 ?_;refine UO (bkT w 1) U8 ?_;refine Vp ((s*bp B+ie t 1)) U10 v_ U2 ?_;refine Vr (j:=0) U11 (by rw[au,fx];have:=c 1;simp;omega) ?_;refine US [1,3,11,12,58,59] a U ?_;clear a b R;refine UQ fun R a=>?_;refine UV _ U U6 ?_;refine C6 1 [1,3,11,12,58,59] a U ?_;clear a R;refine Vc (L':=[.arr (s_ bz n n) 32 1 n ((zf n (s*bp B) t (wgt B.pts t p) 2).map tq)]) (by rw[fy (by rw[fx];exact c 1)];rfl) ?_;refine U0 (m':=1) om_ mup (hn_ [1,3,11,12,58,59] U) ⟨2,by decide,U,U,U⟩
  refine UN 1 U fun R a=>?_;refine VO U11 (fun _=>⟨by omega,by omega,(show(iF t)[((2:Nat):Int).toNat]?=some (i_ ((ie t 2:Nat):Int)) from by rw[<- BF];exact rk t dc_)⟩) U2 ?_;refine C6 2 [1,3,11,12,13,14,58,59] a U ?_;clear a R;refine Vg [0,1,2,3,4,5,6,7,8,9,10,11,12,13] [] U kr_ (fun R b a=>?_);refine UR 4 U ?_;refine UO (bkT d 1) U8 ?_;refine UP U6 ?_;refine UV (((s*bp B:Nat):Int)) (RF _ _) U6 ?_;refine UP U6 ?_;refine Vt (((s*bp B+ie t 2:Nat):Int)) U4 om_ om_ om_ U2 ?_;refine UP U6 ?_;refine Vi (2) U9 k_ U2 ?_;refine UO (bkT w 1) U8 ?_;refine Vp ((s*bp B+ie t 2)) U10 v_ U2 ?_;refine Vr (j:=0) U11 (by rw[au,fx];have:=c 2;simp;omega) ?_;refine US [1,3,11,12,58,59] a U ?_;clear a b R;refine UQ fun R a=>?_;refine UV _ U U6 ?_;refine C6 1 [1,3,11,12,58,59] a U ?_;clear a R;refine Vc (L':=[.arr (s_ bz n n) 32 1 n ((zf n (s*bp B) t (wgt B.pts t p) 3).map tq)]) (by rw[fy (by rw[fx];exact c 2)];rfl) ?_;refine U0 (m':=0) om_ mup (hn_ [1,3,11,12,58,59] U) ⟨3,by decide,U,U,U⟩
 have ai:j=3:=by
  have:=Rc h60;omega
 subst ai;refine UM 3 [6,7] U ?_;rw[<- uj];refine G.freezeArr 0 ((zf n (s*bp B) t (wgt B.pts t p) 3).map aQ) U2 bP (by rw[au,fx]) (fun Cf aB aj=>?_);refine U1 (G.dropAll (Vn U3 ?_));exact⟨U,_,U,aj⟩
theorem wH {A B:List Value}{x:Value}(h:A.length=j):aE (A++x::B) [v] j=A++v::B:=by
 subst h;unfold aE;rw[List.take_left,Q8];have:List.drop (A.length+1) (A++x::B)=B:=by rw[TX];simp
 rw[this];simp
theorem Gx (C:Mem)(G:Tabs C)(n:Nat)(l d:Value)(b:List (List Rat × Rat))(a:List Rat)(H:RowsT C l (b.map di))(I:RowsQ n b)(J:∀ x∈a,QB 22 x)(K:∀ r∈b,(∀ x∈r.1,QB 22 x)/\QB 22 r.2)(M:n<=60)(z:a.length=n)(N:Lp.Lim (bU n b) (fun j=>a.getD j 0) 20) :
  Jog.Fn cx.P 21 [.agg ⟨[i_ n,l,d]⟩] C [.arr d 32 1 n (a.map tq)] fun u _ g=>(∃ (kd:Int)(v:Rat)(i:Str)(o:Option Addr)(n1 p:Nat)(A2:Option Addr)(n2 c2:Nat)(q:Option Addr)(t w:Nat),
   u=.tuple #[.agg ⟨[i_ kd,af i,.slice o n1 p,.slice A2 n2 c2,.slice q t w]⟩,i_ 0]/\(kd=1->i=qtx v)/\Lp.Val (bU n b) (fun j=>a.getD j 0) kd v/\QB 20 v)/\g=[.arr d 32 1 n (a.map tq)]:=by
 have h1:=Wg (P:=cx.P) (f:=21) (args:=[.agg ⟨[i_ n,l,d]⟩]) (C:=C) (L:=[]) (v:=d) (e:=32) (s:=1) (m:=n) (rows:=a.map aQ)
  (post:=fun u g=>g=[]/\∃ (kd:Int)(v:Rat)(i:Str)(o:Option Addr)(n1 p:Nat)(A2:Option Addr)(n2 c2:Nat)(q:Option Addr)(t w:Nat),
   u=.tuple #[.agg ⟨[i_ kd,af i,.slice o n1 p,.slice A2 n2 c2,.slice q t w]⟩,i_ 0]/\(kd=1->i=qtx v)/\Lp.Val (bU n b) (fun j=>a.getD j 0) kd v/\QB 20 v) kr_ bP (by rw[au,z]) fun D B hs=>by
  refine Fn.mono (Gy D (G.mono B) n l d b a (H.mono B) hs I J K M z N) fun u E g _ ⟨h0,r,h1,h2⟩=>⟨h0, ?_⟩;subst h1;cases h2 with
 |opt val pt du O Q F k y =>
   obtain⟨A,c,rfl,_⟩:=id k;obtain⟨A2,c2,rfl,_⟩:=id y;exact⟨1,val,_,_,_,_,_,_,_,_,_,_,U,fun _=>rfl,F.val,F.qv⟩
 |inf du Q R k =>
   obtain⟨A,c,rfl,_⟩:=id k;exact⟨2,0,_,_,_,_,_,_,_,_,_,_,U,fun h=>absurd h dc_,R.val 0,QB_zero.le dc_⟩
 |unb pt ra O T S k y =>
   obtain⟨A,c,rfl,_⟩:=id k;obtain⟨A2,c2,rfl,_⟩:=id y;exact⟨3,0,_,_,_,_,_,_,_,_,_,_,U,fun h=>absurd h dc_,S.val 0,QB_zero.le dc_⟩
 rw[uj]at h1;exact Fn.mono h1 fun u E V _ ⟨g,h2,h3,h4⟩=>⟨h4,by rw[h2,h3]⟩
def sC (k:Nat):Rat:=if k=0 then 1 else -1
def Fg (kd:Int)(v:Rat):Str:=if kd=1 then qtx (1*v) else []
def oE (kd:Int)(v:Rat):Str:=if kd=1 then qtx (-1*v) else []
def sgL (c:List Rat)(k:Nat):List Rat:=c.map (sC k*·)
def MG (p:Lp.Sys)(c:List Rat)(u:Value):Prop:=∃ (kd1:Int)(v1:Rat)(kd2:Int)(v2:Rat),(QB 20 v1/\QB 20 v2)/\Lp.Val p (fun j=>(sgL c 0).getD j 0) kd1 v1/\(kd1≠2->Lp.Val p (fun j=>(sgL c 1).getD j 0) kd2 v2) /\
 ((kd1=2/\u=.tuple #[af [],af [],.int .i64 22])∨(kd1≠2/\u=.tuple #[af (Fg kd1 v1),af (oE kd2 v2),.int .i64 0]))
theorem I8 {p:Lp.Sys}{d:Nat->Rat}{c:Int}{v w:Rat}(h:Lp.Val p cc kd v)(k:Lp.Val p d c w)(f:kd≠2):c≠2:=by
 intro e;have b:¬ p.Hold:=by
  rcases k with⟨a,_⟩|⟨_,b⟩|⟨a,_⟩
  ·rw[a]at e;cases e
  ·exact b
  rw[a]at e;cases e
 rcases h with⟨_,⟨y,hy,_⟩,_⟩|⟨a,_⟩|⟨_,hh,_⟩
 ·exact b ⟨y,hy⟩
 ·exact f a
 exact b hh
theorem Gp:qtx (-1)=[45,49]:=im (z:=-1) aq
theorem sgns:[[af [49]],[af [45,49]]]=([1, -1]:List Rat).map aQ:=by
 show _=[[af (qtx 1)],[af (qtx (-1))]];rw[Nu,Gp]
theorem LR (a:k<2):([1, -1]:List Rat)[k]?=some (sC k):=by
 rcases(by omega:k=0∨k=1) with rfl|rfl <;> rfl
theorem BU (k:Nat):QB 22 (sC k):=by
 unfold sC;split
 ·decide +kernel
 decide +kernel
abbrev sO2 (A:Option Addr)(n c:Nat):Value:=.slice A n c
theorem Hw (C:Mem)(H:Tabs C)(Q:Value)(B:Bk)(M:List Rat)(o:Nat->List RowQ)(s:Nat)(p:Pt)(i:Nat)(r:List Nat)(t:Tri)(x0:Str)(v:BookIn C Q B)(h:Calm B M o)(hs:s<bs B)(hq:QP 23 p)(hr:PtR p)
  (hl:lf B.pts B.tris p=i::r) (ht:B.tris[i]?=some t) (S:∀ j,QB 22 (wgt B.pts t p j)) (hv:Fb B.pts B.tris M p=.tuple #[af x0,i_ 0])
  (T:∀ k,k<2->Lp.Lim (od B o) (fun j=>(sgL (zf (bs B*bp B) (s*bp B) t (wgt B.pts t p) 3) k).getD j 0) 20) :
  Pur cx.P 14 [Q,i_ s,ptV p] C fun u _=>MG (od B o) (zf (bs B*bp B) (s*bp B) t (wgt B.pts t p) 3) u:=by
 have aG:=v;have hG:=h.rich.good;have aH:=h.n12;have hS:=cS B.obs.length;have an:=h.rowsQ hS;have aI:=h.q22 hS;have V:=h.rich.terr;obtain⟨b,Z⟩:∃ b,zf (bs B*bp B) (s*bp B) t (wgt B.pts t p) 3=b:=⟨_,rfl⟩;have J:b.length=bs B*bp B:=by rw[<- Z];exact fx _ _ _ _ _
 have aa:∀ x∈b,QB 22 x:=fun x c=>by
  rw[<- Z]at c;simp only[zf]at c;rcases Sy c with c|rfl
  ·rcases Sy c with c|rfl
   ·rcases Sy c with c|rfl
    ·rw[(List.mem_replicate.1 c).2];exact QB_zero.le dc_
    exact S 0
   exact S 1
  exact S 2
 have ab:=fun(D:Mem)(z:C.le D)=>I5 D (H.mono z) Q B M o s p i r t (v.mono z) h hs hq hr hl ht S;rw[Z]at ab T⊢;have ac:=fun(D:Mem)(z:C.le D)=>eZ D (H.mono z) Q B M o (v.mono z) h;unfold od at T⊢;obtain⟨n,hn⟩:∃ n,bs B*bp B=n:=⟨_,rfl⟩;rw[hn]at J aH an ac T⊢;obtain⟨v1,v2,tv,cv,ov,rfl,h1,h2,h3,h4,h5⟩:=id v.ex;have hm:MeshIn C (.agg ⟨[v1,v2]⟩) B.pts B.tris:=⟨v1,v2,rfl,h1,h2⟩;rw[V.e,<- nO]at h3;have ao:=fun(D:Mem)(z:C.le D)=>Bw D (H.mono z) (.agg ⟨[v1,v2]⟩) tv B.pts B.tris M 22 dc_ dc_ (hm.mono z) hG (h3.mono z) V.l V.q (LM V) p hq hr;rw[hv]at ao;obtain⟨A4,c4,rfl,aJ,_⟩:=id h4;have aK:(B.col.map vZ).length=bs B+1:=by rw[au];have:=h.rich.scol.1;omega
 simp only[aK]at h4 aJ aG ab ac⊢;have a0:=mx_
 refine UU func14 110 U3 fun w0=>?_;refine UQ fun R a=>?_;refine Vd U6 (fun b3=>?_);refine Vd U6 (fun b5=>?_);refine C6 3 [1,3,5] a U ?_;clear a R;refine G.freeze 1 U (fun _ _ N=>?_);refine G.freeze 0 U (fun _ _ aq=>?_);refine Vl [(1,3)] U (fun R a=>?_);refine UO (bkT N 5) U8 ?_;refine D.call (ac _ mup) U (.inr dc_) U6 (Rh _) fl_ (fun a1 aL a2 _ aN=>?_);obtain⟨Ar,cr,A,vs,rfl,ar,rfl⟩:=aN;refine UR 3 U ?_;refine Ve U5 (fun b9=>?_);refine UX (j:=0) U12 ?_;refine C6 1 [1,3,5,8,9] a U ?_;clear a R;refine UM 2 [1,3,5,8,9,26] U ?_;refine G.cd (fun av=>?_) fun av=>?_
 ·exact absurd av dc_
 refine UN 5 U fun R a=>?_;refine Vm U6 (fun _=>PtrTo.blockT (Mem.get N mup) _ 1) U3 ?_;refine UP U6 ?_;refine UV _ U U6 ?_;refine UP U6 ?_;refine Vq U8 ?_;refine US [1,3,5,9,37] a U ?_;clear a R;refine G.cd (fun aw=>?_) fun aw=>?_
 ·exact absurd aw ap
 refine UN 1 U fun R a=>?_;refine UO (bkT N 2) U8 ?_;refine UP U6 ?_;refine UO (bkT N 1) U8 ?_;refine UO (bkT aq 2) U8 ?_;refine UZ (ao _ mup) U7 ?_;refine C6 5 [1,3,5,9,11] a U ?_;clear a R;refine UM 2 [1,3,5,9,11,48] U ?_;refine G.cd (fun ax=>?_) fun ax=>?_
 ·exact absurd ax dc_
 refine UQ fun R a=>?_;refine UO (bkT N 5) U8 ?_;refine UP U6 ?_;refine UO (bkT aq 2) U8 ?_;refine Vu (ab _ mup) U7 (fun a3 _ _ aO=>?_);obtain⟨uv,rfl,ad⟩:=aO;obtain⟨Au,cu,rfl,_⟩:=id ad;simp only[au,J]at ad⊢;refine C6 5 [8,9,12] a U ?_;clear a R;refine UM 2 [8,9,12,58] U ?_;refine G.cd (fun ay=>?_) fun ay=>?_
 ·exact absurd ay dc_
 refine UQ fun R a=>?_;refine Ve U5 (fun f=>?_);refine US [9,12,13] a U ?_;clear a R;refine G.freezeArr 2 (aD vs (cq B o)) U2 (bN _ _) (by rw[bk ar.1]) (fun _ _ aP=>?_);refine G.freeze 1 U (fun aR _ az=>?_);have aS:=ig (RowsOk.m_ ar) (aP.mono mup:Sl aR 2 _ _);refine UQ fun R a=>?_;refine VK [[af [49]],[af [45,49]]] U12 fl_ (fun aA _ _ aB=>?_);refine C6 2 [9,12,13,60,61,62] a U ?_;clear a R;rw[sgns]at aB;refine G.perm (L':=[.arr (sO2 (some ⟨A,0,none⟩) n n) 32 1 n (List.replicate n (af [48])),.obj f (.cells ⟨[af (if 0<0 then Fg 0 0 else []),af (if 1<0 then oE 0 0 else [])]⟩ 144 (0,0))]) (pkL [1,0] U) ?_;refine G.loop (fun fr C' g μ=>∃ (k:Nat)(xs:List Value)(d:Int)(w1:Rat)(F:Int)(E:Rat),(k<=2/\xs.length=n/\(QB 20 w1/\QB 20 E)/\(0<k->Lp.Val (bU n (dx (cq B o))) (fun j=>(sgL b 0).getD j 0) d w1/\d≠2)/\(1<k->Lp.Val (bU n (dx (cq B o))) (fun j=>(sgL b 1).getD j 0) F E))/\fr=[(9,[],p_ b9),(12,[],.slice Au n cu),(13,[],p_ f),(60,[],s_ aA 2 2),(61,[],i_ 2),(62,[],i_ k)]/\g=[.arr (sO2 (some ⟨A,0,none⟩) n n) 32 1 n xs,.obj f (.cells ⟨[af (if 0<k then Fg d w1 else []),af (if 1<k then oE F E else [])]⟩ 144 (0,0))]/\μ=2-k) (hn_ [9,12,13,60,61,62] U) ⟨0,List.replicate n (af [48]),0,0,0,0,⟨Re _,RI,⟨QB_zero.le dc_,QB_zero.le dc_⟩,fun h=>absurd h om_,fun h=>absurd h om_⟩,U,U,U⟩ (fun fr a4 a5 m _ hI=>?_);obtain⟨k,xs,d,w1,F,E,⟨hk,a6,ag,K,aT⟩,rfl,rfl,rfl⟩:=hI;refine UM 1 [9,12,13,60,61,62,63] U ?_;refine G.cd (fun ah=>?_) fun ah=>?_
 ·have W:k<2:=by
   have:=Qw ah;omega
  refine UN 1 U fun R a=>?_;refine Va aB.m_ U10 om_ (by rw[Rb,LR W];rfl:(([1, -1]:List Rat).map aQ)[k]?=some (aQ (sC k))) fl_ (fun a7 aU=>?_);refine UO aU U8 ?_;refine C6 2 [9,12,13,14,15,60,61,62] a U ?_;clear a R;refine UM 3 [9,12,13,14,15,60,61,62,67,68,69] U ?_;refine Vc (L':=[.arr (sO2 (some ⟨A,0,none⟩) n n) 32 1 n (((b.take 0).map fun x=>tq (sC k*x))++xs.drop 0),.obj f (.cells ⟨[af (if 0<k then Fg d w1 else []),af (if 1<k then oE F E else [])]⟩ 144 (0,0))]) ak ?_;refine G.loop (fun fr C' g μ=>∃ (j:Nat),(j<=n)/\fr=[(9,[],p_ b9),(12,[],.slice Au n cu),(13,[],p_ f),(14,[],i_ k),(15,[],af (qtx (sC k))),(60,[],s_ aA 2 2),(61,[],i_ 2),(62,[],i_ k),(67,[],.slice Au n cu),(68,[],i_ n),(69,[],i_ j)]/\g=[.arr (sO2 (some ⟨A,0,none⟩) n n) 32 1 n (((b.take j).map fun x=>tq (sC k*x))++xs.drop j),.obj f (.cells ⟨[af (if 0<k then Fg d w1 else []),af (if 1<k then oE F E else [])]⟩ 144 (0,0))]/\μ=n-j) (hn_ [9,12,13,14,15,60,61,62,67,68,69] U) ⟨0,Re _,U,U,U⟩ (fun fr a8 a9 m _ hI=>?_);obtain⟨j,hj,rfl,rfl,rfl⟩:=hI;refine UM 1 [9,12,13,14,15,60,61,62,67,68,69,70] U ?_;refine G.cd (fun aj=>?_) fun aj=>?_
  ·have aC:j<n:=by
    have:=Qw aj;omega
   obtain⟨x,c⟩:∃ x,b[j]?=some x:=⟨b[j]'om_,ai om_⟩;have aV:xs.drop j=xs[j]'om_::xs.drop (j+1):=Ry om_;have aE:((b.take j).map fun x=>tq (sC k*x)).length=j:=by rw[au,Ro];omega
   refine UN 1 U fun R a=>?_;refine Va ad.m_ U10 om_ (by rw[Rb,c];rfl:(b.map aQ)[j]?=some (aQ x)) fl_ (fun ba aW=>?_);refine UO aW U8 ?_;refine C6 2 [9,12,13,14,15,16,17,60,61,62,67,68,69] a U ?_;clear a R;refine Vg [0,1,2,3,4,5,6,7] [(5,1),(1,0)] U kr_ (fun R v a=>?_);refine UP U6 ?_;refine VW (fun _=>((bkT az 2).mono v)) U9 ?_;refine UR 3 U ?_;refine Vh (fun _=>(cP _ H.m_ (sC k) x 22 dc_ dc_ (BU k) (aa x (aM c)))) U9 ?_;refine Vp (j) U10 v_ U2 ?_;refine Vr (j:=0) U11 (by rw[Rf,aE,Tc];simp;omega) ?_;refine US [9,12,13,14,15,60,61,62,67,68,69] a U ?_;clear a v R;refine UQ fun R a=>?_;refine UV _ U U6 ?_;refine C6 1 [9,12,13,14,15,60,61,62,67,68,69] a U ?_;clear a R;refine Vc (L':=[.arr (sO2 (some ⟨A,0,none⟩) n n) 32 1 n (((b.take (j+1)).map fun x=>tq (sC k*x))++xs.drop (j+1)),.obj f (.cells ⟨[af (if 0<k then Fg d w1 else []),af (if 1<k then oE F E else [])]⟩ 144 (0,0))]) (by rw[aV,wH aE,RE,c];simp) ?_;refine U0 (m':=n-(j+1)) om_ mup (hn_ [9,12,13,14,15,60,61,62,67,68,69] U) ⟨j+1,om_,U,U,U⟩
  have aC:j=n:=by
   have:=Rc aj;omega
  subst aC;refine Vc (L':=[.arr (sO2 (some ⟨A,0,none⟩) j j) 32 1 j ((sgL b k).map tq),.obj f (.cells ⟨[af (if 0<k then Fg d w1 else []),af (if 1<k then oE F E else [])]⟩ 144 (0,0))]) (by rw[RH om_,S2 om_,RC];unfold sgL;rw[R8];rfl) ?_;refine Vl [(1,3)] U (fun R a=>?_);refine UO (bkT az 3) U8 ?_;refine D.call (Gx _ H.m_ j _ _ (dx (cq B o)) (sgL b k) aS.m_ an (fun y hy=>by
   obtain⟨x,c,rfl⟩:=Ra.1 hy;unfold sC;split
   ·rw[Rat.one_mul];exact aa x c
   rw[show(-1:Rat)*x=-x by grind];exact Lp.qb_neg (aa x c)) aI om_ (by unfold sgL;rw[au];exact J) (T k W)) rfl (.inr dc_) U6 (Rh _) fl_ (fun bb _ bc _ aX=>?_)
  obtain⟨⟨kd,w,vt,A1,n1,bd,A2,n2,be,A3,n3,bf,rfl,aY,L,I⟩,rfl⟩:=aX;refine UR 3 U ?_;refine Ve U5 (fun bg=>?_);refine UX (j:=0) U12 ?_;refine C6 1 [9,12,13,14,15,18,19,60,61,62] a U ?_;clear a R;refine G.freeze 0 U (fun aL _ X=>?_);refine UM 3 [9,12,13,14,15,18,19,60,61,62,87] U ?_;refine G.cd (fun aF=>?_) fun aF=>?_
  ·exact absurd aF dc_
  refine UN 1 U fun R a=>?_;refine UO (bkT X 1) U8 ?_;refine C6 2 [9,12,13,14,15,18,60,61,62,91] a U ?_;clear a R;refine G.cd (fun al=>?_) fun al=>?_
  ·have O:kd=2:=by simpa using al
   have aZ:k=0:=by
    rcases Sk k with h|h
    ·exact h
    exact absurd O (I8 (K h).1 L (K h).2)
   subst aZ;refine UM 3 [6,7,8] U ?_;refine U1 (G.dropAll (VG U4 ?_));exact⟨U,kd,w,0,0,⟨I,QB_zero.le dc_⟩,L,fun h=>absurd O h,.inl ⟨O,U⟩⟩
  have O:kd≠2:=by simpa using al
  refine UN 1 U fun R a=>?_;refine UO (bkT X 1) U8 ?_;refine C6 2 [9,12,13,14,15,18,60,61,62,95] a U ?_;clear a R;refine G.cd (fun am=>?_) fun am=>?_
  ·have Y:kd=1:=by simpa using am
   obtain rfl:=aY Y;subst Y;rcases(by omega:k=0∨k=1) with rfl|rfl
   ·refine UN 3 U fun R a=>?_;refine UO (bkT X 1) U8 ?_;refine UY (cP _ H.m_ (sC 0) w 22 dc_ dc_ (BU 0) (I.le dc_)) U7 fl_ ?_;refine Vi (0) U9 k_ U2 ?_;refine UX (j:=1) U12 ?_;refine US [9,12,13,60,61,62] a U ?_;clear a R;refine UQ fun R a=>?_;refine UV _ U U6 ?_;refine C6 1 [9,12,13,60,61,62] a U ?_;clear a R;refine G.perm (L':=[.arr (sO2 (some ⟨A,0,none⟩) j j) 32 1 j ((sgL b 0).map tq),.obj f (.cells ⟨[af (if 0<1 then Fg 1 w else []),af (if 1<1 then oE 0 0 else [])]⟩ 144 (0,0))]) (pkL [1,0] U) ?_;refine U0 (m':=1) om_ mup (hn_ [9,12,13,60,61,62] U) ⟨1,(sgL b 0).map tq,1,w,0,0,⟨by decide,by unfold sgL;simp[J],⟨I,QB_zero.le dc_⟩,fun _=>⟨L,by decide⟩,fun h=>absurd h dc_⟩,U,U,U⟩
   refine UN 3 U fun R a=>?_;refine UO (bkT X 1) U8 ?_;refine UY (cP _ H.m_ (sC 1) w 22 dc_ dc_ (BU 1) (I.le dc_)) U7 fl_ ?_;refine Vi (1) U9 k_ U2 ?_;refine UX (j:=1) U12 ?_;refine US [9,12,13,60,61,62] a U ?_;clear a R;refine UQ fun R a=>?_;refine UV _ U U6 ?_;refine C6 1 [9,12,13,60,61,62] a U ?_;clear a R;refine G.perm (L':=[.arr (sO2 (some ⟨A,0,none⟩) j j) 32 1 j ((sgL b 1).map tq),.obj f (.cells ⟨[af (if 0<2 then Fg d w1 else []),af (if 1<2 then oE 1 w else [])]⟩ 144 (0,0))]) (pkL [1,0] U) ?_;refine U0 (m':=0) om_ mup (hn_ [9,12,13,60,61,62] U) ⟨2,(sgL b 1).map tq,d,w1,1,w,⟨by decide,by unfold sgL;simp[J],⟨ag.1,I⟩,fun _=>K dc_,fun _=>L⟩,U,U,U⟩
  have Y:kd≠1:=by simpa using am
  refine UQ fun R a=>?_;refine UV _ U U6 ?_;refine C6 1 [9,12,13,60,61,62] a U ?_;clear a R;refine Vc (L':=[.arr (sO2 (some ⟨A,0,none⟩) j j) 32 1 j ((sgL b k).map tq),.obj f (.cells ⟨[af (if 0<k+1 then Fg (if k=0 then kd else d) (if k=0 then w else w1) else []),af (if 1<k+1 then oE (if k=0 then 0 else kd) (if k=0 then 0 else w) else [])]⟩ 144 (0,0))]) (by rcases(by omega:k=0∨k=1) with rfl|rfl <;> simp[Fg,oE,Y]) ?_;refine U0 (m':=2-(k+1)) om_ mup (hn_ [9,12,13,60,61,62] U) ⟨k+1,(sgL b k).map tq,if k=0 then kd else d,if k=0 then w else w1,if k=0 then 0 else kd,if k=0 then 0 else w,⟨by omega,by unfold sgL;simp[J],⟨(by split <;> first|exact I|exact ag.1),(by split <;> first|exact QB_zero.le dc_|exact I)⟩,fun _=>by
   rcases(by omega:k=0∨k=1) with rfl|rfl
   ·exact⟨L,O⟩
   ·exact K dc_,fun h=>by
   obtain rfl:k=1:=by omega
   exact L⟩,U,U,U⟩
 have W:k=2:=by
  have:=Rc ah;omega
 subst W;refine Vg [0,1,2,3,4,5,6] [] U kr_ (fun R v a=>?_);refine Vi (0) U9 k_ U2 ?_;refine UW ae U9 ?_;refine Vi (1) U9 k_ U2 ?_;refine UW ae U9 ?_;refine UR 3 U ?_;refine US [6,7,8] a U ?_;clear a v R;refine U1 (G.dropAll (VG U4 ?_));exact⟨U,d,w1,F,E,ag,(K dc_).1,fun _=>aT dc_,.inr ⟨(K dc_).2,U⟩⟩
end Go.Proofs.YtfjcldheldflbaaGreatDoor
