/- Laws that the proofs of this seat share, part 14. -/
import Derived.Test.YtfjcldheldflbaaGreatDoorG13
import Derived.Test.YtfjcldheldflbaaGreatDoorShelf
set_option maxHeartbeats 4000000
namespace Go.Proofs.YtfjcldheldflbaaGreatDoor
open Go.Proofs.Tryz
open Go Go.Jog
set_option maxRecDepth 100000
variable {cc:Nat->Rat}{e:Nat × Nat}{es:List (Nat × Nat)}{h i j k:Nat}{kd:Int}{ks:List fE}{l:List Nat}{m more n p:Nat}{pt:Nat->Rat}{r:RowQ}{rows:List RowQ}{s:Nat}{sg:Rat}{tris:List Tri}{u v:Value}{vs:List Value}{w:Value}{x:Rat}{y:Nat->Rat}
theorem SolO.mono {p:Lp.Sys}{d:Nat->Rat}{D E:Mem}{u:Value}(h:SolO p d D u)(a:D.le E):SolO p d E u:=by
 cases h with
|opt val pt du b c e h1 h2=>exact .opt val pt du b c e (h1.mono a) (h2.mono a)
|inf du c f h1=>exact .inf du c f (h1.mono a)
|unb pt ra b g i h1 h2=>exact .unb pt ra b g i (h1.mono a) (h2.mono a)
theorem SolO.m_ {p:Lp.Sys}{D E:Mem}(h:SolO p cc D u)(a:D.le E:=by exact mup):SolO p cc E u:=SolO.mono h a
theorem wP {p:Lp.Sys}{D:Mem}(h:SolO p cc D u):∃ (kd:Int)(val:Str)(e g i:Value)(a b c:List Rat),u=.agg ⟨[i_ kd,ae val,e,g,i]⟩/\Sl D 1 e (a.map aQ)/\Sl D 1 g (b.map aQ)/\Sl D 1 i (c.map aQ) /\
  (∀ x∈a,QB 20 x)/\(∀ x∈b,QB 20 x)/\(∀ x∈c,QB 20 x)/\a.length<=p.n/\b.length<=p.m/\c.length<=p.n/\(kd=1->∃ q,val=qtx q/\QB 20 q):=by
 have hr:∀ (n:Nat)(f:Nat->Rat),(∀ j,QB 20 (f j))->∀ x∈(List.range n).map f,QB 20 x:=fun n f o x d=>by
  obtain⟨j,_,rfl⟩:=Rs.1 d;exact o j
 cases h with
|opt val pt du e g k h1 h2=>exact⟨1,qtx val,e,g,.slice none 0 0,_,_,[],rfl,h1,h2,Sl.nil _ _,hr _ _ k.qp,hr _ _ k.qd,fun x d=>(by cases d),by simp,by simp,Rv _,fun _=>⟨val,rfl,k.qv⟩⟩
|inf du g r h1=>exact⟨2,[],.slice none 0 0,g,.slice none 0 0,[],_,[],rfl,Sl.nil _ _,h1,Sl.nil _ _,fun x d=>(by cases d),hr _ _ r.qd,fun x d=>(by cases d),Rv _,by simp,Rv _,fun h=>absurd h dc_⟩
|unb pt ra e i l h1 h2=>exact⟨3,[],e,.slice none 0 0,i,_,[],_,rfl,h1,Sl.nil _ _,h2,hr _ _ l.qp,fun x d=>(by cases d),hr _ _ l.qr,by simp,Rv _,by simp,fun h=>absurd h dc_⟩
theorem tR {l:List Rat}(h:∀ x∈l,QB 22 x):(l.map qtx).all aR=true:=RI.2 fun s hs=>by
 obtain⟨x,a,rfl⟩:=Rs.1 hs;exact bh (h x a)
theorem pW {n:Nat}:∀ {rs:List (List Rat × Rat)},(∀ r∈rs,r.1.length=n)->(∀ r∈rs,(∀ x∈r.1,QB 22 x)/\QB 22 r.2)->uu n (rs.map eA)=0
|[],_,_=>rfl
|r::rs,b,a=>by
  have e:uu n ((r::rs).map eA)=if Gj n (eA r)≠0 then Gj n (eA r) else uu n (rs.map eA):=rfl;have h0:Gj n (eA r)=0:=Gi.2 ⟨kb.2 ⟨by show((r.1.map qtx).length:Int)=n;rw[au,b r Rq],tR (a r Rq).1⟩,bh (a r Rq).2⟩;rw[e,aF fun h=>h h0];exact pW (fun r hr=>b r (RB _ hr)) fun r hr=>a r (RB _ hr)
theorem nV {a:List (List Rat × Rat)}{b:List Rat}(g:n<=60)(i:a.length<=300)(c:∀ r∈a,r.1.length=n)(d:∀ r∈a,(∀ x∈r.1,QB 22 x)/\QB 22 r.2)(e:b.length=n)(f:∀ x∈b,QB 22 x):Fo n (a.map eA) (b.map qtx)=0:=by
 unfold Fo;rw[aF om_,aF (by rw[au];omega),aF fun h=>h (kb.2 ⟨by rw[au,e],tR f⟩)];exact pW c d
theorem GI (C:Mem)(o:Tabs C)(n:Nat)(g i:Value)(d:List (List Rat × Rat))(f:List Rat)(k:RowsT C g (d.map eA))(v:Sl C 1 i (f.map aQ))(p:RowsQ n d)(w:∀ x∈f,QB 22 x)(y:∀ r∈d,(∀ x∈r.1,QB 22 x)/\QB 22 r.2)(L:n<=60)(z:f.length=n)(M:Lp.Lim (bZ n d) (fun j=>f.getD j 0) 20) :
  Pur cx.P 21 [.agg ⟨[i_ n,g,i]⟩] C fun u D=>∃ r,u=.tuple #[r,i_ 0]/\SolO (bZ n d) (fun j=>f.getD j 0) D r:=by
 have Z:=mx_
 have hm:=p.m;have N:Fo n (d.map eA) (f.map qtx)=0:=nV L om_ p.l y z w;have O:∀ D:Mem,C.le D->Gives cx.P 73 [.agg ⟨[i_ n,g,i]⟩] D (i_ 0):=fun D q=>by
  have h:=qw D (o.mono q) n g i (d.map eA) (f.map qtx) (k.mono q) (by rw[<- mK];exact v.mono q) (fun r k=>by
   obtain⟨r,Q,rfl⟩:=Rs.1 k;obtain⟨h1,h2⟩:=y r Q;refine⟨fun s hs=>?_,RD (bd h2 dc_) dc_⟩;obtain⟨x,t,rfl⟩:=Rs.1 hs;exact RD (bd (h1 x t) dc_) dc_) (fun s hs=>by
   obtain⟨x,t,rfl⟩:=Rs.1 hs;exact RD (bd (w x t) dc_) dc_)
  rw[N]at h;exact h
 refine Vi func21 19 U3 fun w0=>Vd fun R e=>Vs U6 fun b1=>Vt U5 fun b2=>C6 1 [1,2] e U<|G.freeze 1 U fun _ _ A=>Vd fun R e=>Vb (bkT A 3) U8<|Vl (O _ mup) U7<|C6 1 [1,2,4] e U<|U1 2 [1,2,4,9] U<|G.cd (fun B=>?_) fun B=>?_
 ·exact absurd B dc_
 refine Vd fun R e=>Vb (bkT A 3) U8<|VC (BV _ o.m_ n g i d f k.m_ v.m_ p om_ z M) U7 fl_ (fun aa _ _ E=>?_);obtain⟨kd,val,vp,vd,vr,a,b,c,rfl,F,H,I,S,qb,T,V,W,X,Y⟩:=wP E;obtain⟨Ap,cp,rfl,_⟩:=id F;obtain⟨Ad,cd,rfl,_⟩:=id H;obtain⟨Ar,cr,rfl,_⟩:=id I;refine Vt U5 fun b5=>Vk (j:=0) U12<|Vf [2,5] e U<|G.freeze 0 U fun _ _ J=>Vd fun R e=>Vb (bkT J 5) U8<|Vm (BY _ o.m_ kd val _ _ _ a b c F.m_ H.m_ I.m_ S qb T (RD V (by show n<=_;omega)) (RD W (by show d.length<=_;omega)) (RD X (by show n<=_;omega)) Y) U7 fl_<|C6 1 [2,5,16] e U<|G.cd (fun K=>?_) fun K=>?_
 ·exact absurd K dc_
 refine Vd fun R e=>Vb (bkT J 5) U8<|Vk (j:=0) U12<|C6 1 [2,3] e U<|Vo (Wj ag U5 ?_);exact⟨U,_,U,E.mono mup⟩
inductive FeaO (p:Lp.Sys) (D:Mem):Value->Prop where
|yes (pt:Nat->Rat) (vp:Value):p.At pt->Lp.CmD p.n 20 pt->(∀ j,QB 20 (pt j))->Sl D 1 vp (((List.range p.n).map pt).map aQ)->FeaO p D (.tuple #[vp,.agg ⟨[.slice none 0 0]⟩,.bool true,.int .i64 0])
|no (du:Nat->Rat) (vd:Value):Lp.InfR p 20 du->Sl D 1 vd (((List.range p.m).map du).map aQ)->FeaO p D (.tuple #[.slice none 0 0,.agg ⟨[vd]⟩,.bool false,.int .i64 0])
theorem JD {p:Lp.Sys}{D:Mem}{f a b e:Value}(h:SolO p cc D (.agg ⟨[i_ kd,f,a,b,e]⟩)) :
  (kd=2/\∃ du,Lp.InfR p 20 du/\Sl D 1 b (((List.range p.m).map du).map aQ))∨(kd≠2/\∃ pt,p.At pt/\Lp.CmD p.n 20 pt/\(∀ j,QB 20 (pt j))/\Sl D 1 a (((List.range p.n).map pt).map aQ)):=by
 cases h with
|opt w pt du a b c h1 h2=>exact .inr ⟨by decide,pt,c.row,c.cd,c.qp,h1⟩
|inf du b g h1=>exact .inl ⟨rfl,du,g,h1⟩
|unb pt ra a e d h1 h2=>exact .inr ⟨by decide,pt,d.row,d.cd,d.qp,h1⟩
theorem jU (n:Nat):List.replicate n (ae [48])=((List.replicate n (0:Rat)).map aQ).flatten:=by
 rw[Uf,Rf];induction n with
|zero=>rfl
|succ n a=>rw[SB,SB,SH,a];rfl
theorem Gm (n j:Nat):(List.replicate n (0:Rat)).getD j 0=0:=by
 rw[am,SU];split <;> rfl
theorem Kj (C:Mem)(t:Tabs C)(n:Nat)(g k:Value)(f:List (List Rat × Rat))(i:List Rat)(o:RowsT C g (f.map eA))(v:Sl C 1 k (i.map aQ))(w:RowsQ n f)(A:∀ x∈i,QB 22 x)(B:∀ r∈f,(∀ x∈r.1,QB 22 x)/\QB 22 r.2)(N:n<=60)(O:i.length=n)(Q:Lp.Lim (bZ n f) (fun _=>0) 20) :
  Pur cx.P 43 [.agg ⟨[i_ n,g,k]⟩] C fun u D=>FeaO (bZ n f) D u:=by
 have ah:=mx_
 have hm:=w.m;have S:Fo n (f.map eA) (i.map qtx)=0:=nV N om_ w.l B O A;have T:∀ D:Mem,C.le D->Gives cx.P 73 [.agg ⟨[i_ n,g,k]⟩] D (i_ 0):=fun D y=>by
  have h:=qw D (t.mono y) n g k (f.map eA) (i.map qtx) (o.mono y) (by rw[<- mK];exact v.mono y) (fun r o=>by
   obtain⟨r,V,rfl⟩:=Rs.1 o;obtain⟨h1,h2⟩:=B r V;refine⟨fun s hs=>?_,RD (bd h2 dc_) dc_⟩;obtain⟨x,z,rfl⟩:=Rs.1 hs;exact RD (bd (h1 x z) dc_) dc_) (fun s hs=>by
   obtain⟨x,z,rfl⟩:=Rs.1 hs;exact RD (bd (A x z) dc_) dc_)
  rw[S]at h;exact h
 have W:Lp.Lim (bZ n f) (fun j=>(List.replicate n (0:Rat)).getD j 0) 20:=by
  have e:(fun j=>(List.replicate n (0:Rat)).getD j 0)=fun _=>(0:Rat):=funext (Gm n);rw[e];exact Q
 refine Vi func43 32 U3 fun w0=>Vd fun R d=>Vs U6 fun b1=>Vc U6<|Vt U5 fun b3=>C6 2 [1,3] d U<|Vd fun R d=>Vj af U9<|Vl (T _ mup) U7<|C6 1 [1,3,6] d U<|U1 2 [1,3,6,11] U<|G.cd (fun E=>?_) fun E=>?_
 ·exact absurd E dc_
 refine VB [(2,3)] U fun R d=>Vc U6<|Vj af U9<|D.call (jh _ n om_) U (.inr dc_) U6 (Rw _) fl_ (fun ai _ aj _ X=>?_);obtain⟨bz,rfl,rfl⟩:=X;rw[jU];refine Vc U6<|Vk (j:=2) U12<|Vf [1,3] d U<|G.freezeArr 1 ((List.replicate n (0:Rat)).map aQ) U U bS ak fun _ _ Y=>G.freeze 0 U fun _ _ Z=>Vd fun R d=>Vb (bkT Z 3) U8<|VC (BV _ t.m_ n g _ f (List.replicate n 0) o.m_ Y.m_ w om_ ak W) U7 fl_ (fun al _ _ F=>?_);obtain⟨kd,val,vp,vd,vr,a,b,c,rfl,H,I,J,qa,qb,qc,aa,ab,ac,hv⟩:=wP F;have K:=JD F;obtain⟨Ap,cp,rfl,_⟩:=id H;obtain⟨Ad,cd,rfl,_⟩:=id I;obtain⟨Ar,cr,rfl,_⟩:=id J;refine Vt U5 fun b7=>Vk (j:=0) U12<|Vf [3,7] d U<|G.freeze 0 U fun _ _ p=>Vd fun R d=>Vb (bkT p 5) U8<|Vm (BY _ t.m_ kd val _ _ _ a b c H.m_ I.m_ J.m_ qa qb qc (RD aa (by show n<=_;omega)) (RD ab (by show f.length<=_;omega)) (RD ac (by show n<=_;omega)) hv) U7 fl_<|C6 1 [3,7,22] d U<|G.cd (fun L=>?_) fun L=>?_
 ·exact absurd L dc_
 refine Va 1 U fun R d=>Vb (bkT p 1) U8<|C6 1 [3,7,26] d U<|G.cd (fun q=>?_) fun q=>?_
 ·refine Vv [0,1,2,3,4,5] [(1,0)] U kr_ fun R M d=>Vc U6<|Wb (fun _=>((bkT p 1).mono M)) U9<|Vc U6<|Vk (j:=0) U12<|Ve 2 U<|Vf [2,3,4,5] d U ?_;clear d M R;refine Vo (WC ag U7 ?_);refine⟨U, ?_⟩;rcases K with⟨_,du,hi,h1⟩|⟨h,_⟩
  ·exact .no du _ hi h1.m_
  exact absurd (by simpa using q) h
 refine Va 1 U fun R d=>Vb (bkT p 1) U8<|Vu ([.slice none 0 0]) U8<|Vc U6<|Vk (j:=0) U12<|C6 2 [2,3,4,5] d U<|Vo (WC ag U7 ?_);refine⟨U, ?_⟩;rcases K with⟨h,_⟩|⟨_,pt,v,ad,ae,h1⟩
 ·rw[h]at q;cases q
 exact .yes pt _ v ad ae h1.m_
def prC (vs:List Value)(l:List SrcQ):List (List Value):=aC vs (l.map SrcQ.r)
theorem Cu {l:List SrcQ}{s:SrcQ}(a:vs.length=l.length)(c:vs[i]?=some w)(d:l[i]?=some s):prC (vs.take (i+1)) (l.take (i+1))=prC (vs.take i) (l.take i)++[[w,ae (qtx s.r.b)]]:=by
 unfold prC;rw[RR,RR,c,d,R3];exact eJ (by simp[a]) w s.r
theorem L3 {l:List SrcQ}{s:SrcQ}(a:vs[i]?=some w)(c:l[i]?=some s):(bW vs l)[i]?=some [i_ s.n,w,ae (qtx s.r.b)]:=by
 unfold bW;rw[List.getElem?_zipWith,a,c]
theorem NO (a:List Value)(l:List SrcQ):∀ r∈prC a l,r.length=2:=bQ _ _
theorem oP {C:Mem}(h:RowsOk C vs rows)(b:Sl C 2 v (aC vs rows)):RowsT C v ((eg rows).map eA):=by
 refine⟨vs,by rw[h.1];simp[eg],fun i w r c hr=>?_, ?_⟩
 ·rw[eg,So,Rr]at hr;cases a:rows[i]? with
 |none=>rw[a]at hr;cases hr
 |some x =>
   rw[a]at hr;cases hr
   have:=h.2 i w x c a;show Sl C 1 w ((x.f.map qtx).map oF);rw[<- mK];exact this
 have e:List.zipWith (fun w (r:List Str × Str)=>[w,ae r.2]) vs ((eg rows).map eA)=aC vs rows:=by
  unfold eg aC;rw[So,List.zipWith_map_right];rfl
 rw[e];exact b
structure Calm (B:Bk)(fs:List Rat)(RO:Nat->List RowQ):Prop where
 rich:Rich B fs RO
 n12:bs B*bp B<=12
 thI:∀ r∈bJ B,RowI r
 roI:∀ i,i<B.obs.length->∀ r∈RO i,RowI r
 th:(bJ B).length<=24
 ro:∀ i,i<B.obs.length->(RO i).length<=8
 ob:B.obs.length<=12
structure SetIn (n:Nat)(l:List Nat):Prop where
 lt:∀ i∈l,i<n
 nd:l.Nodup
def oD (B:Bk)(RO:Nat->List RowQ)(l:List Nat):List RowQ:=(bT (bJ B) RO l).map SrcQ.r
theorem jR {B:Bk}{a:Nat->List RowQ}:oD B a l=bJ B++l.flatMap a:=by
 unfold oD bT kR;rw[R3,So,List.map_flatMap];congr 1
 ·exact List.map_id _
 congr 1;funext i;rw[So];exact List.map_id _
theorem SetIn.len (h:SetIn n l):l.length<=n:=by
 have:=List.Nodup.length_le_of_subset (l₂:=List.range n) h.nd fun v a=>RL.2 (h.lt v a)
 rwa [SI]at this
section
variable {B:Bk} {fs:List Rat} {RO:Nat->List RowQ} {l:List Nat}
theorem K0 {c:Nat}{f:Nat->List RowQ}:∀ {l:List Nat},(∀ i∈l,(f i).length<=c)->(l.flatMap f).length<=c*l.length
|[],_=>Rv _
|i::l,h=>by
  rw[List.flatMap_cons,Ru,RH,Nat.mul_succ];have h1:=h i Rq;have h2:=K0 (l:=l) fun j a=>h j (RB _ a);omega
theorem Calm.cnt (h:Calm B fs RO)(a:SetIn B.obs.length l):(oD B RO l).length<=120:=by
 rw[jR,Ru];have h1:=K0 (c:=8) (f:=RO) fun i b=>h.ro i (a.lt i b);have h2:=a.len;have h3:=h.ob;have h4:=h.th;omega
theorem Calm.rowI (h:Calm B fs RO)(a:SetIn B.obs.length l):∀ r∈oD B RO l,RowI r:=by
 intro r hr;rw[jR]at hr;rcases RF.1 hr with hr|hr
 ·exact h.thI r hr
 obtain⟨i,b,hr⟩:=List.mem_flatMap.1 hr;exact h.roI i (a.lt i b) r hr
theorem wE {s p:Nat}{a:List Lay}:∀ n,∀ r∈bj s p a n,r.f.length=s*p
|0,r,hr=>by cases hr
|n+1,r,hr=>by
  rcases RF.1 hr with hr|hr
  ·exact wE n r hr
  have:∀ k,∀ r∈bA s p (a.getD (n+1) ⟨[],0,none⟩) (n+1) k,r.f.length=s*p:=by
   intro k;induction k with
  |zero=>intro r hr;cases hr
  |succ k b =>
    intro r hr;rcases RF.1 hr with hr|hr
    ·exact b r hr
    unfold kH at hr;rcases RC.1 hr with rfl|hr
    ·exact jT _ _
    split at hr
    ·cases hr
    rw[RK.1 hr];exact jT _ _
  exact this p r hr
theorem Pp {D:Int}{q:Rat}(h:Wl D q)(a:D≠0)(b:D.natAbs<=999999999):QB 1 q:=by
 obtain⟨z,h1,h2⟩:=h;exact qg a h1 om_ om_
theorem RowI.q {r:RowQ}(h:RowI r):(∀ x∈r.f,QB 1 x)/\QB 1 r.b:=by
 obtain⟨D,h0,a,h1,h2⟩:=h;exact⟨fun x c=>Pp (h1 x c) h0 a,Pp h2 h0 a⟩
theorem lU {a:List RowQ}{P:List Rat × Rat->Prop}(h:∀ r∈a,P (r.f,r.b)):∀ x∈eg a,P x:=fun x c=>by
 obtain⟨r,hr,rfl⟩:=Rs.1 c;exact h r hr
theorem Calm.q22 (h:Calm B fs RO)(a:SetIn B.obs.length l):∀ r∈eg (oD B RO l),(∀ x∈r.1,QB 22 x)/\QB 22 r.2 :=
 lU (P:=fun r=>(∀ x∈r.1,QB 22 x)/\QB 22 r.2) fun r hr=>⟨fun x b=>((h.rowI a r hr).q.1 x b).le dc_,(h.rowI a r hr).q.2.le dc_⟩
theorem Calm.rowsQ (h:Calm B fs RO)(a:SetIn B.obs.length l):RowsQ (bs B*bp B) (eg (oD B RO l)):=by
 refine⟨lU (P:=fun r=>r.1.length=bs B*bp B) fun r hr=>?_,fun r hr=>⟨fun x b=>((h.q22 a r hr).1 x b).le dc_,(h.q22 a r hr).2.le dc_⟩, ?_⟩
 ·rw[jR]at hr;rcases RF.1 hr with hr|hr
  ·exact wE _ r hr
  obtain⟨i,c,hr⟩:=List.mem_flatMap.1 hr;exact(pX h.rich (a.lt i c)).2 r hr
 have:=h.cnt a;rw[eg,au];omega
theorem Calm.lim (h:Calm B fs RO)(a:SetIn B.obs.length l):Lp.Lim (bZ (bs B*bp B) (eg (oD B RO l))) (fun _=>0) 20:=KE h.n12 (h.rowI a)
end
def dz (B:Bk)(RO:Nat->List RowQ):List RowQ:=oD B RO (List.range B.obs.length)
theorem de (n:Nat):SetIn n (List.range n):=⟨fun _a h=>RL.1 h,List.nodup_range⟩
theorem vj {l:List Rat}(a:i<l.length):(l.set i x).getD j 0=if j=i then x else l.getD j 0:=by
 rw[am,List.getElem?_set,am];by_cases h:i=j
 ·subst h;rw[aM rfl,aM a,aM rfl];rfl
 rw[aF h,aF fun e=>h e.symm]
theorem qY (n j:Nat):(List.replicate n (0:Rat)).getD j 0=0:=Gm n j
def rgF (n h p m k:Nat)(e:Nat × Nat)(sg:Rat):List Rat:=(((List.replicate n (0:Rat)).set (k / m*p+e.1) sg).set (k / m*p+e.2) (-sg)).set (h+k) (-1)
def edg (es:List (Nat × Nat))(k:Nat):Nat × Nat:=es.getD (k % es.length) (0,0)
def rgK (n h p:Nat)(es:List (Nat × Nat))(k:Nat):List RowQ:=[⟨rgF n h p es.length k (edg es k) 1,0⟩,⟨rgF n h p es.length k (edg es k) (-1),0⟩]
def rgL (n h p:Nat)(es:List (Nat × Nat))(t:Nat):List RowQ:=(List.range t).flatMap (rgK n h p es)
def fw (more:Nat)(r:RowQ):RowQ:=⟨r.f++List.replicate more 0,r.b⟩
def zE (rows:List RowQ)(h p:Nat)(es:List (Nat × Nat))(more:Nat):List RowQ:=rows.map (fw more)++rgL (h+more) h p es more
def nA (h more:Nat):List Rat:=List.replicate h 0++List.replicate more 1
theorem zH (n h p m k:Nat)(e:Nat × Nat)(a:Rat):(rgF n h p m k e a).length=n:=by unfold rgF;simp
theorem Cc (n h p:Nat)(a:List (Nat × Nat))(t:Nat):rgL n h p a (t+1)=rgL n h p a t++rgK n h p a t:=by
 unfold rgL;rw[SC,List.flatMap_append,List.flatMap_cons,List.flatMap_nil,RQ]
theorem zG (n h p:Nat)(a:List (Nat × Nat)):∀ t,(rgL n h p a t).length=2*t
|0=>rfl
|t+1=>by rw[Cc,Ru,zG n h p a t];rfl
theorem J0 (a:List RowQ)(h p:Nat)(c:List (Nat × Nat))(b:Nat):(zE a h p c b).length=a.length+2*b:=by
 unfold zE;rw[Ru,au,zG]
theorem Cb (h a:Nat):(nA h a).length=h+a:=by unfold nA;simp
structure EdgeOk (s p:Nat)(es:List (Nat × Nat)):Prop where
 lt:∀ e∈es,e.1<e.2/\e.2<p
theorem H6 (a:k<s*es.length):edg es k∈es/\k / es.length<s:=by
 have h0:0<es.length:=by
  rcases Sz es.length with h|h
  ·rw[h]at a;omega
  exact h
 refine⟨?_,(Tn h0).2 a⟩;unfold edg;have hm:=R9 k h0;rw[am,ai hm];exact Sj hm
theorem G7 {a:Nat}(b:a<s)(c:i<p):a*p+i<s*p:=by
 have:(a+1)*p<=s*p:=Sa _ b;rw[Nat.succ_mul]at this;omega
theorem ME (h:EdgeOk s p es)(a:k<s*es.length):k / es.length*p+(edg es k).1<s*p/\k / es.length*p+(edg es k).2<s*p/\(edg es k).1≠(edg es k).2:=by
 obtain⟨h1,h2⟩:=H6 a;obtain⟨h3,h4⟩:=h.lt _ h1;exact⟨G7 h2 om_,G7 h2 h4,by omega⟩
theorem NA (a:k / m*p+e.1<h)(b:k / m*p+e.2<h)(c:h+k<n)(j:Nat):(rgF n h p m k e sg).getD j 0=if j=h+k then -1 else if j=k / m*p+e.2 then -sg else if j=k / m*p+e.1 then sg else 0:=by
 unfold rgF;rw[vj ap,vj ap,vj ap,qY]
theorem zM (a:i<n):Lp.sumN (fun j=>(if j=i then x else 0)*y j) n=x*y i:=by
 rw[Lp.sumN_at a,Lp.sumN_zero fun j _=>?_]
 ·rw[aM rfl];grind
 by_cases h:j=i
 ·rw[aM h]
 rw[aF h,aF h];grind
theorem Ny (a:k / m*p+e.1<h)(b:k / m*p+e.2<h)(d:e.1≠e.2)(c:h+k<n) :
  Lp.sumN (fun j=>(rgF n h p m k e sg).getD j 0*y j) n=sg*y (k / m*p+e.1)+(-sg*y (k / m*p+e.2) + -1*y (h+k)):=by
 rw[<- zM (i:=k / m*p+e.1) (n:=n) (x:=sg) om_,<- zM (i:=k / m*p+e.2) (n:=n) (x:=-sg) om_,<- zM (i:=h+k) (n:=n) (x:=-1) om_,<- Lp.sumN_add,<- Lp.sumN_add];refine Lp.sumN_congr fun j _=>?_;rw[NA a b c];by_cases h1:j=h+k
 ·rw[aM h1,aF om_,aF om_,aM h1];grind
 by_cases h2:j=k / m*p+e.2
 ·rw[aF h1,aM h2,aF om_,aM h2,aF h1];grind
 by_cases h3:j=k / m*p+e.1
 ·rw[aF h1,aF h2,aM h3,aF h2,aF h1];grind
 rw[aF h1,aF h2,aF h3,aF h2,aF h1];grind
theorem gV :(bZ n (eg rows)).At y ↔ ∀ r∈rows,Lp.sumN (fun j=>r.f.getD j 0*y j) n<=r.b:=by
 have hm:(bZ n (eg rows)).m=rows.length:=au _;constructor
 ·intro h r hr;obtain⟨i,c,rfl⟩:=List.mem_iff_getElem.1 hr;have h1:=h i (by rw[hm];exact c);have d:(bZ n (eg rows)).a i=fun j=>rows[i].f.getD j 0:=by show(fun j=>((eg rows).getD i ([],0)).1.getD j 0)=_;rw[nu c]
  have e:(bZ n (eg rows)).b i=rows[i].b:=by show((eg rows).getD i ([],0)).2=_;rw[nu c]
  rw[d,e]at h1;exact h1
 intro h i c;rw[hm]at c;have h1:=h rows[i] (Sj c);have d:(bZ n (eg rows)).a i=fun j=>rows[i].f.getD j 0:=by show(fun j=>((eg rows).getD i ([],0)).1.getD j 0)=_;rw[nu c]
 have e:(bZ n (eg rows)).b i=rows[i].b:=by show((eg rows).getD i ([],0)).2=_;rw[nu c]
 rw[d,e];exact h1
theorem Bz (a:r.f.length=h):Lp.sumN (fun j=>(fw more r).f.getD j 0*y j) (h+more)=Lp.sumN (fun j=>r.f.getD j 0*y j) h:=by
 rw[Lp.sumN_split,Lp.sumN_zero (n:=more) fun j _=>?_]
 ·rw[show Lp.sumN (fun j=>(fw more r).f.getD j 0*y j) h=Lp.sumN (fun j=>r.f.getD j 0*y j) h from Lp.sumN_congr fun j b=>?_]
  ·grind
  show(r.f++List.replicate more 0).getD j 0*y j=_;rw[am,Se om_,<- am]
 show(r.f++List.replicate more 0).getD (h+j) 0*y (h+j)=0;rw[am,RV om_,<- am,qY];grind
theorem G4 :Lp.sumN (fun j=>(nA h more).getD j 0*y j) (h+more)=Lp.sumN (fun k=>y (h+k)) more:=by
 rw[Lp.sumN_split,Lp.sumN_zero (n:=h) fun j a=>?_]
 ·rw[show Lp.sumN (fun r=>(nA h more).getD (h+r) 0*y (h+r)) more=Lp.sumN (fun k=>y (h+k)) more from Lp.sumN_congr fun j a=>?_]
  ·grind
  unfold nA;rw[am,RV ak,SU,aM ap];show 1*_=_;grind
 unfold nA;rw[am,Se ap,<- am,qY];grind
def abR (x:Rat):Rat:=if x<0 then -x else x
theorem yV {y:Rat}:abR x<=y ↔ x<=y/\-x<=y:=by
 unfold abR;split <;> grind
theorem OV (x:Rat):0<=abR x:=by
 unfold abR;split <;> grind
def O9 (p:Nat)(es:List (Nat × Nat))(y:Nat->Rat)(k:Nat):Rat:=y (k / es.length*p+(edg es k).1)-y (k / es.length*p+(edg es k).2)
section
variable {rows:List RowQ} {s p:Nat} {es:List (Nat × Nat)} {y:Nat->Rat}
theorem Me (e:EdgeOk s p es)(d:∀ r∈rows,r.f.length=s*p):(bZ (s*p+s*es.length) (eg (zE rows (s*p) p es (s*es.length)))).At y ↔ (bZ (s*p) (eg rows)).At y/\∀ k,k<s*es.length->abR (O9 p es y k)<=y (s*p+k):=by
 rw[gV,gV];have c:∀ k,k<s*es.length->∀ sg,Lp.sumN (fun j=>(rgF (s*p+s*es.length) (s*p) p es.length k (edg es k) sg).getD j 0*y j) (s*p+s*es.length)=sg*O9 p es y k-y (s*p+k):=fun k a sg=>by
  obtain⟨h1,h2,h3⟩:=ME e a;rw[Ny h1 h2 h3 om_];unfold O9;grind
 constructor
 ·intro h;refine⟨fun r hr=>?_,fun k a=>?_⟩
  ·have:=h (fw _ r) (Td _ (TA hr));rw[Bz (d r hr)]at this;exact this
  have hm:∀ x∈rgK (s*p+s*es.length) (s*p) p es k,x∈zE rows (s*p) p es (s*es.length):=fun x b=>Tl _ (List.mem_flatMap.2 ⟨k,RL.2 a,b⟩);have h1:=h _ (hm _ Rq);have h2:=h _ (hm _ (RB _ Rq));rw[c k a]at h1 h2;rw[yV];simp only at h1 h2;constructor <;> grind
 rintro ⟨h1,h2⟩ r hr;rcases RF.1 hr with hr|hr
 ·obtain⟨x,b,rfl⟩:=Rs.1 hr;rw[Bz (d x b)];exact h1 x b
 obtain⟨k,a,hr⟩:=List.mem_flatMap.1 hr;have a:=RL.1 a;have h3:=yV.1 (h2 k a);rcases RC.1 hr with rfl|hr
 ·rw[c k a];simp only;grind
 rw[RK.1 hr,c k a];simp only;grind
theorem Nu {a:Nat}{b c:Nat->Rat}(d:EdgeOk s p es)(e:∀ r∈rows,r.f.length=s*p)(h:Lp.UnbR (bZ (s*p+s*es.length) (eg (zE rows (s*p) p es (s*es.length)))) (fun j=>(nA (s*p) (s*es.length)).getD j 0) a b c):False:=by
 obtain⟨y,hy,g⟩:=h.below 0;rw[show(bZ (s*p+s*es.length) (eg (zE rows (s*p) p es (s*es.length)))).n=s*p+s*es.length from rfl,G4]at g;have h1:=((Me d e).1 hy).2;have h2:0<=Lp.sumN (fun k=>y (s*p+k)) (s*es.length):=Lp.sumN_ge fun k i=>Rat.le_trans (OV _) (h1 k i);grind
end
theorem PQ (h:∀ r∈rows,RowI r):∀ r∈zE rows (s*p) p es (s*es.length),RowI r:=by
 intro r hr;have d:Wl 1 1:=⟨1,by decide +kernel,by decide⟩;have b:Wl 1 (-1):=⟨-1,by decide +kernel,by decide⟩;rcases RF.1 hr with hr|hr
 ·obtain⟨x,e,rfl⟩:=Rs.1 hr;obtain⟨D,h0,f,h1,h2⟩:=h x e;refine⟨D,h0,f,fun q a=>?_,h2⟩;rcases RF.1 a with a|a
  ·exact h1 q a
  rw[(List.mem_replicate.1 a).2];exact Wl.zero _
 obtain⟨k,g,hr⟩:=List.mem_flatMap.1 hr;have c:∀ sg:Rat,Wl 1 sg->∀ q∈rgF (s*p+s*es.length) (s*p) p es.length k (edg es k) sg,Wl 1 q:=fun sg hs q a=>by
  unfold rgF at a;rcases SM a with a|rfl
  ·rcases SM a with a|rfl
   ·rcases SM a with a|rfl
    ·rw[(List.mem_replicate.1 a).2];exact Wl.zero _
    exact hs
   exact hs.neg
  exact b
 rcases RC.1 hr with rfl|hr
 ·exact⟨1,by decide,by decide,c 1 d,Wl.zero _⟩
 rw[RK.1 hr];exact⟨1,by decide,by decide,c (-1) b,Wl.zero _⟩
theorem Nw (h b j:Nat):Wl 1 ((nA h b).getD j 0):=by
 unfold nA;rw[am];cases a:(List.replicate h (0:Rat)++List.replicate b 1)[j]? with
|none=>exact Wl.zero _
|some q =>
  rcases RF.1 (aU a) with a|a
  ·rw[(List.mem_replicate.1 a).2];exact Wl.zero _
  rw[(List.mem_replicate.1 a).2];exact⟨1,by decide +kernel,by decide⟩
theorem Nv (a:s*p+s*es.length<=12)(h:∀ r∈rows,RowI r):Lp.Lim (bZ (s*p+s*es.length) (eg (zE rows (s*p) p es (s*es.length)))) (fun j=>(nA (s*p) (s*es.length)).getD j 0) 20:=uV a (PQ h) ⟨1,by decide,by decide,fun j _=>Nw _ _ j⟩
theorem PN (a:RowI r)(b:Lp.CmD n k pt)(u:i<=n)(v:n<=1000):QB (k+2) (Lp.sumN (fun j=>r.f.getD j 0*pt j) i):=by
 obtain⟨D,h0,c,h1,_⟩:=a;obtain⟨d,g0,g,h⟩:=b;have w:0<B9 ^ k:=om_;obtain⟨Z,e,l⟩:∃ Z:Int,Lp.sumN (fun j=>r.f.getD j 0*pt j*((D*d:Int):Rat)) i=Z/\Z.natAbs<=i*(999999999*B9 ^ k):=Lp.sumN_int fun j x=>by
  obtain⟨z,e,m⟩:=h j om_;obtain⟨y,o,hy⟩:Wl D (r.f.getD j 0):=by
   rw[am];cases p:r.f[j]? with
  |none=>exact Wl.zero _
  |some q=>exact h1 q (aU p)
  refine⟨y*z, ?_, ?_⟩
  ·rw[Si,Si,<- e,<- o];grind
  rw[SK];exact SJ hy (U0 m)
 have s:Lp.sumN (fun j=>r.f.getD j 0*pt j) i*((D*d:Int):Rat)=Z:=by
  rw[<- e,UT,<- Lp.sumN_mul];exact Lp.sumN_congr fun j _=>UT _ _
 have t:1000*(999999999*B9 ^ k)<B9 ^ (k+2):=by
  rw[TD,show B9 ^ 2=1000000000000000000 from by decide];omega
 refine Lp.Quo.qb (K:=1000*(999999999*B9 ^ k)) ⟨Z,D*d,Int.mul_ne_zero h0 g0,s, ?_, ?_⟩ t
 ·exact RD l (Sa _ om_)
 rw[SK];have:=SJ c (U0 g);omega
theorem Q6 {z:Int}(h:s*p<=60):ofE z s p=z:=by
 unfold ofE;split
 ·rfl
 rename_i h2;have:z=0:=by simpa using h2
 rw[aF om_,this]
theorem AJ (C:Mem)(a:Value)(B:Bk)(z:Int)(b:BookZ C a B z)(h:bs B*bp B<=60):Gives cx.P 92 [a] C (.tuple #[i_ (if z=0 then ((bs B*bp B:Nat):Int) else 0),i_ z]):=by
 have h1:=Lh C a B z b;rw[Q6 h]at h1;exact h1
theorem mD (C:Mem)(n:Nat)(h:n<=100000):Jog.Fn cx.P 77 [i_ n] C [] fun u _f a=>∃ b,u=s_ b n n/\a=[.arr u 32 1 n (List.replicate n (ae [48]))]:=by
 refine Vi func77 6 U3 fun w0=>U1 1 [0] U<|VB [(2,3)] U fun R c=>Vy [[ae [48]]] U12 fun g _ _ d=>Vc U6<|D.call (nB _ _ n [48] d.m_ om_) U (.inr dc_) U6 (Rw _) fl_ fun i _ j _ e=>C6 1 [2] c U ?_;obtain⟨bz,rfl,rfl⟩:=e;refine Vo (VM U U ?_);exact⟨bz,U,U⟩
theorem Gh (B:Bk)(a:Nat->List RowQ):(bT (bJ B) a (List.range B.obs.length)).map SrcQ.r=dz B a:=rfl
abbrev sC7 (A:Option Addr)(n c:Nat):Value:=.slice A n c
theorem iu (C:Mem)(M:Tabs C)(g:Value)(B:Bk)(N:List Rat)(c:Nat->List RowQ)(o:BookIn C g B)(h:Calm B N c) :
  Jog.Fn cx.P 37 [g] C [] fun u D k=>∃ (d:Option Addr)(e bz:Nat)(vs:List Value),u=.tuple #[.agg ⟨[i_ (bs B*bp B:Nat),.slice d (dz B c).length e,s_ bz (bs B*bp B) (bs B*bp B)]⟩,i_ 0]/\RowsOk D vs (dz B c) /\
   k=[.arr (.slice d (dz B c).length e) 140 2 (dz B c).length (aC vs (dz B c)).flatten,.arr (s_ bz (bs B*bp B) (bs B*bp B)) 32 1 (bs B*bp B) (List.replicate (bs B*bp B) (ae [48]))]:=by
 have av:=o;have X:=h.rich.bookz M o;have Y:=h.cnt (de _);have Z:=h.n12;have aw:=h.ob;obtain⟨l,x⟩:∃ l,bT (bJ B) c (List.range B.obs.length)=l:=⟨_,rfl⟩;have O:dz B c=l.map SrcQ.r:=by rw[<- Gh,x]
 have ay:l.length<=120:=by
  have:=Y;rw[show oD B c (List.range B.obs.length)=dz B c from rfl,O,au]at this;exact this
 have aa:∀ D:Mem,C.le D->Pur cx.P 54 [g] D fun u E=>∃ v,u=.tuple #[v,i_ 0]/\Dx E v l:=fun D p=>by
  have:=IS D (M.mono p) g B N c (o.mono p) h.rich om_ (by rw[x];omega);rw[x]at this;exact this
 obtain⟨n,Q⟩:∃ n,bs B*bp B=n:=⟨_,rfl⟩;have ab:∀ D:Mem,C.le D->Gives cx.P 92 [g] D (.tuple #[i_ n,i_ 0]):=fun D p=>by
  have h:=AJ D g B 0 (X.mono p) om_;rw[aM rfl,Q]at h;exact h
 rw[O];rw[Q]at Z⊢;obtain⟨v1,v2,tv,cv,ov,rfl,h1,h2,h3,h4,h5⟩:=id o.ex;have az:=mx_
 refine Vi func37 47 U3 fun w0=>Vd fun R a=>Vs U6 fun b1=>Vt U5 fun q=>C6 1 [1,2] a U<|G.freeze 1 U fun _ _ S=>Vd fun R a=>Vb (bkT S 5) U8<|VJ (aa _ mup) U7 (fun aA _ _ ad=>?_);obtain⟨wv,rfl,ag⟩:=ad;obtain⟨vs,y,z⟩:=ag;have T:=jO y;obtain⟨Aw,cw,rfl,ah,aB,_⟩:=id z;have aj:(bW vs l).length=l.length:=by unfold bW;simp[T]
 rw[aj]at z ah⊢;refine C6 5 [1,2,4,5] a U<|U1 2 [1,2,4,5,16] U<|G.cd (fun V=>?_) fun V=>?_
 ·exact absurd V dc_
 refine Vd fun R a=>Vb (bkT S 5) U8<|Vl (ab _ mup) U7<|C6 5 [2,4,5,6] a U<|U1 2 [2,4,5,6,25] U<|G.cd (fun W=>?_) fun W=>?_
 ·exact absurd W dc_
 refine VB [(2,3)] U fun R a=>Ve 2 U<|D.call (mD _ n om_) U (.inr dc_) U6 (Rw _) fl_ (fun aD _ aE _ ak=>?_);obtain⟨bz,rfl,rfl⟩:=ak;refine Vu [i_ n,.slice none 0 0,s_ bz n n] U8<|Vt U5 fun t=>Vk (j:=0) U12<|Vf [2,4,7] a U<|U1 3 [2,7,32,33,34] U<|G.nilArr 140 2<|G.perm (L':=[.arr (sC7 none 0 0) 140 2 0 (prC (vs.take 0) (l.take 0)).flatten,.arr (s_ bz n n) 32 1 n (List.replicate n (ae [48])),.obj t (.cells ⟨[i_ n,.slice none 0 0,s_ bz n n]⟩ 74 (0,0)),.obj q (.cells ⟨[i_ 0,.slice none 0 0,.slice none 0 0]⟩ 74 (0,0))]) (pkL [0,1,0,0] U)<|G.loop (fun fr C' k μ=>∃ (i:Nat)(d:Option Addr)(n1 e:Nat),(i<=l.length)/\fr=[(2,[],p_ q),(7,[],p_ t),(32,[],.slice Aw l.length cw),(33,[],i_ l.length),(34,[],i_ i)]/\k=[.arr (sC7 d n1 e) 140 2 i (prC (vs.take i) (l.take i)).flatten,.arr (s_ bz n n) 32 1 n (List.replicate n (ae [48])),.obj t (.cells ⟨[i_ n,.slice d n1 e,s_ bz n n]⟩ 74 (0,0)),.obj q (.cells ⟨[i_ 0,.slice none 0 0,.slice none 0 0]⟩ 74 (0,0))]/\μ=l.length-i) (hn_ [2,7,32,33,34] U) ⟨0,none,0,0,Rv _,U,U,U⟩ (fun fr aF aG m _ hI=>?_);obtain⟨i,d,n1,e,hi,rfl,rfl,rfl⟩:=hI;refine U1 1 [2,7,32,33,34,35] U<|G.cd (fun A=>?_) fun A=>?_
 ·have F:i<l.length:=by
   have:=QL A;omega
  obtain⟨s,H⟩:∃ s,l[i]?=some s:=⟨l[i],ai F⟩;obtain⟨w,I⟩:∃ w,vs[i]?=some w:=⟨vs[i]'om_,ai om_⟩;have al:=y.2 i w s.r I (by rw[Rr,H];rfl);obtain⟨Ax,am,rfl,_⟩:=id al;have an:=Cu T I H;refine Vd fun R a=>Vq z.m_ U10 om_ (L3 I H) fl_ fun aH ao=>Vb ao U8<|Vt U5 fun b9=>Vk (j:=0) U12<|Vf [2,7,9,32,33,34] a U<|G.freeze 0 U fun _ _ ap=>Va 1 U fun R a=>Vj ac U9<|Vc U6<|Vb (bkT ap 2) U8<|Vy [[.slice Ax (s.r.f.map dJ).length am,ae (qtx s.r.b)]] U12 fun aI _ _ aq=>VF (j:=0) U11 aq.m_ U ax (by show(i+1)*40<=_;omega) fl_ fun J K L=>Vc U6<|Vk (j:=2) U12<|Vf [2,7,32,33,34] a U<|Vd fun R a=>Vh _ U U6<|C6 1 [2,7,32,33,34] a U<|G.perm (L':=[.arr (sC7 J K L) 140 2 (i+1) (prC (vs.take (i+1)) (l.take (i+1))).flatten,.arr (s_ bz n n) 32 1 n (List.replicate n (ae [48])),.obj t (.cells ⟨[i_ n,.slice J K L,s_ bz n n]⟩ 74 (0,0)),.obj q (.cells ⟨[i_ 0,.slice none 0 0,.slice none 0 0]⟩ 74 (0,0))]) (by rw[an,R4];(exact pkL [1,1,0,0] U))<|Vn (m':=l.length-(i+1)) om_ mup (hn_ [2,7,32,33,34] U) ⟨i+1,J,K,L,om_,U,U,U⟩
 have F:i=l.length:=by
  have:=Rt A;omega
 subst F;refine Vd fun R a=>Vj ac U9<|Vk (j:=3) U12<|C6 1 [2,3] a U ?_;rw[RN (show vs.length<=l.length by omega),Rz];refine VR 3 U<|WI af (fun A0 c0 ar _=>?_);obtain⟨rfl,rfl,rfl⟩:d=A0/\n1=l.length/\e=c0:=by cases ar;exact⟨rfl,rfl,rfl⟩
 refine Vo (XL 0 U U U U U U ?_);exact⟨d,e,bz,vs,by rw[au];rfl,RowsOk.mono y mup,by rw[au];rfl⟩
def iZ (s p:Nat)(pt:Nat->Rat):List (List Str):=chunks s p (((List.range (s*p)).map pt).map qtx)
abbrev oA (B:Bk)(RO:Nat->List RowQ):Lp.Sys:=bZ (bs B*bp B) (eg (dz B RO))
inductive BuiO (B:Bk) (RO:Nat->List RowQ) (D:Mem):Value->Prop where
|yes (pt:Nat->Rat) (v:Value):(oA B RO).At pt->Lp.CmD (bs B*bp B) 20 pt->(∀ j,QB 20 (pt j))->FieldsIn D v (iZ (bs B) (bp B) pt)->BuiO B RO D (.tuple #[v,.agg ⟨[.slice none 0 0]⟩,.bool true,.int .i64 0])
|no (du:Nat->Rat) (vd:Value):Lp.InfR (oA B RO) 20 du->Sl D 1 vd (((List.range (dz B RO).length).map du).map aQ)->BuiO B RO D (.tuple #[.slice none 0 0,.agg ⟨[vd]⟩,.bool false,.int .i64 0])
theorem H2 {p:Lp.Sys}{D:Mem}(h:FeaO p D u):∃ (A:Option Addr)(n c:Nat)(A2:Option Addr)(n2 c2:Nat)(a:Bool),u=.tuple #[.slice A n c,.agg ⟨[.slice A2 n2 c2]⟩,.bool a,i_ 0] /\
  ((a=true/\A2=none/\n2=0/\c2=0/\∃ pt,p.At pt/\Lp.CmD p.n 20 pt/\(∀ j,QB 20 (pt j))/\Sl D 1 (.slice A n c) (((List.range p.n).map pt).map aQ)) ∨
  (a=false/\∃ du,Lp.InfR p 20 du/\Sl D 1 (.slice A2 n2 c2) (((List.range p.m).map du).map aQ))):=by
 cases h with
|yes pt g b d e h1 =>
  obtain⟨A,c,rfl,_⟩:=id h1;exact⟨_,_,_,_,_,_,true,U,.inl ⟨U,U,U,U,pt,b,d,e,h1⟩⟩
|no du i f h1 =>
  obtain⟨A,c,rfl,_⟩:=id h1;exact⟨_,_,_,_,_,_,false,U,.inr ⟨U,du,f,h1⟩⟩
theorem AE (l:List Rat):l.map aQ=(l.map qtx).map ef:=by
 rw[So];rfl
theorem Gn (n:Nat):∀ x∈List.replicate n (0:Rat),QB 22 x:=fun x a=>by rw[(List.mem_replicate.1 a).2];exact QB_zero.le dc_
theorem yq (a:∀ j,QB 20 (pt j)):rZ s p (((List.range (s*p)).map pt).map qtx)=0:=by
 unfold rZ;rw[aM ak,RI.2 fun x b=>?_]
 ·rfl
 obtain⟨q,c,rfl⟩:=Rs.1 b;obtain⟨j,_,rfl⟩:=Rs.1 c;exact bh ((a j).le dc_)
theorem xw (a:∀ j,QB 20 (pt j)):∀ x∈((List.range (s*p)).map pt).map qtx,x.length<=999998:=fun x b=>by
 obtain⟨q,c,rfl⟩:=Rs.1 b;obtain⟨j,_,rfl⟩:=Rs.1 c;exact RD (bd (a j) dc_) dc_
theorem HM (C:Mem)(d:Tabs C)(k:Value)(B:Bk)(l:List Rat)(b:Nat->List RowQ)(c:BookIn C k B)(h:Calm B l b) :
  Pur cx.P 26 [k] C fun u D=>BuiO B b D u:=by
 have n:=c;have A:=h.rich.bookz d c;have aa:=h.n12;have e:=de B.obs.length;have E:=h.rowsQ e;have F:=h.q22 e;have H:=h.lim e;obtain⟨v1,v2,tv,cv,ov,rfl,h1,h2,h3,h4,h5⟩:=id c.ex;have ab:=mx_
 refine Vi func26 43 U3 fun w0=>Vd fun R a=>Vs U6 fun b1=>Vc U6<|Vt U5 fun b3=>C6 2 [1,3] a U<|G.freeze 1 U fun _ _ o=>VB [(1,3)] U fun R a=>Vb (bkT o 5) U8<|D.call (iu _ d.m_ _ B l b n.m_ h) U (.inr dc_) U6 (Rw _) fl_ (fun ac _ ad _ I=>?_);obtain⟨Ar,cr,bo,vs,rfl,q,rfl⟩:=I;refine Ve 3 U<|Vt U5 fun b6=>Vk (j:=0) U12<|C6 1 [1,3,5,6] a U<|U1 2 [1,3,5,6,14] U<|G.cd (fun r=>?_) fun r=>?_
 ·exact absurd r dc_
 refine G.freezeArr 1 (aC vs (dz B b)) U U (bQ _ _) (by rw[bE q.1]) (fun _ _ J=>?_);rw[jU];refine G.freezeArr 1 ((List.replicate (bs B*bp B) (0:Rat)).map aQ) U U bS ak fun _ _ K=>G.freeze 0 U (fun L _ M=>?_);have N:=oP (RowsOk.m_ q) (J.mono mup:Sl L 2 _ _);refine Vd fun R a=>Vb (bkT M 3) U8<|VC (Kj _ d.m_ (bs B*bp B) _ _ (eg (dz B b)) (List.replicate (bs B*bp B) 0) N.m_ K.m_ E (Gn _) F om_ ak H) U7 fl_ (fun ae _ _ O=>?_);obtain⟨Q,S,T,V,nd,cd,t,rfl,v⟩:=H2 O;refine Ve 6 U<|Vk (j:=0) U12<|C6 2 [1,3,4,5,7] a U<|Va 5 U fun R a=>VH U8<|Vf [1,3,5,7,29] a U<|G.cd (fun f=>?_) fun f=>?_
 ·have g:t=false:=by simpa using f
  subst g;obtain⟨du,W,w⟩:∃ du,Lp.InfR (oA B b) 20 du/\Sl _ 1 (.slice V nd cd) (((List.range (oA B b).m).map du).map aQ):=by
   rcases v with⟨h,_⟩|⟨_,h⟩
   ·cases h
   exact h
  refine Vv [0,1,2,3,4,5] [] U kr_ fun R c a=>Vj ag U9<|Ve 2 U<|Vk (j:=0) U12<|Ve 2 U<|Vf [2,3,4,5] a U ?_;clear a c R;refine Vo (WC ag U7 ?_);refine⟨U,.no du _ W ?_⟩;rw[show(oA B b).m=(dz B b).length from au _]at w;exact w.mono mup
 have g:t=true:=by simpa using f
 subst g;obtain⟨pt,X,Y,i,x⟩:∃ pt,(oA B b).At pt/\Lp.CmD (bs B*bp B) 20 pt/\(∀ j,QB 20 (pt j))/\Sl _ 1 (.slice Q S T) (((List.range (bs B*bp B)).map pt).map aQ):=by
  rcases v with⟨_,_,_,_,h⟩|⟨h,_⟩
  ·exact h
  cases h
 rw[AE]at x;have y:=yq (s:=bs B) (p:=bp B) i;refine Vd fun R a=>Vb (bkT o 5) U8<|Vc U6<|VC (yv _ d.m_ _ _ B (((List.range (bs B*bp B)).map pt).map qtx) n.m_ A.m_ om_ x.m_ (xw i) ap) U7 fl_ (fun af _ _ Z=>?_);obtain⟨fv,rfl,z⟩:=Z;rw[y,aM rfl]at z;rw[y];refine C6 5 [2,3,5] a U<|Va 1 U fun R a=>Vu ([.slice none 0 0]) U8<|Ve 4 U<|Vk (j:=0) U12<|C6 2 [2,3,4,5] a U<|Vo (WC ag U7 ?_);exact⟨U,.yes pt _ X Y i z.m_⟩
open Go Go.Jog Go.Shelf
set_option maxRecDepth 100000
def yx (e:Nat × Nat):List Value:=[.int .i64 e.1,.int .i64 e.2]
def OO (x y:Nat × Nat):Int:=Ms [x.1,x.2] [y.1,y.2]
theorem vI {x y:Nat × Nat}:OO x y<0 ↔ ltP x y:=by
 unfold OO ltP;simp only[Ms];split
 ·exact⟨fun _=>.inl ‹_›,fun _=>by decide⟩
 split
 ·exact⟨fun h=>absurd h dc_,fun h=>by omega⟩
 split
 ·exact⟨fun _=>.inr ⟨by omega,‹_›⟩,fun _=>by decide⟩
 split
 ·exact⟨fun h=>absurd h dc_,fun h=>by omega⟩
 exact⟨fun h=>absurd h dc_,fun h=>by omega⟩
theorem Ln:Sort.SWO (ltOf OO) where
 irrefl x:=by unfold ltOf;exact RU (fun h=>zT x (vI.1 h))
 trans x y z h1 h2:=by
  unfold ltOf at *;simp only[Ry] at *;rw[vI] at *;unfold ltP at *;omega
 ntrans x y z h1 h2:=by
  unfold ltOf at *;simp only[RZ] at *;rw[vI] at *;unfold ltP at *;omega
def Db (ks:List fE)(s:fE):Bool:=decide (s.1<s.2) || !(decide (oB s∈ks))
def mb (s:fE):Nat × Nat:=((min s.1 s.2).toNat,(max s.1 s.2).toNat)
def kS (ks:List fE)(seen:List Nat):List (Nat × Nat):=((seen.map fun j=>ks.getD j (0,0)).filter (Db ks)).map mb
theorem D6 {seen:List Nat}{s:fE}(h:ks[j]?=some s):kS ks (seen++[j])=kS ks seen++if Db ks s then [mb s] else []:=by
 unfold kS;rw[R3,S4,R3];congr 1;rw[R6,Tm,am,h,List.filter_cons];split <;> simp_all
theorem H5 {s:fE}(a:0<=s.1)(b:0<=s.2):yx (mb s)=[i_ (min s.1 s.2),i_ (max s.1 s.2)]:=by
 unfold yx mb;rw[show(((min s.1 s.2).toNat:Nat):Int)=min s.1 s.2 by omega,show(((max s.1 s.2).toNat:Nat):Int)=max s.1 s.2 by omega]
theorem ut (h:∀ t∈tris,nW n t):∀ s∈bO tris,0<=s.1/\0<=s.2/\s.1.toNat<n/\s.2.toNat<n:=by
 intro s hs;obtain⟨t,a,hs⟩:=List.mem_flatMap.1 hs;obtain⟨h1,h2,h3⟩:=h t a;simp only[pR,RC,Ss,TS]at hs;rcases hs with rfl|rfl|rfl <;> simp[oC,Fi] <;> omega
structure EdgL (tris:List Tri)(es:List (Nat × Nat)):Prop where
 up:es.Pairwise ltP
 mem:∀ e,e∈es ↔ e.1<e.2/\(((e.1:Int),(e.2:Int))∈bO tris∨((e.2:Int),(e.1:Int))∈bO tris)
theorem EdgL.same {a:List (Nat × Nat)}(h:EdgL tris es)(k:EdgL tris a):es=a :=
 E5 zT KB h.up k.up fun e=>(h.mem e).trans (k.mem e).symm
theorem EdgL.ok (h:EdgL tris es)(a:∀ t∈tris,nW n t)(s:Nat):EdgeOk s n es:=⟨fun e b=>by
 obtain⟨h1,h2⟩:=(h.mem e).1 b;rcases h2 with h2|h2
 ·have:=ut a _ h2;simp only[Tk]at this;omega
 have:=ut a _ h2;simp only[Tk]at this;omega⟩
theorem EdgL.le (h:EdgL tris es)(a:∀ t∈tris,nW n t)(b:n<=6):es.length<=15/\(n<=4->es.length<=6):=Kk b h.up (h.ok a 0).lt
theorem N6 {s t:fE}(a:0<=s.1)(b:0<=s.2)(c:0<=t.1)(d:0<=t.2)(h:mb s=mb t):s=t∨t=oB s:=by
 obtain⟨e,f⟩:=s;obtain⟨g,i⟩:=t;unfold mb at h;simp only[TE,oB] at *;omega
theorem Oy {l:List (Nat × Nat)}(c:ks.Perm (bO tris))(o:(bO tris).Nodup)(d:∀ s∈bO tris,0<=s.1/\0<=s.2)
  (p:l.Perm ((ks.filter (Db (bO tris))).map mb)) (q:es.Perm l) (b:es.Pairwise fun x y=>ltOf OO y x=false):EdgL tris es:=by
 have k:=q.trans p;have r:ks.Nodup:=c.nodup_iff.2 o;have f:∀ s∈ks.filter (Db (bO tris)),s∈bO tris/\Db (bO tris) s=true:=fun s b=>by
  obtain⟨h1,h2⟩:=SY.1 b;exact⟨c.mem_iff.1 h1,h2⟩
 have u:((ks.filter (Db (bO tris))).map mb).Nodup:=by
  rw[List.Nodup,List.pairwise_map];refine(r.filter _).imp_of_mem fun {s t} b v g w=>?_;obtain⟨a,k1⟩:=f s b;obtain⟨m,k2⟩:=f t v;obtain⟨i,a2⟩:=d s a;obtain⟨z,A⟩:=d t m;rcases N6 i a2 z A w with e|e
  ·exact g e
  subst e;unfold Db at k1 k2;have j:oB (oB s)=s:=rfl;simp only[j,a,m,decide_true,Bool.not_true,Bool.or_false,Ry]at k1 k2;simp only[oB]at k2;omega
 have g:es.Nodup:=k.nodup_iff.2 u;refine⟨?_,fun e=>?_⟩
 ·refine(List.Pairwise.and g b).imp fun {x y} ⟨h1,h2⟩=>?_;unfold ltOf at h2;have h3:¬ ltP y x:=fun h=>absurd (vI.2 h) (Rt h2);unfold ltP at h3⊢;obtain⟨x1,x2⟩:=x;obtain⟨y1,y2⟩:=y;simp only[ne_eq,TE] at *;omega
 rw[k.mem_iff];constructor
 ·intro h;obtain⟨s,b,rfl⟩:=Rs.1 h;obtain⟨a,k1⟩:=f s b;obtain⟨i,a2⟩:=d s a;have n:s.1≠s.2:=fun e=>by
   unfold Db at k1;have j:oB s=s:=by obtain⟨x,y⟩:=s;simp only[oB] at *;rw[e]
   rw[j]at k1;simp only[a,decide_true,Bool.not_true,Bool.or_false,Ry]at k1;omega
  obtain⟨x,y⟩:=s;unfold mb;simp only at i a2 n a⊢;rcases Int.lt_or_gt_of_ne n with h|h
  ·refine⟨by omega,.inl ?_⟩;rw[show(((min x y).toNat:Nat):Int)=x by omega,show(((max x y).toNat:Nat):Int)=y by omega];exact a
  refine⟨by omega,.inr ?_⟩;rw[show(((min x y).toNat:Nat):Int)=y by omega,show(((max x y).toNat:Nat):Int)=x by omega];exact a
 rintro ⟨h1,h2⟩;have B:mb ((e.1:Int),(e.2:Int))=e:=by
  obtain⟨x,y⟩:=e;unfold mb;simp only[TE] at *;omega
 have C:mb ((e.2:Int),(e.1:Int))=e:=by
  obtain⟨x,y⟩:=e;unfold mb;simp only[TE] at *;omega
 by_cases h3:((e.1:Int),(e.2:Int))∈bO tris
 ·refine Rs.2 ⟨_,SY.2 ⟨c.mem_iff.2 h3, ?_⟩,B⟩;unfold Db;rw[RJ (by show(e.1:Int)<e.2;omega)];rfl
 have h4:=h2.resolve_left h3;refine Rs.2 ⟨_,SY.2 ⟨c.mem_iff.2 h4, ?_⟩,C⟩;unfold Db;rw[show oB ((e.2:Int),(e.1:Int))=((e.1:Int),(e.2:Int)) from rfl,RU h3,Bool.not_false,Bool.or_true]
theorem yf (C:Mem)(a:Int):Gives cx.P 274 [i_ a] C (.bool false):=by
 exact Vi func274 6 U3 fun w0=>U1 1 [0] U<|U1 4 [2] U<|Vg U2<|⟨by simp,U⟩
theorem AM (C:Mem)(a b:Int):Gives cx.P 216 [i_ a,i_ b] C (i_ (ML a b)):=by
 refine Vi func216 20 U3 fun w0=>U1 1 [0,1] U<|Va 1 U fun R d=>Vl (yf _ _) U7<|C6 1 [0,1,5] d U<|Va 1 U fun R d=>Vl (yf _ _) U7<|C6 1 [0,1,5,6] d U<|U1 1 [0,1,6,11] U<|G.cd (fun f=>?_) fun f=>?_
 ·cases f
 refine U1 1 [0,1,13] U<|G.cd (fun g=>?_) fun g=>?_
 ·cases g
 refine U1 3 [0,1,16] U<|G.cd (fun c=>?_) fun c=>?_
 ·refine U1 1 [4] U<|Vg U2 ?_;simp only[Ry]at c;exact⟨by rw[ML,aM c],U⟩
 refine U1 3 [19] U<|G.cd (fun e=>?_) fun e=>?_
 ·refine U1 1 [4] U<|Vg U2 ?_;simp only[Ry,RZ]at c e;exact⟨by rw[ML,aF c,aF om_],U⟩
 refine U1 1 [4] U<|Vg U2 ?_;simp only[RZ]at c e;exact⟨by rw[ML,aF c,aM om_],U⟩
theorem AN (C:Mem)(v w:Value)(a b:List Nat)(l:Sl C 1 v (a.map aW))(n:Sl C 1 w (b.map aW))(L:a.length<=1000000)(_M:b.length<=1000000) :
  Gives cx.P 148 [v,w] C (i_ (Ms a b)):=by
 obtain⟨A,c,rfl,_⟩:=id l;obtain⟨B,d,rfl,_⟩:=id n;simp only[au]at l n⊢;refine Vi func148 36 U3 fun w0=>U1 1 [0,1] U<|U1 3 [0,1,9,10,11] U<|G.loop (fun fr N z D=>∃ (k:Nat),(k<=a.length/\k<=b.length/\Ms (a.drop k) (b.drop k)=Ms a b)/\fr=[(0,[],.slice A a.length c),(1,[],.slice B b.length d),(9,[],.slice A a.length c),(10,[],i_ a.length),(11,[],i_ k)]/\z=[]/\D=a.length-k) (hn_ [0,1,9,10,11] U) ⟨0,⟨Rv _,Rv _,U⟩,U,U,U⟩ (fun fr O Q m _ E=>?_);obtain⟨k,⟨S,T,g⟩,rfl,rfl,rfl⟩:=E;refine U1 1 [0,1,9,10,11,12] U<|G.cd (fun o=>?_) fun o=>?_
 ·have h:k<a.length:=by simpa using o
  obtain⟨x,t⟩:∃ x,a[k]?=some x:=⟨a[k],ai h⟩;have F:(a.map aW)[k]?=some (aW x):=by rw[Rr,t];rfl
  have p:a.drop k=x::a.drop (k+1):=by rw[RP h,(aJ.1 t).2]
  refine Va 1 U fun R f=>Vq l.m_ U10 om_ F fl_ fun V H=>Vb H U8<|C6 2 [0,1,5,6,9,10,11] f U<|U1 4 [0,1,5,6,9,10,11,19] U<|G.cd (fun q=>?_) fun q=>?_
  ·have i:b.length<=k:=by simpa using q
   have j:b.drop k=[]:=S3 i;exact U1 1 [4] U<|Vg U2<|⟨by rw[<- g,p,j];rfl,U⟩
  have i:k<b.length:=by
   have:¬ b.length<=k:=by simpa using q
   omega
  obtain⟨y,hy⟩:∃ y,b[k]?=some y:=⟨b[k],ai i⟩;have I:(b.map aW)[k]?=some (aW y):=by rw[Rr,hy];rfl
  have j:b.drop k=y::b.drop (k+1):=by rw[RP i,(aJ.1 hy).2]
  refine Va 2 U fun R f=>Vq n.m_ U10 om_ I fl_ fun W J=>Vb J U8<|C6 1 [0,1,6,7,9,10,11] f U<|Va 2 U fun R f=>Vl (AM _ _ _) U7<|C6 1 [0,1,8,9,10,11] f U<|U1 2 [0,1,8,9,10,11,28] U<|G.cd (fun r=>?_) fun r=>?_
  ·have e:ML x y≠0:=by simpa using r
   refine U1 2 [4] U<|Vg U2<|⟨?_,U⟩;rw[<- g,p,j];simp only[Ms];unfold ML at e⊢;by_cases h1:x<y
   ·have h3:(x:Int)<y:=by omega
    rw[aM h1,aM h3]
   have h3:¬ (x:Int)<y:=by omega
   rw[aF h1,aF h3];rw[aF h3]at e;by_cases h2:y<x
   ·have h4:¬ (x:Int)=y:=by omega
    rw[aM h2,aF h4]
   have h4:(x:Int)=y:=by omega
   rw[aM h4]at e;exact absurd U e
  have e:ML x y=0:=by simpa using r
  have K:x=y:=by
   unfold ML at e;split at e
   ·cases e
   split at e
   ·omega
   cases e
  refine Vd fun R f=>Vh _ U U6<|C6 1 [0,1,9,10,11] f U<|Vn (m':=a.length-(k+1)) om_ mup (hn_ [0,1,9,10,11] U) ⟨k+1,⟨by omega,by omega,by rw[<- g,p,j,K];simp[Ms]⟩,U,U,U⟩
 have h:k=a.length:=by
  have:¬ k<a.length:=by simpa using o
  omega
 subst h;rw[SA]at g;refine U1 5 [35] U<|G.cd (fun s=>?_) fun s=>?_
 ·have u:a.length<b.length:=by simpa using s
  refine U1 1 [4] U<|Vg U2<|⟨?_,U⟩;rw[<- g,RP u];rfl
 have u:¬ a.length<b.length:=by simpa using s
 refine U1 1 [4] U<|Vg U2<|⟨?_,U⟩;rw[<- g,S3 om_];rfl
theorem K8 (C:Mem)(x y:Nat × Nat):Gives cx.P 147 [.agg ⟨yx x⟩,.agg ⟨yx y⟩] C (i_ (OO x y)):=by
 refine Vi func147 8 U3 fun w0=>Vd fun R a=>Vs U6 fun m=>Vs U6 fun n=>C6 1 [2,3] a U<|G.freeze 1 U fun _ _ f=>G.freeze 0 U (fun d _ g=>?_);have e:∀ {b:Nat}(z:Nat × Nat){t:TypeId},d b=some (.cells ⟨yx z⟩ t (0,0))->Sl d 1 (s_ b 2 2) (([z.1,z.2]:List Nat).map aW):=fun z t h=>Sl.ofBlock (rows:=([z.1,z.2]:List Nat).map aW) (c:=2) h (by intro r hr;obtain⟨y,_,rfl⟩:=Rs.1 hr;rfl) (fun j v i=>by simpa [yx,aW] using i) (Ro _) dc_;have k:=e x (Mem.get f mup);have l:=e y (Mem.get g mup);exact Vv [0,1,2,3] [(2,1)] U kr_ fun R o a=>Wr 0 2 2 U12 (fun _=>⟨.inl ⟨U,U⟩,.inl ⟨U,U⟩,.inl ⟨U,U⟩,by omega,by omega,Ro _⟩) U2<|Wr 0 2 2 U12 (fun _=>⟨.inl ⟨U,U⟩,.inl ⟨U,U⟩,.inl ⟨U,U⟩,by omega,by omega,Ro _⟩) U2<|Vx (fun _=>(AN _ _ _ [x.1,x.2] [y.1,y.2] k.m_ l.m_ (by show 2<=1000000;decide) (by show 2<=1000000;decide))) U9<|C6 1 [4] a U<|Vg U2<|⟨U,U⟩
theorem JB (C:Mem)(v:Value)(l:List (Nat × Nat))(d:l.length<=1000000):Jog.Fn cx.P 146 [v,.func (.func 147) #[] #[]] C [.arr v 163 2 l.length (l.map yx).flatten]
  fun u _e b=>∃ a:List (Nat × Nat),u=.tuple #[]/\b=[.arr v 163 2 l.length (a.map yx).flatten]/\a.Perm l/\a.Pairwise (fun x y=>ltOf OO y x=false) :=
 zu (P:=cx.P) (T:=tab) Tryz.sortE cx.hT rfl rfl yx fl_ (fun x=>rfl) OO Ln 147 [] C (fun x y c _=>K8 c x y) v 163 l om_ kr_ kr_
abbrev sE (A:Option Addr)(n c:Nat):Value:=.slice A n c
theorem K6 (l:List (Nat × Nat)):∀ r∈l.map yx,r.length=2:=fun r hr=>by obtain⟨y,_,rfl⟩:=Rs.1 hr;rfl
theorem wY (b:List fE)(a:List Nat):(kS b a).length<=a.length:=by
 unfold kS;rw[au];refine RD (S9 _ _) ?_;rw[au];exact Ro _
theorem K7 (C:Mem)(hT:Tabs C)(N:Value)(B:List Pt)(f:List Tri)(O:MeshIn C N B f)(E:Good B f) :
  Pur cx.P 76 [N] C fun u D=>∃ es v,u=.tuple #[v,i_ 0]/\EdgL f es/\Sl D 2 v (es.map yx):=by
 have n:=E.ok;have ah:=O;obtain⟨v1,v2,rfl,h1,h2⟩:=id O.ex;have aA:=mx_
 have x:=ut n.ins;have aj:=nt f;have aB:=n.lt;refine Vi func76 63 U3 fun w0=>Vd fun R c=>Vs U6 fun b1=>C6 2 [1] c U<|G.freeze 0 U fun _ _ Q=>Vd fun R c=>Vb (bkT Q 2) U8<|Vl (fH _ hT.m_ _ B f ah.m_ E) U7<|C6 1 [1,4] c U<|U1 2 [1,4,14] U<|G.cd (fun S=>?_) fun S=>?_
 ·exact absurd S dc_
 refine Vd fun R c=>Vb (bkT Q 2) U8<|VJ (xF _ _ _ f E.ne h2.m_ (sS n.sides)) U7 (fun aC _ _ ak=>?_);obtain⟨b,rfl,g⟩:=ak;obtain⟨m,T⟩:∃ m,xG f f.length=m:=⟨_,rfl⟩;have y:m.map (·.1)=bO f:=by
  have:=fP n.sides f.length (Ro _);rw[Rz,T]at this;exact this
 rw[T]at g;obtain⟨ks,z⟩:∃ ks,bO f=ks:=⟨_,rfl⟩;rw[z]at y x aj;have V:ks.length=m.length:=by rw[<- y];simp
 have W:∀ s:fE,(dY m (s.2,s.1)).isSome=decide (oB s∈ks):=fun s=>by
  have:=CH (m:=m) (s:=s);rw[y]at this;rw[this];unfold jB;rw[Bool.not_not]
 refine C6 5 [5] c U<|U1 1 [5,7] U<|Va 1 U fun R c=>WQ kI2.enc (Mem.get g mup) U U U U U U U fl_ fun A=>Vf [5,7,22] c U<|G.nilArr 163 2<|G.loop (fun fr C' F μ=>∃ (seen:List Nat)(o:Option Addr)(n1 r:Nat),(seen.Nodup/\(∀ j∈seen,j<ks.length))/\fr=[(5,[],.map (some b)),(7,[],.slice o n1 r),(22,[],p_ A)]/\F=[.arr (sE o n1 r) 163 2 (kS ks seen).length ((kS ks seen).map yx).flatten,.obj A (bq b m.length seen)]/\μ=ks.length-seen.length) (hn_ [5,7,22] U) ⟨[],none,0,0,⟨List.nodup_nil,by simp⟩,U,U,U⟩ (fun fr aD aE m _ hI=>?_);obtain⟨seen,o,n1,r,⟨H,I⟩,rfl,rfl,rfl⟩:=hI;refine Vd fun R c=>WT kI2.enc (q:=1) (Mem.get g mup) U U U U U U fl_ fun X aF k Y=>C6 1 [5,7,22,24] c U<|G.cd (fun t=>?_) fun t=>?_
 ·obtain⟨aG,j,Z,al,rfl⟩:X=true/\∃ j,j<m.length/\j ∉ seen/\k=seen++[j]:=by
   rcases Y with⟨h1,_⟩|h1
   ·rw[h1]at t;cases t
   exact h1
  rw[<- V]at Z;obtain⟨⟨s,bv⟩,hs⟩:∃ p,m[j]?=some p:=⟨m[j]'om_,ai om_⟩;have aa:ks[j]?=some s:=by rw[<- y,Rr,hs];rfl
  have J:(seen++[j]).Nodup:=by
   rw[S1];exact⟨H,by simp,fun a ha b g e=>by rw[RK.1 g]at e;subst e;exact al ha⟩
  have K:∀ i∈seen++[j],i<ks.length:=fun i w=>by
   rcases RF.1 w with h|h
   ·exact I i h
   rw[RK.1 h];exact Z
  have am:(seen++[j]).length<=ks.length:=by
   have:=List.Nodup.length_le_of_subset J (l₂:=List.range ks.length) (fun i w=>RL.2 (K i w));simpa using this
  have aH:(seen++[j]).length=seen.length+1:=by simp
  have l:=D6 aa (seen:=seen);obtain⟨an,ao,_⟩:=x s (aU aa);have ap:=wY ks seen;refine Vd fun R c=>WR kI2.enc (Mem.get g mup) hs ag U U U U U U U<|Vc U6<|Vt U5 fun b8=>Vk (j:=0) U12<|Vf [5,7,8,22] c U<|Va 1 U fun R c=>Vw (1) U9 k_ U2<|Vj ag U9<|Vw (0) U9 k_ U2<|Vj ag U9<|Vu [i_ s.2,i_ s.1] U8<|WX kI2 (fun _=>(Mem.get g mup)) U U U U U U U U U (mi _ (dY m (s.2,s.1))) U U<|C6 5 [5,7,8,10,22] c U<|Vd fun R c=>Vw (0) U9 k_ U2<|Vj ag U9<|Vw (1) U9 k_ U2<|Vj ag U9<|Ve 4 U<|VH U8<|Vf [5,7,8,22,45] c U<|G.cd (fun L=>?_) fun L=>?_
  ·have M:Db ks s=true:=by
    unfold Db;rw[<- W];exact L
   rw[M,aM rfl]at l;have aI:(kS ks (seen++[j])).length=(kS ks seen).length+1:=by rw[l];simp
   refine Va 1 U fun R c=>Vw (0) U9 k_ U2<|Vj ag U9<|Vw (1) U9 k_ U2<|Vj ag U9<|D.min (min s.1 s.2) U6 U U2<|Vw (0) U9 k_ U2<|Vj ag U9<|Vw (1) U9 k_ U2<|Vj ag U9<|D.max (max s.1 s.2) U6 U U2<|Vu [i_ (min s.1 s.2),i_ (max s.1 s.2)] U8<|Vy [[i_ (min s.1 s.2),i_ (max s.1 s.2)]] U12 fun aJ _ _ aq=>VF (j:=2) U11 aq.m_ U ax (by simp only[Rp];omega) fl_ fun ab ac ad=>C6 1 [5,7,22] c U<|VR 1 U<|Vr (L':=[.arr (sE ab ac ad) 163 2 (kS ks (seen++[j])).length ((kS ks (seen++[j])).map yx).flatten,.obj A (bq b m.length (seen++[j]))]) (by rw[l,R3,R4,<- H5 an ao];simp)<|Vn (m':=ks.length-(seen++[j]).length) om_ mup (hn_ [5,7,22] U) ⟨seen++[j],ab,ac,ad,⟨J,K⟩,U,U,U⟩
  have M:Db ks s=false:=by
   unfold Db;rw[<- W];exact L
  rw[M]at l;simp only[Sn,SX,RQ]at l;refine VR 0 U<|G.perm (L':=[.arr (sE o n1 r) 163 2 (kS ks (seen++[j])).length ((kS ks (seen++[j])).map yx).flatten,.obj A (bq b m.length (seen++[j]))]) (by rw[l];exact List.Perm.swap _ _ _)<|Vn (m':=ks.length-(seen++[j]).length) om_ mup (hn_ [5,7,22] U) ⟨seen++[j],o,n1,r,⟨J,K⟩,U,U,U⟩
 obtain⟨aK,rfl,ae⟩:X=false/\k=seen/\∀ j,j<m.length->j∈seen:=by
  rcases Y with h1|⟨h1,_⟩
  ·exact h1
  rw[h1]at t;cases t
 rw[<- V]at ae;have hp:=pT (d:=((0:Int),(0:Int))) H I ae;have ap:=wY ks k;have am:k.length<=ks.length:=by
  have:=List.Nodup.length_le_of_subset H (l₂:=List.range ks.length) (fun i w=>RL.2 (I i w));simpa using this
 refine VR 0 U<|VB [(1,3)] U fun R c=>Vc U6<|D.call (JB _ _ (kS ks k) om_) U (.inr dc_) U6 (Rw _) fl_ fun aL _ aN _ ar=>Vf [7] c U ?_;obtain⟨es,rfl,rfl,af,av⟩:=ar;have aw:EdgL f es:=Oy (ks:=k.map fun j=>ks.getD j (0,0)) (by rw[z];exact hp) n.sides (fun s hs=>by rw[z]at hs;exact⟨(x s hs).1,(x s hs).2.1⟩) (by rw[z];exact Rw _) af av;have ay:es.length=(kS ks k).length:=af.length_eq;refine U1 3 [2,3] U<|G.freezeArr 0 (es.map yx) U U (K6 es) (by rw[au,ay]) fun Cf aO az=>Vo (G.dropAll (VA U3 ?_));exact⟨U,es,_,U,aw,az⟩
theorem NF {q:Rat}(h:q.den=1):q=(q.num:Rat):=Rat.ext rfl h
def wlB (D:Int)(q:Rat):Bool:=decide ((q*(D:Rat)).den=1) && decide ((q*(D:Rat)).num.natAbs<=999999999)
theorem FA {D:Int}{q:Rat}(h:wlB D q=true):Wl D q:=by
 unfold wlB at h;simp only[RG,Ry]at h;exact⟨_,NF h.1,h.2⟩
theorem JX (D:Int)(a:D≠0)(c:D.natAbs<=999999999)(h:(r.f.all (wlB D) && wlB D r.b)=true):RowI r:=by
 simp only[RG,RI]at h;exact⟨D,a,c,fun q d=>FA (h.1 q d),FA h.2⟩
def xP (i:Nat):Pt:=if i<2 then (3,0) else if i=2 then (0,0) else (6,0)
def xD (i:Nat):Rat:=if i=1 then 5 else if i=3 then 1 else 4
def xX (i:Nat):Str:=if i=1 then [53] else if i=3 then [49] else [52]
def xN (i:Nat):Str:=if i % 2=0 then [97] else [98]
def xO (i:Nat):Obs:=⟨2,xN i,qtx (xP i).1,qtx (xP i).2,xX i,[66],[65],[],[],[]⟩
def xT (i:Nat):Obs:=⟨2,xN i,if i<2 then [51] else if i=2 then [48] else [54],[48],xX i,[66],[65],[],[],[]⟩
def xB (l:List Nat):Bk:=⟨[(0,0),(6,0),(0,4)],[(0,1,2)],[[49,48],[49,48],[49,48]],[⟨[65],0,none⟩,⟨[66],0,none⟩],l.map xO⟩
def xFs:List Rat:=[10,10,10]
theorem Gw:qtx 3=[51]:=ib (z:=3) aq
theorem Mj:qtx 4=[52]:=ib (z:=4) aq
theorem PX:qtx 5=[53]:=ib (z:=5) aq
theorem J7:qtx 6=[54]:=ib (z:=6) aq
theorem NI:qtx 1=[49]:=ib (z:=1) aq
theorem PW:qtx 10=[49,48]:=ib (z:=10) aq
theorem xX_e (i:Nat):qtx (xD i)=xX i:=by
 unfold xD xX;split
 ·exact PX
 split
 ·exact NI
 exact Mj
theorem I7 (i:Nat):xO i=xT i:=by
 unfold xO xT xP;split
 ·simp only[Gw,qtx_zero]
 split <;> simp only[qtx_zero,J7]
theorem LS:∀ i<4,QB 22 (xD i)/\QB 22 (xP i).1/\QB 22 (xP i).2/\QB 22 (10-xD i)/\QP 23 (xP i):=by decide +kernel
theorem MW (i:Nat)(a:i<4):dm (xX i)=xD i:=NG (xD i) (xX_e i) (LS i a).1
theorem QU (i:Nat)(a:i<4):aR (xX i)=true:=by rw[<- xX_e];exact bh (LS i a).1
theorem x_pt (i:Nat)(a:i<4):ptO (xO i)=xP i:=by
 unfold ptO;show(dm (qtx (xP i).1),dm (qtx (xP i).2))=xP i;rw[cR (bh (LS i a).2.1),cR (bh (LS i a).2.2.1)]
theorem Je:∀ i<4,kC (xB []).pts (xB []).tris (xP i)=[0]:=by decide +kernel
theorem x_sh:∀ i<4,dZ (xT i)=0:=by decide +kernel
theorem Pg:∀ i<4,LY (xB []).col (xT i)=false/\ordB (xB []).col (xT i)=false/\Jd (xT i)=false/\0<=jt (isU (xT i).upper) (xB []).col 0:=by decide +kernel
theorem QR:∀ i<4,decide (xD i<0)=false:=by decide +kernel
theorem x_ov (i:Nat)(a:i<4):ig (xB []).pts (xB []).tris (xB []).col (xO i)=0:=by
 obtain⟨h1,h2,h3,_⟩:=Pg i a;unfold ig;rw[aF (by rw[I7 i,x_sh i a];decide),aF (by unfold Lj;rw[x_pt i a,Je i a];decide),aF (by rw[I7 i,h1];decide),aF (by rw[I7 i,h2];decide),aF (by
  unfold depB;rw[show(xO i).depth=xX i from rfl,MW i a,QR i a,Bool.and_false];decide),aF (by rw[I7 i,h3];decide)]
theorem x_on:∀ i<4,onQ (xB []).pts xFs (0,1,2) (xP i)=10:=by decide +kernel
theorem Pf (i:Nat)(a:i<4):zi (xB []).pts (xB []).tris xFs (xP i)=.tuple #[ae (qtx 10),i_ 0]:=by
 unfold zi;rw[Je i a];show zO (onQ (xB []).pts xFs (0,1,2) (xP i))=_;rw[x_on i a];unfold zO;rw[aM (bh aq)]
theorem x_w3:∀ i<4,∀ j<3,QB 22 (wgt (xB []).pts (0,1,2) (xP i) j):=by decide +kernel
theorem x_w (i:Nat)(a:i<4)(j:Nat):QB 22 (wgt (xB []).pts (0,1,2) (xP i) j):=by
 rw[M2];exact x_w3 i a _ (R9 _ dc_)
theorem x_sl:∀ j,QP 22 (slf (xB []).pts (0,1,2) j):=by
 intro j;unfold slf;rw[Jp];rcases(by omega:min j 2=0∨min j 2=1∨min j 2=2) with h|h|h <;> rw[h] <;> decide +kernel
theorem Pk:Good (xB []).pts (xB []).tris:=(HN aq dc_ dc_ dc_).1
def xW (i:Nat):List Rat:=if i<2 then [1/2,1/2,0] else if i=2 then [1,0,0] else [0,1,0]
def xR (i:Nat):List RowQ:=[⟨xW i,10-xD i⟩,⟨(xW i).map (-1*·), -(10-xD i)⟩]
theorem MT:∀ i<4,((cG (xB []).col (xT i)).flatMap fun k=>[1, -1].map (gZ (bs (xB [])) (bp (xB [])) k (atT (0,1,2) (wgt (xB []).pts (0,1,2) (xP i))) (10-xD i)))=xR i:=by decide +kernel
theorem LQ (l:List Nat)(i:Nat)(a:i<4):rowsO (xB l) (xO i) (xP i) (0,1,2) 10=xR i:=by
 unfold rowsO;rw[aF (by show ¬ ((2:Int)=1);decide),aM (by rfl)];unfold lH;rw[show(xO i).depth=xX i from rfl,MW i a,I7 i];exact MT i a
theorem Pi:∀ i<4,∀ r∈xR i,Pa r:=by unfold Pa;decide +kernel
theorem LR (i:Nat)(a:i<4):∀ r∈xR i,RowI r:=by
 have:∀ i<4,∀ r∈xR i,(r.f.all (wlB 2) && wlB 2 r.b)=true:=by decide +kernel
 exact fun r hr=>JX 2 dc_ dc_ (this i a r hr)
theorem QQ (i:Nat)(a:i<4):ObsR (xO i):=by
 have:∀ i<4,(xT i).name.length<=9/\(xT i).x.length<=9/\(xT i).y.length<=9/\(xT i).depth.length<=9:=by decide +kernel
 obtain⟨h1,h2,h3,h4⟩:=this i a;rw[I7 i];exact⟨by omega,by omega,by omega,by omega,(by decide:1<=999998),(by decide:1<=999998),(by decide:0<=999998),(by decide:0<=999998),(by decide:0<=999998)⟩
theorem MY {o:Obs}(h:(xB l).obs[k]?=some o):∃ i,l[k]?=some i/\o=xO i:=by
 have a:(l.map xO)[k]?=some o:=h;rw[Rr]at a;cases b:l[k]? with
|none=>rw[b]at a;cases a
|some i=>rw[b]at a;exact⟨i,rfl,(Sx a).symm⟩
structure XOk (l:List Nat):Prop where
 lt:∀ i∈l,i<4
 nd:(l.map xN).Nodup
 len:l.length<=4
theorem LU {l:List Nat}(b:XOk l):∀ n,n<=l.length->wc (xB l) n=0
|0,_=>rfl
|n+1,m=>by
  have d:=LU b n om_;show(if wc (xB l) n≠0 then wc (xB l) n else obZ (xB l) ((xB l).obs.take n) ((xB l).obs.getD n Ku))=0;rw[aF (by rw[d];decide)];have c:l[n]?=some l[n]:=ai om_;have f:(xB l).obs.getD n Ku=xO l[n]:=Mq (by
   show(l.map xO)[n]?=_;rw[Rr,c];rfl)
  rw[f];unfold obZ;rw[aF (by rw[show ig (xB l).pts (xB l).tris (xB l).col (xO l[n])=0 from x_ov _ (b.lt _ (Sj _))];decide),aF fun hm=>?_];obtain⟨o,g,e⟩:=Rs.1 hm;obtain⟨j,a⟩:=SV g;rw[Sg]at a;split at a
  ·rename_i p;obtain⟨i,h,rfl⟩:=MY a;have k:xN i=xN l[n]:=e;have h1:(l.map xN)[j]?=some (xN l[n]):=by rw[Rr,h];exact congrArg some k
   have h2:(l.map xN)[n]?=some (xN l[n]):=by rw[Rr,c];rfl
   have:=(List.getElem?_inj (by rw[au];omega) b.nd).1 (h1.trans h2.symm);omega
  cases a
theorem pn (l:List Nat):(xB l).obs.length=l.length:=by simp[xB]
theorem QW (a:XOk l):iK (xB l)=0:=by
 unfold iK;have:=a.len;rw[aF (by show ¬ (nj (xB []).pts.length (xB []).terr≠0);decide +kernel),aF (by show ¬ (sf (xB []).col≠0);decide +kernel),aF (by rw[pn];omega),pn];exact LU a _ (Ro _)
theorem QX (b:XOk l):BookR (xB l):=by
 refine⟨by show ∀ x∈(xB []).terr,_;decide, ?_,by show(xB []).col.length<=_;decide,fun o c=>?_⟩
 ·intro x a;simp only[xB,RC,Ss,TS]at a;rcases a with rfl|rfl
  ·exact⟨by decide +kernel,fun q h=>by simp at h,by decide⟩
  exact⟨by decide +kernel,fun q h=>by simp at h,by decide⟩
 obtain⟨k,d⟩:=SV c;obtain⟨i,e,rfl⟩:=MY d;exact QQ i (b.lt i (aU e))
theorem Pn (l:List Nat)(i:Nat)(a:i<4):Fine (xB l) xFs (xO i) (xP i) 0 (0,1,2) 10:=by
 obtain⟨f,b,c,d,e⟩:=LS i a;refine⟨⟨U,U,e,⟨bh b,bh c⟩,fun _=>QU i a⟩,⟨[],Je i a⟩,U,Pf i a,by decide +kernel, ?_,x_w i a, ?_,x_sl,fun _ h=>absurd U h, ?_⟩
 ·unfold lH;rw[aM (by rfl),show(xO i).depth=xX i from rfl,MW i a];exact d
 ·exact(Pg i a).2.2.2
 rw[LQ l i a];exact Pi i a
theorem Ph (l:List Nat):Terr (xB l) xFs:=⟨by simp[xB,xFs,PW],rfl,by decide +kernel⟩
def xRO (l:List Nat)(k:Nat):List RowQ:=xR (l.getD k 0)
theorem zk (b:XOk l):Calm (xB l) xFs (xRO l):=by
 have c:∀ k,k<l.length->l.getD k 0<4:=fun k d=>by
  rw[am,ai d];exact b.lt _ (Sj _)
 have h4:=b.len;refine⟨⟨Pk,QX b,QW b,Ph l,(by decide:3<=60),fun k o e=>?_⟩,(by decide:3<=12),fun r hr=>?_,fun i a=>LR _ (c i (by rw[pn]at a;exact a)), ?_,fun i a=>(by show 2<=8;decide),by rw[pn];omega⟩
 ·obtain⟨i,a,rfl⟩:=MY e;have h1:=b.lt i (aU a);refine⟨_,_,_,_,Pn l i h1, ?_⟩;rw[LQ l i h1,xRO,am,a];rfl
 ·have:bJ (xB l)=[]:=rfl;rw[this]at hr;cases hr
 have:bJ (xB l)=[]:=rfl;rw[this];decide
theorem ok0:XOk [0]:=⟨by decide,by decide,by decide⟩
theorem ok01:XOk [0,1]:=⟨by decide,by decide,by decide⟩
theorem ok23:XOk [2,3]:=⟨by decide,by decide,by decide⟩
theorem rows0:dz (xB [0]) (xRO [0])=xR 0:=by rw[dz,jR,pn];rfl
theorem PM:dz (xB [0,1]) (xRO [0,1])=xR 0++xR 1:=by rw[dz,jR,pn];rfl
theorem PL:dz (xB [2,3]) (xRO [2,3])=xR 2++xR 3:=by rw[dz,jR,pn];rfl
theorem QS:Lp.Val (bZ 3 (eg (xR 0))) (fun j=>([1/2,1/2,0]:List Rat).getD j 0) 1 6:=by
 refine .inl ⟨U,⟨fun _=>6,gV.2 aq,by decide +kernel⟩,fun y hy=>?_⟩;have h1:=gV.1 hy ⟨[-1/2, -1/2,0], -6⟩ aq;show _<=Lp.sumN _ 3;simp only[Lp.sumN,am,List.getElem?_cons_zero,Tb,SG]at h1⊢;grind
theorem Pj:Lp.Val (bZ 3 (eg (xR 0))) (fun j=>([-1/2, -1/2,0]:List Rat).getD j 0) 1 (-6):=by
 refine .inl ⟨U,⟨fun _=>6,gV.2 aq,by decide +kernel⟩,fun y hy=>?_⟩;have h1:=gV.1 hy ⟨[1/2,1/2,0],6⟩ aq;show _<=Lp.sumN _ 3;simp only[Lp.sumN,am,List.getElem?_cons_zero,Tb,SG]at h1⊢;grind
theorem x_no:¬ (bZ 3 (eg (xR 0++xR 1))).Hold:=by
 rintro ⟨y,hy⟩;have h1:=gV.1 hy ⟨[-1/2, -1/2,0], -6⟩ aq;have h2:=gV.1 hy ⟨[1/2,1/2,0],5⟩ aq;simp only[Lp.sumN,am,List.getElem?_cons_zero,Tb,SG]at h1 h2;grind
def es3:List (Nat × Nat):=[(0,1),(0,2),(1,2)]
theorem Qk:EdgL [(0,1,2)] es3:=by
 refine⟨by simp[es3,ltP],fun e=>?_⟩;rw[show bO [(0,1,2)]=[(0,1),(1,2),(2,0)] from rfl];obtain⟨x,y⟩:=e;simp only[es3,RC,Ss,TS,TE];omega
theorem Qj:EdgeOk 1 3 es3:=⟨by decide⟩
theorem Pm:Lp.Val (bZ (1*3+1*es3.length) (eg (zE (xR 2++xR 3) (1*3) 3 es3 (1*es3.length)))) (fun j=>(nA (1*3) (1*es3.length)).getD j 0) 1 6:=by
 refine .inl ⟨U,⟨fun j=>([6,9,6,3,0,3]:List Rat).getD j 0,gV.2 aq,by decide +kernel⟩,fun y hy=>?_⟩;obtain⟨h0,h2⟩:=(Me Qj aq).1 hy;have h1:=gV.1 h0 ⟨[1,0,0],6⟩ aq;have h3:=gV.1 h0 ⟨[0, -1,0], -9⟩ aq;have k0:=yV.1 (h2 0 dc_);have k1:=yV.1 (h2 1 dc_);have k2:=yV.1 (h2 2 dc_);rw[show O9 3 es3 y 0=y 0-y 1 from rfl]at k0;rw[show O9 3 es3 y 1=y 0-y 2 from rfl]at k1;rw[show O9 3 es3 y 2=y 1-y 2 from rfl]at k2;rw[show Lp.sumN (fun j=>(nA (1*3) (1*es3.length)).getD j 0*y j) (bZ (1*3+1*es3.length) (eg (zE (xR 2++xR 3) (1*3) 3 es3 (1*es3.length)))).n=_ from G4 (h:=1*3) (more:=1*es3.length)];show _<=Lp.sumN (fun k=>y (3+k)) 3;simp only[TC,Lp.sumN,am,List.getElem?_cons_zero,Tb,SG,S7,Nat.reduceAdd]at h1 h3 k0 k1 k2⊢;grind
abbrev tq (q:Rat):Value:=ae (qtx q)
theorem uk (l:List Rat):(l.map aQ).flatten=l.map tq:=eE tq l
theorem fy {l:List Rat}(h:i<l.length):aE (l.map tq) [tq x] i=(l.set i x).map tq:=by
 rw[List.set_eq_take_append_cons_drop,aM h];unfold aE;simp[List.map_drop]
theorem Mg (n:Nat):List.replicate n (ae [48])=(List.replicate n (0:Rat)).map tq:=by rw[jU,uk]
def zl (n a:Nat)(t:Tri)(w:Nat->Rat):Nat->List Rat
|0=>List.replicate n 0
|j+1=>(zl n a t w j).set (a+gY t j) (w j)
theorem fx (n a:Nat)(t:Tri)(w:Nat->Rat):∀ j,(zl n a t w j).length=n
|0=>RX
|j+1=>by rw[zl,Sh,fx n a t w j]
theorem Jh (C:Mem)(k:Tabs C)(f:Value)(B:Bk)(L:List Rat)(M:Nat->List RowQ)(s:Nat)(p:Pt)(i:Nat)(r:List Nat)(t:Tri)(b:BookIn C f B)(h:Calm B L M)(N:s<bs B)(x:QP 23 p)(y:PtR p)
  (O:kC B.pts B.tris p=i::r) (l:B.tris[i]?=some t) (Q:∀ j,QB 22 (wgt B.pts t p j)) :
  Pur cx.P 59 [f,i_ s,ptV p] C fun u D=>∃ v,u=.tuple #[v,i_ 0]/\Sl D 1 v ((zl (bs B*bp B) (s*bp B) t (wgt B.pts t p) 3).map aQ):=by
 have S:=b;have o:=h.rich.good;have T:=h.rich.bookz k b;have V:=h.n12;have W:=o.ok.ins t (aU l);have q:∀ D:Mem,C.le D->Gives cx.P 92 [f] D (.tuple #[i_ (bs B*bp B:Nat),i_ 0]):=fun D X=>by
  have h:=AJ D f B 0 (T.mono X) om_;rw[aM rfl]at h;exact h
 obtain⟨z,A,tv,cv,ov,rfl,h1,h2,h3,h4,h5⟩:=id b.ex;have hm:MeshIn C (.agg ⟨[z,A]⟩) B.pts B.tris:=⟨z,A,rfl,h1,h2⟩;obtain⟨A1,c1,rfl,Y,_⟩:=id h1;obtain⟨A2,c2,rfl,Z,_⟩:=id h2;have aa:(B.pts.map gx).length=bp B:=au _;have ab:(B.tris.map iB).length=B.tris.length:=au _;simp only[aa,ab]at h1 Y h2 Z hm S q⊢;have ak:=mx_
 obtain⟨n,E⟩:∃ n,bs B*bp B=n:=⟨_,rfl⟩;have c:∀ j,s*bp B+gY t j<n:=fun j=>by rw[<- E];exact G7 N (eS W j)
 rw[E]at q V⊢;have al:=c 0;have am:=c 1;have an:=c 2;refine Vi func59 78 U3 fun w0=>?_;refine Vd fun R a=>?_;refine Vs U6 (fun b3=>?_);refine Vs U6 (fun b5=>?_);refine C6 2 [1,3,5] a U ?_;clear a R;refine G.freeze 1 U (fun _ _ d=>?_);refine G.freeze 0 U (fun _ _ F=>?_);refine Vd fun R a=>?_;refine Vb (bkT d 5) U8 ?_;refine Vl (q _ mup) U7 ?_;refine C6 5 [1,3,5,8,9] a U ?_;clear a R;refine U1 2 [1,3,5,8,9,21] U ?_;refine G.cd (fun H=>?_) fun H=>?_
 ·exact absurd H dc_
 refine Va 1 U fun R a=>?_;refine Vb (bkT d 2) U8 ?_;refine Vb (bkT F 2) U8 ?_;refine VJ (ml _ k.m_ _ B.pts B.tris p hm.m_ o x y) U7 (fun ao _ _ ac=>?_);obtain⟨wv,rfl,g⟩:=ac;rw[O]at g;obtain⟨Aw,cw,rfl,_⟩:=id g;refine C6 5 [1,3,5,8,9,10] a U ?_;clear a R;refine U1 2 [1,3,5,8,9,10,31] U ?_;refine G.cd (fun I=>?_) fun I=>?_
 ·exact absurd I dc_
 refine U1 3 [1,3,5,8,10,35] U ?_;refine G.cd (fun J=>?_) fun J=>?_
 ·exact absurd (QL J) ap
 refine Vv [0,1,2,3,4,5,6,7,8,9,10,11,12] [(6,1)] U kr_ (fun R b a=>?_);refine Vc U6 ?_;refine Vb (bkT d 2) U8 ?_;refine Vc U6 ?_;refine Vq g.m_ U10 om_ (rfl:(List.map aW (i::r))[0]?=some (aW i)) fl_ (fun aq ad=>?_);refine Vb ad U8 ?_;refine Vb (bkT F 2) U8 ?_;refine VK (fun _=>(wX _ k.m_ _ B.pts B.tris p i t hm.m_ o x y l Q)) U9 ?_;refine Ve 3 U ?_;refine Vt U5 (fun ae=>?_);refine Vk (j:=0) U12 ?_;refine Vc U6 ?_;refine Vf [1,3,8,9,10,11] a U ?_;clear a b R;refine U1 2 [1,3,8,9,10,11,47] U ?_;refine G.cd (fun K=>?_) fun K=>?_
 ·exact absurd K dc_
 refine VB [(1,3)] U (fun R a=>?_);refine Vc U6 ?_;refine D.call (mD _ n om_) U (.inr dc_) U6 (Rw _) fl_ (fun ar _ av _ af=>?_);refine C6 1 [1,3,10,11,12] a U ?_;clear a R;obtain⟨bz,rfl,rfl⟩:=af;refine G.freeze 1 U (fun _ _ w=>?_);refine Vv [0,1,2,3,4,5,6,7,8] [] U kr_ (fun R b a=>?_);refine Ve 2 U ?_;refine Vb (bkT d 1) U8 ?_;refine Vc U6 ?_;refine Vq g.m_ U10 om_ (rfl:(List.map aW (i::r))[0]?=some (aW i)) fl_ (fun aw ag=>?_);refine Vb ag U8 ?_;refine Vq h2.m_ U10 om_ (by rw[Rr,l];rfl:(B.tris.map iB)[i]?=some (iB t)) fl_ (fun ax ah=>?_);refine Vb ah U8 ?_;refine Vc U6 ?_;refine Vf [1,3,11,12,58,59] a U ?_;clear a b R;refine Vr (L':=[.arr (s_ bz n n) 32 1 n ((zl n (s*bp B) t (wgt B.pts t p) 0).map tq)]) (by rw[Mg];rfl) ?_;refine G.loop (fun fr C' e μ=>∃ (j:Nat),(j<=3)/\fr=[(1,[],i_ s),(3,[],p_ b3),(11,[],p_ ae),(12,[],s_ bz n n),(58,[],.agg ⟨iB t⟩),(59,[],i_ j)]/\e=[.arr (s_ bz n n) 32 1 n ((zl n (s*bp B) t (wgt B.pts t p) j).map tq)]/\μ=3-j) (hn_ [1,3,11,12,58,59] U) ⟨0,Rv _,U,U,U⟩ (fun fr ay az m _ hI=>?_);obtain⟨j,hj,rfl,rfl,rfl⟩:=hI;refine U1 1 [1,3,11,12,58,59,60] U ?_;refine G.cd (fun h60=>?_) fun h60=>?_
 ·have aA:j<3:=by
   have:=QL h60;omega
  rcases(by omega:j=0∨j=1∨j=2) with rfl|rfl|rfl
  ·refine Va 1 U fun R a=>?_;refine V3 U11 (fun _=>⟨by omega,by omega,(show(iB t)[((0:Nat):Int).toNat]?=some (i_ ((gY t 0:Nat):Int)) from by rw[<- BK];exact ri t dc_)⟩) U2 ?_;refine C6 2 [1,3,11,12,13,14,58,59] a U ?_;clear a R;refine Vv [0,1,2,3,4,5,6,7,8,9,10,11,12,13] [] U kr_ (fun R b a=>?_);refine Ve 4 U ?_;refine Vb (bkT d 1) U8 ?_;refine Vc U6 ?_;refine Vh (((s*bp B:Nat):Int)) (RW _ _) U6 ?_;refine Vc U6 ?_;refine VI (((s*bp B+gY t 0:Nat):Int)) U4 om_ om_ om_ U2 ?_;refine Vc U6 ?_;refine Vw (0) U9 k_ U2 ?_;refine Vb (bkT w 1) U8 ?_;refine VD ((s*bp B+gY t 0)) U10 (fun _=>⟨by omega,by omega,(SL _).symm⟩) U2 ?_;refine VG (j:=0) U11 (by rw[au,fx];have:=c 0;simp;omega) ?_;refine Vf [1,3,11,12,58,59] a U ?_;clear a b R;refine Vd fun R a=>?_;refine Vh _ U U6 ?_;refine C6 1 [1,3,11,12,58,59] a U ?_;clear a R;refine Vr (L':=[.arr (s_ bz n n) 32 1 n ((zl n (s*bp B) t (wgt B.pts t p) 1).map tq)]) (by rw[fy (by rw[fx];exact c 0)];rfl) ?_;refine Vn (m':=2) om_ mup (hn_ [1,3,11,12,58,59] U) ⟨1,by decide,U,U,U⟩
  ·refine Va 1 U fun R a=>?_;refine V3 U11 (fun _=>⟨by omega,by omega,(show(iB t)[((1:Nat):Int).toNat]?=some (i_ ((gY t 1:Nat):Int)) from by rw[<- BK];exact ri t dc_)⟩) U2 ?_;refine C6 2 [1,3,11,12,13,14,58,59] a U ?_;clear a R;refine Vv [0,1,2,3,4,5,6,7,8,9,10,11,12,13] [] U kr_ (fun R b a=>?_);refine Ve 4 U ?_;refine Vb (bkT d 1) U8 ?_;refine Vc U6 ?_;refine Vh (((s*bp B:Nat):Int)) (RW _ _) U6 ?_;refine Vc U6 ?_;refine VI (((s*bp B+gY t 1:Nat):Int)) U4 om_ om_ om_ U2 ?_;refine Vc U6 ?_;refine Vw (1) U9 k_ U2 ?_;refine Vb (bkT w 1) U8 ?_;refine VD ((s*bp B+gY t 1)) U10 (fun _=>⟨by omega,by omega,(SL _).symm⟩) U2 ?_;refine VG (j:=0) U11 (by rw[au,fx];have:=c 1;simp;omega) ?_;refine Vf [1,3,11,12,58,59] a U ?_;clear a b R;refine Vd fun R a=>?_;refine Vh _ U U6 ?_;refine C6 1 [1,3,11,12,58,59] a U ?_;clear a R;refine Vr (L':=[.arr (s_ bz n n) 32 1 n ((zl n (s*bp B) t (wgt B.pts t p) 2).map tq)]) (by rw[fy (by rw[fx];exact c 1)];rfl) ?_;refine Vn (m':=1) om_ mup (hn_ [1,3,11,12,58,59] U) ⟨2,by decide,U,U,U⟩
  refine Va 1 U fun R a=>?_;refine V3 U11 (fun _=>⟨by omega,by omega,(show(iB t)[((2:Nat):Int).toNat]?=some (i_ ((gY t 2:Nat):Int)) from by rw[<- BK];exact ri t dc_)⟩) U2 ?_;refine C6 2 [1,3,11,12,13,14,58,59] a U ?_;clear a R;refine Vv [0,1,2,3,4,5,6,7,8,9,10,11,12,13] [] U kr_ (fun R b a=>?_);refine Ve 4 U ?_;refine Vb (bkT d 1) U8 ?_;refine Vc U6 ?_;refine Vh (((s*bp B:Nat):Int)) (RW _ _) U6 ?_;refine Vc U6 ?_;refine VI (((s*bp B+gY t 2:Nat):Int)) U4 om_ om_ om_ U2 ?_;refine Vc U6 ?_;refine Vw (2) U9 k_ U2 ?_;refine Vb (bkT w 1) U8 ?_;refine VD ((s*bp B+gY t 2)) U10 (fun _=>⟨by omega,by omega,(SL _).symm⟩) U2 ?_;refine VG (j:=0) U11 (by rw[au,fx];have:=c 2;simp;omega) ?_;refine Vf [1,3,11,12,58,59] a U ?_;clear a b R;refine Vd fun R a=>?_;refine Vh _ U U6 ?_;refine C6 1 [1,3,11,12,58,59] a U ?_;clear a R;refine Vr (L':=[.arr (s_ bz n n) 32 1 n ((zl n (s*bp B) t (wgt B.pts t p) 3).map tq)]) (by rw[fy (by rw[fx];exact c 2)];rfl) ?_;refine Vn (m':=0) om_ mup (hn_ [1,3,11,12,58,59] U) ⟨3,by decide,U,U,U⟩
 have ai:j=3:=by
  have:=Rt h60;omega
 subst ai;refine U1 3 [6,7] U ?_;rw[<- uk];refine G.freezeArr 0 ((zl n (s*bp B) t (wgt B.pts t p) 3).map aQ) U U bS (by rw[au,fx]) (fun Cf aB aj=>?_);refine Vo (G.dropAll (VA U3 ?_));exact⟨U,_,U,aj⟩
theorem wM {A B:List Value}{x:Value}(h:A.length=j):aE (A++x::B) [v] j=A++v::B:=by
 subst h;unfold aE;rw[List.take_left,Rp];have:List.drop (A.length+1) (A++x::B)=B:=by rw[TY];simp
 rw[this];simp
theorem GG (C:Mem)(G:Tabs C)(n:Nat)(l d:Value)(b:List (List Rat × Rat))(a:List Rat)(H:RowsT C l (b.map eA))(I:RowsQ n b)(J:∀ x∈a,QB 22 x)(K:∀ r∈b,(∀ x∈r.1,QB 22 x)/\QB 22 r.2)(M:n<=60)(z:a.length=n)(N:Lp.Lim (bZ n b) (fun j=>a.getD j 0) 20) :
  Jog.Fn cx.P 21 [.agg ⟨[i_ n,l,d]⟩] C [.arr d 32 1 n (a.map tq)] fun u _ g=>(∃ (kd:Int)(v:Rat)(i:Str)(o:Option Addr)(n1 p:Nat)(A2:Option Addr)(n2 c2:Nat)(q:Option Addr)(t w:Nat),
   u=.tuple #[.agg ⟨[i_ kd,ae i,.slice o n1 p,.slice A2 n2 c2,.slice q t w]⟩,i_ 0]/\(kd=1->i=qtx v)/\Lp.Val (bZ n b) (fun j=>a.getD j 0) kd v/\QB 20 v)/\g=[.arr d 32 1 n (a.map tq)]:=by
 have h1:=Wx (P:=cx.P) (f:=21) (args:=[.agg ⟨[i_ n,l,d]⟩]) (C:=C) (L:=[]) (v:=d) (e:=32) (s:=1) (m:=n) (rows:=a.map aQ)
  (post:=fun u g=>g=[]/\∃ (kd:Int)(v:Rat)(i:Str)(o:Option Addr)(n1 p:Nat)(A2:Option Addr)(n2 c2:Nat)(q:Option Addr)(t w:Nat),
   u=.tuple #[.agg ⟨[i_ kd,ae i,.slice o n1 p,.slice A2 n2 c2,.slice q t w]⟩,i_ 0]/\(kd=1->i=qtx v)/\Lp.Val (bZ n b) (fun j=>a.getD j 0) kd v/\QB 20 v) kr_ bS (by rw[au,z]) fun D B hs=>by
  refine Fn.mono (GI D (G.mono B) n l d b a (H.mono B) hs I J K M z N) fun u E g _ ⟨h0,r,h1,h2⟩=>⟨h0, ?_⟩;subst h1;cases h2 with
 |opt val pt du O Q F k y =>
   obtain⟨A,c,rfl,_⟩:=id k;obtain⟨A2,c2,rfl,_⟩:=id y;exact⟨1,val,_,_,_,_,_,_,_,_,_,_,U,fun _=>rfl,F.val,F.qv⟩
 |inf du Q R k =>
   obtain⟨A,c,rfl,_⟩:=id k;exact⟨2,0,_,_,_,_,_,_,_,_,_,_,U,fun h=>absurd h dc_,R.val 0,QB_zero.le dc_⟩
 |unb pt ra O T S k y =>
   obtain⟨A,c,rfl,_⟩:=id k;obtain⟨A2,c2,rfl,_⟩:=id y;exact⟨3,0,_,_,_,_,_,_,_,_,_,_,U,fun h=>absurd h dc_,S.val 0,QB_zero.le dc_⟩
 rw[uk]at h1;exact Fn.mono h1 fun u E V _ ⟨g,h2,h3,h4⟩=>⟨h4,by rw[h2,h3]⟩
def sG (k:Nat):Rat:=if k=0 then 1 else -1
def Fl (kd:Int)(v:Rat):Str:=if kd=1 then qtx (1*v) else []
def oE (kd:Int)(v:Rat):Str:=if kd=1 then qtx (-1*v) else []
def sgL (c:List Rat)(k:Nat):List Rat:=c.map (sG k*·)
def MP (p:Lp.Sys)(c:List Rat)(u:Value):Prop:=∃ (kd1:Int)(v1:Rat)(kd2:Int)(v2:Rat),(QB 20 v1/\QB 20 v2)/\Lp.Val p (fun j=>(sgL c 0).getD j 0) kd1 v1/\(kd1≠2->Lp.Val p (fun j=>(sgL c 1).getD j 0) kd2 v2) /\
 ((kd1=2/\u=.tuple #[ae [],ae [],.int .i64 22])∨(kd1≠2/\u=.tuple #[ae (Fl kd1 v1),ae (oE kd2 v2),.int .i64 0]))
theorem Jl {p:Lp.Sys}{d:Nat->Rat}{c:Int}{v w:Rat}(h:Lp.Val p cc kd v)(k:Lp.Val p d c w)(f:kd≠2):c≠2:=by
 intro e;have b:¬ p.Hold:=by
  rcases k with⟨a,_⟩|⟨_,b⟩|⟨a,_⟩
  ·rw[a]at e;cases e
  ·exact b
  rw[a]at e;cases e
 rcases h with⟨_,⟨y,hy,_⟩,_⟩|⟨a,_⟩|⟨_,hh,_⟩
 ·exact b ⟨y,hy⟩
 ·exact f a
 exact b hh
theorem Gx:qtx (-1)=[45,49]:=ib (z:=-1) aq
theorem sgns:[[ae [49]],[ae [45,49]]]=([1, -1]:List Rat).map aQ:=by
 show _=[[ae (qtx 1)],[ae (qtx (-1))]];rw[NI,Gx]
theorem Mc (a:k<2):([1, -1]:List Rat)[k]?=some (sG k):=by
 rcases(by omega:k=0∨k=1) with rfl|rfl <;> rfl
theorem BZ (k:Nat):QB 22 (sG k):=by
 unfold sG;split
 ·decide +kernel
 decide +kernel
abbrev sO2 (A:Option Addr)(n c:Nat):Value:=.slice A n c
theorem HG (C:Mem)(H:Tabs C)(Q:Value)(B:Bk)(M:List Rat)(o:Nat->List RowQ)(s:Nat)(p:Pt)(i:Nat)(r:List Nat)(t:Tri)(x0:Str)(v:BookIn C Q B)(h:Calm B M o)(hs:s<bs B)(hq:QP 23 p)(hr:PtR p)
  (hl:kC B.pts B.tris p=i::r) (ht:B.tris[i]?=some t) (S:∀ j,QB 22 (wgt B.pts t p j)) (hv:zi B.pts B.tris M p=.tuple #[ae x0,i_ 0])
  (T:∀ k,k<2->Lp.Lim (oA B o) (fun j=>(sgL (zl (bs B*bp B) (s*bp B) t (wgt B.pts t p) 3) k).getD j 0) 20) :
  Pur cx.P 14 [Q,i_ s,ptV p] C fun u _=>MP (oA B o) (zl (bs B*bp B) (s*bp B) t (wgt B.pts t p) 3) u:=by
 have aG:=v;have hG:=h.rich.good;have aH:=h.n12;have hS:=de B.obs.length;have an:=h.rowsQ hS;have aI:=h.q22 hS;have V:=h.rich.terr;obtain⟨b,Z⟩:∃ b,zl (bs B*bp B) (s*bp B) t (wgt B.pts t p) 3=b:=⟨_,rfl⟩;have J:b.length=bs B*bp B:=by rw[<- Z];exact fx _ _ _ _ _
 have aa:∀ x∈b,QB 22 x:=fun x c=>by
  rw[<- Z]at c;simp only[zl]at c;rcases SM c with c|rfl
  ·rcases SM c with c|rfl
   ·rcases SM c with c|rfl
    ·rw[(List.mem_replicate.1 c).2];exact QB_zero.le dc_
    exact S 0
   exact S 1
  exact S 2
 have ab:=fun(D:Mem)(z:C.le D)=>Jh D (H.mono z) Q B M o s p i r t (v.mono z) h hs hq hr hl ht S;rw[Z]at ab T⊢;have ac:=fun(D:Mem)(z:C.le D)=>iu D (H.mono z) Q B M o (v.mono z) h;unfold oA at T⊢;obtain⟨n,hn⟩:∃ n,bs B*bp B=n:=⟨_,rfl⟩;rw[hn]at J aH an ac T⊢;obtain⟨v1,v2,tv,cv,ov,rfl,h1,h2,h3,h4,h5⟩:=id v.ex;have hm:MeshIn C (.agg ⟨[v1,v2]⟩) B.pts B.tris:=⟨v1,v2,rfl,h1,h2⟩;rw[V.e,<- fW]at h3;have ao:=fun(D:Mem)(z:C.le D)=>ug D (H.mono z) (.agg ⟨[v1,v2]⟩) tv B.pts B.tris M 22 dc_ dc_ (hm.mono z) hG (h3.mono z) V.l V.q (LZ V) p hq hr;rw[hv]at ao;obtain⟨A4,c4,rfl,aJ,_⟩:=id h4;have aK:(B.col.map vu).length=bs B+1:=by rw[au];have:=h.rich.scol.1;omega
 simp only[aK]at h4 aJ aG ab ac⊢;have a0:=mx_
 refine Vi func14 110 U3 fun w0=>?_;refine Vd fun R a=>?_;refine Vs U6 (fun b3=>?_);refine Vs U6 (fun b5=>?_);refine C6 3 [1,3,5] a U ?_;clear a R;refine G.freeze 1 U (fun _ _ N=>?_);refine G.freeze 0 U (fun _ _ aq=>?_);refine VB [(1,3)] U (fun R a=>?_);refine Vb (bkT N 5) U8 ?_;refine D.call (ac _ mup) U (.inr dc_) U6 (Rw _) fl_ (fun a1 aL a2 _ aM=>?_);obtain⟨Ar,cr,A,vs,rfl,ar,rfl⟩:=aM;refine Ve 3 U ?_;refine Vt U5 (fun b9=>?_);refine Vk (j:=0) U12 ?_;refine C6 1 [1,3,5,8,9] a U ?_;clear a R;refine U1 2 [1,3,5,8,9,26] U ?_;refine G.cd (fun av=>?_) fun av=>?_
 ·exact absurd av dc_
 refine Va 5 U fun R a=>?_;refine VE U6 (fun _=>PtrTo.blockT (Mem.get N mup) _ 1) U3 ?_;refine Vc U6 ?_;refine Vh _ U U6 ?_;refine Vc U6 ?_;refine VH U8 ?_;refine Vf [1,3,5,9,37] a U ?_;clear a R;refine G.cd (fun aw=>?_) fun aw=>?_
 ·exact absurd aw ap
 refine Va 1 U fun R a=>?_;refine Vb (bkT N 2) U8 ?_;refine Vc U6 ?_;refine Vb (bkT N 1) U8 ?_;refine Vb (bkT aq 2) U8 ?_;refine Vl (ao _ mup) U7 ?_;refine C6 5 [1,3,5,9,11] a U ?_;clear a R;refine U1 2 [1,3,5,9,11,48] U ?_;refine G.cd (fun ax=>?_) fun ax=>?_
 ·exact absurd ax dc_
 refine Vd fun R a=>?_;refine Vb (bkT N 5) U8 ?_;refine Vc U6 ?_;refine Vb (bkT aq 2) U8 ?_;refine VJ (ab _ mup) U7 (fun a3 _ _ aN=>?_);obtain⟨uv,rfl,ad⟩:=aN;obtain⟨Au,cu,rfl,_⟩:=id ad;simp only[au,J]at ad⊢;refine C6 5 [8,9,12] a U ?_;clear a R;refine U1 2 [8,9,12,58] U ?_;refine G.cd (fun ay=>?_) fun ay=>?_
 ·exact absurd ay dc_
 refine Vd fun R a=>?_;refine Vt U5 (fun f=>?_);refine Vf [9,12,13] a U ?_;clear a R;refine G.freezeArr 2 (aC vs (dz B o)) U U (bQ _ _) (by rw[bE ar.1]) (fun _ _ aO=>?_);refine G.freeze 1 U (fun aP _ az=>?_);have aR:=oP (RowsOk.m_ ar) (aO.mono mup:Sl aP 2 _ _);refine Vd fun R a=>?_;refine VZ [[ae [49]],[ae [45,49]]] U12 fl_ (fun aA _ _ aB=>?_);refine C6 2 [9,12,13,60,61,62] a U ?_;clear a R;rw[sgns]at aB;refine G.perm (L':=[.arr (sO2 (some ⟨A,0,none⟩) n n) 32 1 n (List.replicate n (ae [48])),.obj f (.cells ⟨[ae (if 0<0 then Fl 0 0 else []),ae (if 1<0 then oE 0 0 else [])]⟩ 144 (0,0))]) (pkL [1,0] U) ?_;refine G.loop (fun fr C' g μ=>∃ (k:Nat)(xs:List Value)(d:Int)(w1:Rat)(F:Int)(E:Rat),(k<=2/\xs.length=n/\(QB 20 w1/\QB 20 E)/\(0<k->Lp.Val (bZ n (eg (dz B o))) (fun j=>(sgL b 0).getD j 0) d w1/\d≠2)/\(1<k->Lp.Val (bZ n (eg (dz B o))) (fun j=>(sgL b 1).getD j 0) F E))/\fr=[(9,[],p_ b9),(12,[],.slice Au n cu),(13,[],p_ f),(60,[],s_ aA 2 2),(61,[],i_ 2),(62,[],i_ k)]/\g=[.arr (sO2 (some ⟨A,0,none⟩) n n) 32 1 n xs,.obj f (.cells ⟨[ae (if 0<k then Fl d w1 else []),ae (if 1<k then oE F E else [])]⟩ 144 (0,0))]/\μ=2-k) (hn_ [9,12,13,60,61,62] U) ⟨0,List.replicate n (ae [48]),0,0,0,0,⟨Rv _,RX,⟨QB_zero.le dc_,QB_zero.le dc_⟩,fun h=>absurd h om_,fun h=>absurd h om_⟩,U,U,U⟩ (fun fr a4 a5 m _ hI=>?_);obtain⟨k,xs,d,w1,F,E,⟨hk,a6,ag,K,aS⟩,rfl,rfl,rfl⟩:=hI;refine U1 1 [9,12,13,60,61,62,63] U ?_;refine G.cd (fun ah=>?_) fun ah=>?_
 ·have W:k<2:=by
   have:=QL ah;omega
  refine Va 1 U fun R a=>?_;refine Vq aB.m_ U10 om_ (by rw[Rr,Mc W];rfl:(([1, -1]:List Rat).map aQ)[k]?=some (aQ (sG k))) fl_ (fun a7 aT=>?_);refine Vb aT U8 ?_;refine C6 2 [9,12,13,14,15,60,61,62] a U ?_;clear a R;refine U1 3 [9,12,13,14,15,60,61,62,67,68,69] U ?_;refine Vr (L':=[.arr (sO2 (some ⟨A,0,none⟩) n n) 32 1 n (((b.take 0).map fun x=>tq (sG k*x))++xs.drop 0),.obj f (.cells ⟨[ae (if 0<k then Fl d w1 else []),ae (if 1<k then oE F E else [])]⟩ 144 (0,0))]) ak ?_;refine G.loop (fun fr C' g μ=>∃ (j:Nat),(j<=n)/\fr=[(9,[],p_ b9),(12,[],.slice Au n cu),(13,[],p_ f),(14,[],i_ k),(15,[],ae (qtx (sG k))),(60,[],s_ aA 2 2),(61,[],i_ 2),(62,[],i_ k),(67,[],.slice Au n cu),(68,[],i_ n),(69,[],i_ j)]/\g=[.arr (sO2 (some ⟨A,0,none⟩) n n) 32 1 n (((b.take j).map fun x=>tq (sG k*x))++xs.drop j),.obj f (.cells ⟨[ae (if 0<k then Fl d w1 else []),ae (if 1<k then oE F E else [])]⟩ 144 (0,0))]/\μ=n-j) (hn_ [9,12,13,14,15,60,61,62,67,68,69] U) ⟨0,Rv _,U,U,U⟩ (fun fr a8 a9 m _ hI=>?_);obtain⟨j,hj,rfl,rfl,rfl⟩:=hI;refine U1 1 [9,12,13,14,15,60,61,62,67,68,69,70] U ?_;refine G.cd (fun aj=>?_) fun aj=>?_
  ·have aD:j<n:=by
    have:=QL aj;omega
   obtain⟨x,c⟩:∃ x,b[j]?=some x:=⟨b[j]'om_,ai om_⟩;have aV:xs.drop j=xs[j]'om_::xs.drop (j+1):=RP om_;have aE:((b.take j).map fun x=>tq (sG k*x)).length=j:=by rw[au,RE];omega
   refine Va 1 U fun R a=>?_;refine Vq ad.m_ U10 om_ (by rw[Rr,c];rfl:(b.map aQ)[j]?=some (aQ x)) fl_ (fun ba aW=>?_);refine Vb aW U8 ?_;refine C6 2 [9,12,13,14,15,16,17,60,61,62,67,68,69] a U ?_;clear a R;refine Vv [0,1,2,3,4,5,6,7] [(5,1),(1,0)] U kr_ (fun R v a=>?_);refine Vc U6 ?_;refine Wb (fun _=>((bkT az 2).mono v)) U9 ?_;refine Ve 3 U ?_;refine Vx (fun _=>(df _ H.m_ (sG k) x 22 dc_ dc_ (BZ k) (aa x (aU c)))) U9 ?_;refine VD (j) U10 (fun _=>⟨by omega,by omega,(SL _).symm⟩) U2 ?_;refine VG (j:=0) U11 (by rw[Ru,aE,Th];simp;omega) ?_;refine Vf [9,12,13,14,15,60,61,62,67,68,69] a U ?_;clear a v R;refine Vd fun R a=>?_;refine Vh _ U U6 ?_;refine C6 1 [9,12,13,14,15,60,61,62,67,68,69] a U ?_;clear a R;refine Vr (L':=[.arr (sO2 (some ⟨A,0,none⟩) n n) 32 1 n (((b.take (j+1)).map fun x=>tq (sG k*x))++xs.drop (j+1)),.obj f (.cells ⟨[ae (if 0<k then Fl d w1 else []),ae (if 1<k then oE F E else [])]⟩ 144 (0,0))]) (by rw[aV,wM aE,RR,c];simp) ?_;refine Vn (m':=n-(j+1)) om_ mup (hn_ [9,12,13,14,15,60,61,62,67,68,69] U) ⟨j+1,om_,U,U,U⟩
  have aD:j=n:=by
   have:=Rt aj;omega
  subst aD;refine Vr (L':=[.arr (sO2 (some ⟨A,0,none⟩) j j) 32 1 j ((sgL b k).map tq),.obj f (.cells ⟨[ae (if 0<k then Fl d w1 else []),ae (if 1<k then oE F E else [])]⟩ 144 (0,0))]) (by rw[RN om_,S3 om_,RQ];unfold sgL;rw[So];rfl) ?_;refine VB [(1,3)] U (fun R a=>?_);refine Vb (bkT az 3) U8 ?_;refine D.call (GG _ H.m_ j _ _ (eg (dz B o)) (sgL b k) aR.m_ an (fun y hy=>by
   obtain⟨x,c,rfl⟩:=Rs.1 hy;unfold sG;split
   ·rw[Rat.one_mul];exact aa x c
   rw[show(-1:Rat)*x=-x by grind];exact Lp.qb_neg (aa x c)) aI om_ (by unfold sgL;rw[au];exact J) (T k W)) rfl (.inr dc_) U6 (Rw _) fl_ (fun bb _ bc _ aX=>?_)
  obtain⟨⟨kd,w,vt,A1,n1,bd,A2,n2,be,A3,n3,bf,rfl,aY,L,I⟩,rfl⟩:=aX;refine Ve 3 U ?_;refine Vt U5 (fun bg=>?_);refine Vk (j:=0) U12 ?_;refine C6 1 [9,12,13,14,15,18,19,60,61,62] a U ?_;clear a R;refine G.freeze 0 U (fun aL _ X=>?_);refine U1 3 [9,12,13,14,15,18,19,60,61,62,87] U ?_;refine G.cd (fun aF=>?_) fun aF=>?_
  ·exact absurd aF dc_
  refine Va 1 U fun R a=>?_;refine Vb (bkT X 1) U8 ?_;refine C6 2 [9,12,13,14,15,18,60,61,62,91] a U ?_;clear a R;refine G.cd (fun al=>?_) fun al=>?_
  ·have O:kd=2:=by simpa using al
   have aZ:k=0:=by
    rcases Sz k with h|h
    ·exact h
    exact absurd O (Jl (K h).1 L (K h).2)
   subst aZ;refine U1 3 [6,7,8] U ?_;refine Vo (G.dropAll (V2 U4 ?_));exact⟨U,kd,w,0,0,⟨I,QB_zero.le dc_⟩,L,fun h=>absurd O h,.inl ⟨O,U⟩⟩
  have O:kd≠2:=by simpa using al
  refine Va 1 U fun R a=>?_;refine Vb (bkT X 1) U8 ?_;refine C6 2 [9,12,13,14,15,18,60,61,62,95] a U ?_;clear a R;refine G.cd (fun am=>?_) fun am=>?_
  ·have Y:kd=1:=by simpa using am
   obtain rfl:=aY Y;subst Y;rcases(by omega:k=0∨k=1) with rfl|rfl
   ·refine Va 3 U fun R a=>?_;refine Vb (bkT X 1) U8 ?_;refine Vm (df _ H.m_ (sG 0) w 22 dc_ dc_ (BZ 0) (I.le dc_)) U7 fl_ ?_;refine Vw (0) U9 k_ U2 ?_;refine Vk (j:=1) U12 ?_;refine Vf [9,12,13,60,61,62] a U ?_;clear a R;refine Vd fun R a=>?_;refine Vh _ U U6 ?_;refine C6 1 [9,12,13,60,61,62] a U ?_;clear a R;refine G.perm (L':=[.arr (sO2 (some ⟨A,0,none⟩) j j) 32 1 j ((sgL b 0).map tq),.obj f (.cells ⟨[ae (if 0<1 then Fl 1 w else []),ae (if 1<1 then oE 0 0 else [])]⟩ 144 (0,0))]) (pkL [1,0] U) ?_;refine Vn (m':=1) om_ mup (hn_ [9,12,13,60,61,62] U) ⟨1,(sgL b 0).map tq,1,w,0,0,⟨by decide,by unfold sgL;simp[J],⟨I,QB_zero.le dc_⟩,fun _=>⟨L,by decide⟩,fun h=>absurd h dc_⟩,U,U,U⟩
   refine Va 3 U fun R a=>?_;refine Vb (bkT X 1) U8 ?_;refine Vm (df _ H.m_ (sG 1) w 22 dc_ dc_ (BZ 1) (I.le dc_)) U7 fl_ ?_;refine Vw (1) U9 k_ U2 ?_;refine Vk (j:=1) U12 ?_;refine Vf [9,12,13,60,61,62] a U ?_;clear a R;refine Vd fun R a=>?_;refine Vh _ U U6 ?_;refine C6 1 [9,12,13,60,61,62] a U ?_;clear a R;refine G.perm (L':=[.arr (sO2 (some ⟨A,0,none⟩) j j) 32 1 j ((sgL b 1).map tq),.obj f (.cells ⟨[ae (if 0<2 then Fl d w1 else []),ae (if 1<2 then oE 1 w else [])]⟩ 144 (0,0))]) (pkL [1,0] U) ?_;refine Vn (m':=0) om_ mup (hn_ [9,12,13,60,61,62] U) ⟨2,(sgL b 1).map tq,d,w1,1,w,⟨by decide,by unfold sgL;simp[J],⟨ag.1,I⟩,fun _=>K dc_,fun _=>L⟩,U,U,U⟩
  have Y:kd≠1:=by simpa using am
  refine Vd fun R a=>?_;refine Vh _ U U6 ?_;refine C6 1 [9,12,13,60,61,62] a U ?_;clear a R;refine Vr (L':=[.arr (sO2 (some ⟨A,0,none⟩) j j) 32 1 j ((sgL b k).map tq),.obj f (.cells ⟨[ae (if 0<k+1 then Fl (if k=0 then kd else d) (if k=0 then w else w1) else []),ae (if 1<k+1 then oE (if k=0 then 0 else kd) (if k=0 then 0 else w) else [])]⟩ 144 (0,0))]) (by rcases(by omega:k=0∨k=1) with rfl|rfl <;> simp[Fl,oE,Y]) ?_;refine Vn (m':=2-(k+1)) om_ mup (hn_ [9,12,13,60,61,62] U) ⟨k+1,(sgL b k).map tq,if k=0 then kd else d,if k=0 then w else w1,if k=0 then 0 else kd,if k=0 then 0 else w,⟨by omega,by unfold sgL;simp[J],⟨(by split <;> first|exact I|exact ag.1),(by split <;> first|exact QB_zero.le dc_|exact I)⟩,fun _=>by
   rcases(by omega:k=0∨k=1) with rfl|rfl
   ·exact⟨L,O⟩
   ·exact K dc_,fun h=>by
   obtain rfl:k=1:=by omega
   exact L⟩,U,U,U⟩
 have W:k=2:=by
  have:=Rt ah;omega
 subst W;refine Vv [0,1,2,3,4,5,6] [] U kr_ (fun R v a=>?_);refine Vw (0) U9 k_ U2 ?_;refine Vj af U9 ?_;refine Vw (1) U9 k_ U2 ?_;refine Vj af U9 ?_;refine Ve 3 U ?_;refine Vf [6,7,8] a U ?_;clear a v R;refine Vo (G.dropAll (V2 U4 ?_));exact⟨U,d,w1,F,E,ag,(K dc_).1,fun _=>aS dc_,.inr ⟨(K dc_).2,U⟩⟩
end Go.Proofs.YtfjcldheldflbaaGreatDoor
