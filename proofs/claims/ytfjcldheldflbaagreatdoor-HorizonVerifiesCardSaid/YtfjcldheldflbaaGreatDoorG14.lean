import Derived.Test.YtfjcldheldflbaaGreatDoorG13
set_option maxHeartbeats 4000000
namespace Go.Proofs.YtfjcldheldflbaaGreatDoor
open Go.Proofs.Tryz
open Go Go.Jog
set_option maxRecDepth 100000
variable {C:Mem}{RO:Nat->List RowQ}{cc:Nat->Rat}{e:Nat × Nat}{es:List (Nat × Nat)}{h i j k:Nat}{ks:List fG}{l:List Nat}{m more n p:Nat}{pt:Nat->Rat}{r r':RowQ}{rows:List RowQ}{s:Nat}{sg:Rat}{tris:List Tri}{u:Value}{us:List Value}{v:Value}{vs:List Value}{w:Value}{x:Rat}{y:Nat->Rat}
def prC (vs:List Value)(l:List SrcQ):List (List Value):=aB vs (l.map SrcQ.r)
theorem De {l:List SrcQ}{s:SrcQ}(a:vs.length=l.length)(c:vs[i]?=some w)(d:l[i]?=some s):prC (vs.take (i+1)) (l.take (i+1))=prC (vs.take i) (l.take i)++[[w,ag (qtx s.r.b)]]:=by
 unfold prC;rw[S9,S9,c,d,Tm];exact cm (by simp[a]) w s.r
theorem MT {l:List SrcQ}{s:SrcQ}(a:vs[i]?=some w)(c:l[i]?=some s):(bZ vs l)[i]?=some [i_ s.n,w,ag (qtx s.r.b)]:=by
 unfold bZ;rw[List.getElem?_zipWith,a,c]
theorem OQ (a:List Value)(l:List SrcQ):∀r∈prC a l,r.length=2:=cC _ _
theorem mb (h:RowsOk C vs rows)(b:Sl C 2 v (aB vs rows)):RowsT C v ((dS rows).map dw):=by
 refine⟨vs,by rw[h.1];simp[dS],λi w r c hr=>?_, ?_⟩
 .rw[dS,TH,SI]at hr;cases a:rows[i]? with
 |none=>rw[a]at hr;cases hr
 |some x =>
   rw[a]at hr;cases hr
   have:=h.2 i w x c a;show Sl C 1 w ((x.f.map qtx).map kL);rw[<- fy];exact this
 have e:List.zipWith (λw (r:List Str × Str)=>[w,ag r.2]) vs ((dS rows).map dw)=aB vs rows:=by
  unfold dS aB;rw[TH,List.zipWith_map_right];rfl
 rw[e];exact b
structure Calm (B:Bk)(fs:List Rat)(RO:Nat->List RowQ):Prop where
 rich:Rich B fs RO
 n12:bs B*bp B<=12
 thI:∀r∈bM B,RowI r
 roI:∀i,i<B.obs.length->∀r∈RO i,RowI r
 th:(bM B).length<=24
 ro:∀i,i<B.obs.length->(RO i).length<=8
 ob:B.obs.length<=12
structure SetIn (n:Nat)(l:List Nat):Prop where
 lt:∀i∈l,i<n
 nd:l.Nodup
def oT (B:Bk)(RO:Nat->List RowQ)(l:List Nat):List RowQ:=(bV (bM B) RO l).map SrcQ.r
theorem jY {B:Bk}:oT B RO l=bM B++l.flatMap RO:=by
 unfold oT bV kX;rw[Tm,TH,List.map_flatMap];congr 1
 .exact List.map_id _
 congr 1;funext i;rw[TH];exact List.map_id _
theorem SetIn.len (h:SetIn n l):l.length<=n:=by
 have:=List.Nodup.length_le_of_subset (l₂:=List.range n) h.nd λv a=>S7.2 (h.lt v a)
 rwa [TO]at this
section
variable {B:Bk} {fs:List Rat} {RO:Nat->List RowQ} {l:List Nat}
theorem LQ {c:Nat}{f:Nat->List RowQ}:∀{l:List Nat},(∀i∈l,(f i).length<=c)->(l.flatMap f).length<=c*l.length
|[],_=>SM _
|i::l,h=>by
  rw[List.flatMap_cons,SP,S5,Nat.mul_succ];have h1:=h i SK;have h2:=LQ (l:=l) λj a=>h j (SX _ a);omega
theorem Calm.cnt (h:Calm B fs RO)(a:SetIn B.obs.length l):(oT B RO l).length<=120:=by
 rw[jY,SP];have h1:=LQ (c:=8) (f:=RO) λi b=>h.ro i (a.lt i b);have h2:=a.len;have h3:=h.ob;have h4:=h.th;omega
theorem Calm.rowI (h:Calm B fs RO)(a:SetIn B.obs.length l):∀r∈oT B RO l,RowI r:=by
 intro r hr;rw[jY]at hr;rcases SZ.1 hr with hr|hr
 .exact h.thI r hr
 let⟨i,b,hr⟩:=List.mem_flatMap.1 hr;exact h.roI i (a.lt i b) r hr
theorem xg {s p:Nat}{a:List Lay}:∀n,∀r∈bR s p a n,r.f.length=s*p
|0,r,hr=>by cases hr
|n+1,r,hr=>by
  rcases SZ.1 hr with hr|hr
  .exact xg n r hr
  have:∀k,∀r∈ci s p (a.getD (n+1) ⟨[],0,none⟩) (n+1) k,r.f.length=s*p:=by
   intro k;induction k with
  |zero=>intro r hr;cases hr
  |succ k b =>
    intro r hr;rcases SZ.1 hr with hr|hr
    .exact b r hr
    unfold kP at hr;rcases SY.1 hr with rfl|hr
    .exact jZ _ _
    split at hr
    .cases hr
    rw[S6.1 hr];exact jZ _ _
  exact this p r hr
theorem Qv {D:Int}{q:Rat}(h:Wl D q)(a:D≠0)(b:D.natAbs<=999999999):QB 1 q:=by
 let⟨z,h1,h2⟩:=h;exact qN a h1 om_ om_
theorem RowI.q {r:RowQ}(h:RowI r):(∀x∈r.f,QB 1 x)/\QB 1 r.b:=by
 let⟨D,h0,a,h1,h2⟩:=h;exact⟨λx c=>Qv (h1 x c) h0 a,Qv h2 h0 a⟩
theorem lZ {a:List RowQ}{P:List Rat × Rat->Prop}(h:∀r∈a,P (r.f,r.b)):∀x∈dS a,P x:=λx c=>by
 obtain⟨r,hr,rfl⟩:=SL.1 c;exact h r hr
theorem Calm.q22 (h:Calm B fs RO)(a:SetIn B.obs.length l):∀r∈dS (oT B RO l),(∀x∈r.1,QB 22 x)/\QB 22 r.2 :=
 lZ (P:=λr=>(∀x∈r.1,QB 22 x)/\QB 22 r.2) λr hr=>⟨λx b=>((h.rowI a r hr).q.1 x b).le dc_,(h.rowI a r hr).q.2.le dc_⟩
theorem Calm.rowsQ (h:Calm B fs RO)(a:SetIn B.obs.length l):RowsQ (bs B*bp B) (dS (oT B RO l)):=by
 refine⟨lZ (P:=λr=>r.1.length=bs B*bp B) λr hr=>?_,λr hr=>⟨λx b=>((h.q22 a r hr).1 x b).le dc_,(h.q22 a r hr).2.le dc_⟩, ?_⟩
 .rw[jY]at hr;rcases SZ.1 hr with hr|hr
  .exact xg _ r hr
  let⟨i,c,hr⟩:=List.mem_flatMap.1 hr;exact(qK h.rich (a.lt i c)).2 r hr
 have:=h.cnt a;rw[dS,ar];omega
theorem Calm.lim (h:Calm B fs RO)(a:SetIn B.obs.length l):Lp.Lim (bQ (bs B*bp B) (dS (oT B RO l))) (λ_=>0) 20:=Lu h.n12 (h.rowI a)
end
def di (B:Bk)(RO:Nat->List RowQ):List RowQ:=oT B RO (List.range B.obs.length)
theorem cK (n:Nat):SetIn n (List.range n):=⟨λ_a h=>S7.1 h,List.nodup_range⟩
theorem vF {l:List Rat}(a:i<l.length):(l.set i x).getD j 0=if j=i then x else l.getD j 0:=by
 rw[al,List.getElem?_set,al];by_cases h:i=j
 .subst h;rw[aL rfl,aL a,aL rfl];rfl
 rw[aF h,aF λe=>h e.symm]
def rgF (n h p m k:Nat)(e:Nat × Nat)(sg:Rat):List Rat:=(((List.replicate n (0:Rat)).set (k / m*p+e.1) sg).set (k / m*p+e.2) (-sg)).set (h+k) (-1)
def edg (es:List (Nat × Nat))(k:Nat):Nat × Nat:=es.getD (k % es.length) (0,0)
def rgK (n h p:Nat)(es:List (Nat × Nat))(k:Nat):List RowQ:=[⟨rgF n h p es.length k (edg es k) 1,0⟩,⟨rgF n h p es.length k (edg es k) (-1),0⟩]
def rgL (n h p:Nat)(es:List (Nat × Nat))(t:Nat):List RowQ:=(List.range t).flatMap (rgK n h p es)
def ck (more:Nat)(r:RowQ):RowQ:=⟨r.f++List.replicate more 0,r.b⟩
def sD (rows:List RowQ)(h p:Nat)(es:List (Nat × Nat))(more:Nat):List RowQ:=rows.map (ck more)++rgL (h+more) h p es more
def kI (h more:Nat):List Rat:=List.replicate h 0++List.replicate more 1
theorem uQ (n h p m k:Nat)(e:Nat × Nat)(a:Rat):(rgF n h p m k e a).length=n:=by unfold rgF;simp
theorem uO (n h p:Nat)(a:List (Nat × Nat))(t:Nat):rgL n h p a (t+1)=rgL n h p a t++rgK n h p a t:=by
 unfold rgL;rw[T1,List.flatMap_append,List.flatMap_cons,List.flatMap_nil,S8]
theorem uP (n h p:Nat)(a:List (Nat × Nat)):∀t,(rgL n h p a t).length=2*t
|0=>rfl
|t+1=>by rw[uO,SP,uP n h p a t];rfl
theorem CT (a:List RowQ)(h p:Nat)(c:List (Nat × Nat))(b:Nat):(sD a h p c b).length=a.length+2*b:=by
 unfold sD;rw[SP,ar,uP]
theorem mf (h a:Nat):(kI h a).length=h+a:=by unfold kI;simp
structure EdgeOk (s p:Nat)(es:List (Nat × Nat)):Prop where
 lt:∀e∈es,e.1<e.2/\e.2<p
theorem Be (a:k<s*es.length):edg es k∈es/\k / es.length<s:=by
 have h0:0<es.length:=by
  rcases TY es.length with h|h
  .rw[h]at a;omega
  exact h
 refine⟨?_,(UF h0).2 a⟩;unfold edg;have hm:=Ts k h0;rw[al,aj hm];exact TC hm
theorem Dx {a:Nat}(b:a<s)(c:i<p):a*p+i<s*p:=by
 have:(a+1)*p<=s*p:=To _ b;rw[Nat.succ_mul]at this;omega
theorem DQ (h:EdgeOk s p es)(a:k<s*es.length):k / es.length*p+(edg es k).1<s*p/\k / es.length*p+(edg es k).2<s*p/\(edg es k).1≠(edg es k).2:=by
 let⟨h1,h2⟩:=Be a;let⟨h3,h4⟩:=h.lt _ h1;exact⟨Dx h2 om_,Dx h2 h4,by omega⟩
theorem Oy (a:k / m*p+e.1<h)(b:k / m*p+e.2<h)(c:h+k<n)(j:Nat):(rgF n h p m k e sg).getD j 0=if j=h+k then -1 else if j=k / m*p+e.2 then -sg else if j=k / m*p+e.1 then sg else 0:=by
 unfold rgF;rw[vF ap,vF ap,vF ap,Hi]
theorem AC (a:i<n):Lp.sumN (λj=>(if j=i then x else 0)*y j) n=x*y i:=by
 rw[Lp.sumN_at a,Lp.sumN_zero λj _=>?_]
 .rw[aL rfl];grind
 by_cases h:j=i
 .rw[aL h]
 rw[aF h,aF h];grind
theorem Ox (a:k / m*p+e.1<h)(b:k / m*p+e.2<h)(d:e.1≠e.2)(c:h+k<n) :
  Lp.sumN (λj=>(rgF n h p m k e sg).getD j 0*y j) n=sg*y (k / m*p+e.1)+(-sg*y (k / m*p+e.2) + -1*y (h+k)):=by
 rw[<- AC (i:=k / m*p+e.1) (n:=n) (x:=sg) om_,<- AC (i:=k / m*p+e.2) (n:=n) (x:=-sg) om_,<- AC (i:=h+k) (n:=n) (x:=-1) om_,<- Lp.sumN_add,<- Lp.sumN_add];refine Lp.sumN_congr λj _=>?_;rw[Oy a b c];by_cases h1:j=h+k
 .rw[aL h1,aF om_,aF om_,aL h1];grind
 by_cases h2:j=k / m*p+e.2
 .rw[aF h1,aL h2,aF om_,aL h2,aF h1];grind
 by_cases h3:j=k / m*p+e.1
 .rw[aF h1,aF h2,aL h3,aF h2,aF h1];grind
 rw[aF h1,aF h2,aF h3,aF h2,aF h1];grind
theorem gj :(bQ n (dS rows)).At y ↔ ∀r∈rows,Lp.sumN (λj=>r.f.getD j 0*y j) n<=r.b:=by
 have hm:(bQ n (dS rows)).m=rows.length:=ar _;constructor
 .intro h r hr;obtain⟨i,c,rfl⟩:=List.mem_iff_getElem.1 hr;have h1:=h i (by rw[hm];exact c);have d:(bQ n (dS rows)).a i=λj=>rows[i].f.getD j 0:=by show(λj=>((dS rows).getD i ([],0)).1.getD j 0)=_;rw[nN c]
  have e:(bQ n (dS rows)).b i=rows[i].b:=by show((dS rows).getD i ([],0)).2=_;rw[nN c]
  rw[d,e]at h1;exact h1
 intro h i c;rw[hm]at c;have h1:=h rows[i] (TC c);have d:(bQ n (dS rows)).a i=λj=>rows[i].f.getD j 0:=by show(λj=>((dS rows).getD i ([],0)).1.getD j 0)=_;rw[nN c]
 have e:(bQ n (dS rows)).b i=rows[i].b:=by show((dS rows).getD i ([],0)).2=_;rw[nN c]
 rw[d,e];exact h1
theorem B6 (a:r.f.length=h):Lp.sumN (λj=>(ck more r).f.getD j 0*y j) (h+more)=Lp.sumN (λj=>r.f.getD j 0*y j) h:=by
 rw[Lp.sumN_split,Lp.sumN_zero (n:=more) λj _=>?_]
 .rw[show Lp.sumN (λj=>(ck more r).f.getD j 0*y j) h=Lp.sumN (λj=>r.f.getD j 0*y j) h from Lp.sumN_congr λj b=>?_]
  .grind
  show(r.f++List.replicate more 0).getD j 0*y j=_;rw[al,Tz om_,<- al]
 show(r.f++List.replicate more 0).getD (h+j) 0*y (h+j)=0;rw[al,Tj om_,<- al,Hi];grind
theorem vh :Lp.sumN (λj=>(kI h more).getD j 0*y j) (h+more)=Lp.sumN (λk=>y (h+k)) more:=by
 rw[Lp.sumN_split,Lp.sumN_zero (n:=h) λj a=>?_]
 .rw[show Lp.sumN (λr=>(kI h more).getD (h+r) 0*y (h+r)) more=Lp.sumN (λk=>y (h+k)) more from Lp.sumN_congr λj a=>?_]
  .grind
  unfold kI;rw[al,Tj am,T4,aL ap];show 1*_=_;grind
 unfold kI;rw[al,Tz ap,<- al,Hi];grind
def abR (x:Rat):Rat:=if x<0 then -x else x
theorem zx {y:Rat}:abR x<=y ↔ x<=y/\-x<=y:=by
 unfold abR;split <;> grind
theorem PZ (x:Rat):0<=abR x:=by
 unfold abR;split <;> grind
def FF (p:Nat)(es:List (Nat × Nat))(y:Nat->Rat)(k:Nat):Rat:=y (k / es.length*p+(edg es k).1)-y (k / es.length*p+(edg es k).2)
def QX (p:Nat)(es:List (Nat × Nat))(y:Nat->Rat)(t:Nat):Rat:=Lp.sumN (λk=>abR (FF p es y k)) t
section
variable {rows:List RowQ} {s p:Nat} {es:List (Nat × Nat)} {y:Nat->Rat}
theorem CS (e:EdgeOk s p es)(d:∀r∈rows,r.f.length=s*p):(bQ (s*p+s*es.length) (dS (sD rows (s*p) p es (s*es.length)))).At y ↔ (bQ (s*p) (dS rows)).At y/\∀k,k<s*es.length->abR (FF p es y k)<=y (s*p+k):=by
 rw[gj,gj];have c:∀k,k<s*es.length->∀sg,Lp.sumN (λj=>(rgF (s*p+s*es.length) (s*p) p es.length k (edg es k) sg).getD j 0*y j) (s*p+s*es.length)=sg*FF p es y k-y (s*p+k):=λk a sg=>by
  let⟨h1,h2,h3⟩:=DQ e a;rw[Ox h1 h2 h3 om_];unfold FF;grind
 constructor
 .intro h;refine⟨λr hr=>?_,λk a=>?_⟩
  .have:=h (ck _ r) (Uy _ (US hr));rw[B6 (d r hr)]at this;exact this
  have hm:∀x∈rgK (s*p+s*es.length) (s*p) p es k,x∈sD rows (s*p) p es (s*es.length):=λx b=>UE _ (List.mem_flatMap.2 ⟨k,S7.2 a,b⟩);have h1:=h _ (hm _ SK);have h2:=h _ (hm _ (SX _ SK));rw[c k a]at h1 h2;rw[zx];simp only at h1 h2;constructor <;> grind
 rintro ⟨h1,h2⟩ r hr;rcases SZ.1 hr with hr|hr
 .obtain⟨x,b,rfl⟩:=SL.1 hr;rw[B6 (d x b)];exact h1 x b
 let⟨k,a,hr⟩:=List.mem_flatMap.1 hr;have a:=S7.1 a;have h3:=zx.1 (h2 k a);rcases SY.1 hr with rfl|hr
 .rw[c k a];simp only;grind
 rw[S6.1 hr,c k a];simp only;grind
theorem Ou (e:EdgeOk s p es)(i:∀r∈rows,r.f.length=s*p)(h:(bQ (s*p) (dS rows)).At y) :
  ∃z:Nat->Rat,(∀j,j<s*p->z j=y j)/\(bQ (s*p+s*es.length) (dS (sD rows (s*p) p es (s*es.length)))).At z/\Lp.sumN (λj=>(kI (s*p) (s*es.length)).getD j 0*z j) (s*p+s*es.length)=QX p es y (s*es.length):=by
 let⟨z,g⟩:∃z:Nat->Rat,z=λj=>if j<s*p then y j else abR (FF p es y (j-s*p)):=⟨_,rfl⟩;have h1:∀j,j<s*p->z j=y j:=λj c=>by rw[g];exact aL c
 have h2:∀k,z (s*p+k)=abR (FF p es y k):=λk=>by rw[g];show(if s*p+k<s*p then _ else _)=_;rw[aF om_,Ud]
 have h3:∀k,k<s*es.length->FF p es z k=FF p es y k:=λk d=>by
  let⟨a,b,_⟩:=DQ e d;unfold FF;rw[h1 _ a,h1 _ b]
 refine⟨z,h1,(CS e i).2 ⟨gj.2 λr hr=>?_,λk d=>by rw[h3 k d,h2];exact Rat.le_refl⟩, ?_⟩
 .have:=gj.1 h r hr;rw[Lp.sumN_congr λj c=>by rw[h1 j c]];exact this
 rw[vh];exact Lp.sumN_congr λk _=>h2 k
theorem Oq {e:Nat}{v:Rat}{a g:Nat->Rat}(b:EdgeOk s p es)(c:∀r∈rows,r.f.length=s*p)(h:Lp.OptR (bQ (s*p+s*es.length) (dS (sD rows (s*p) p es (s*es.length)))) (λj=>(kI (s*p) (s*es.length)).getD j 0) e v a g) :
  (bQ (s*p) (dS rows)).At a/\v=QX p es a (s*es.length):=by
 let⟨h1,h2⟩:=(CS b c).1 h.row;refine⟨h1, ?_⟩;let⟨z,_,h3,h4⟩:=Ou b c h1;have h5:=h.least h3;have d:=h.wor;have i:QX p es a (s*es.length)<=Lp.sumN (λk=>a (s*p+k)) (s*es.length):=Lp.sumN_mono h2;rw[show(bQ (s*p+s*es.length) (dS (sD rows (s*p) p es (s*es.length)))).n=s*p+s*es.length from rfl]at h5 d;rw[h4]at h5;rw[vh]at d;grind
theorem Oo {a:Nat}{b c:Nat->Rat}(d:EdgeOk s p es)(e:∀r∈rows,r.f.length=s*p)(h:Lp.UnbR (bQ (s*p+s*es.length) (dS (sD rows (s*p) p es (s*es.length)))) (λj=>(kI (s*p) (s*es.length)).getD j 0) a b c):False:=by
 let⟨y,hy,g⟩:=h.below 0;rw[show(bQ (s*p+s*es.length) (dS (sD rows (s*p) p es (s*es.length)))).n=s*p+s*es.length from rfl,vh]at g;have h1:=((CS d e).1 hy).2;have h2:0<=Lp.sumN (λk=>y (s*p+k)) (s*es.length):=Lp.sumN_ge λk i=>Rat.le_trans (PZ _) (h1 k i);grind
end
theorem Ov (h:∀r∈rows,RowI r):∀r∈sD rows (s*p) p es (s*es.length),RowI r:=by
 intro r hr;have d:Wl 1 1:=⟨1,by decide +kernel,by decide⟩;have b:Wl 1 (-1):=⟨-1,by decide +kernel,by decide⟩;rcases SZ.1 hr with hr|hr
 .obtain⟨x,e,rfl⟩:=SL.1 hr;let⟨D,h0,f,h1,h2⟩:=h x e;refine⟨D,h0,f,λq a=>?_,h2⟩;rcases SZ.1 a with a|a
  .exact h1 q a
  rw[(List.mem_replicate.1 a).2];exact Wl.zero _
 let⟨k,g,hr⟩:=List.mem_flatMap.1 hr;have c:∀sg:Rat,Wl 1 sg->∀q∈rgF (s*p+s*es.length) (s*p) p es.length k (edg es k) sg,Wl 1 q:=λsg hs q a=>by
  unfold rgF at a;rcases T5 a with a|rfl
  .rcases T5 a with a|rfl
   .rcases T5 a with a|rfl
    .rw[(List.mem_replicate.1 a).2];exact Wl.zero _
    exact hs
   exact hs.neg
  exact b
 rcases SY.1 hr with rfl|hr
 .exact⟨1,by decide,by decide,c 1 d,Wl.zero _⟩
 rw[S6.1 hr];exact⟨1,by decide,by decide,c (-1) b,Wl.zero _⟩
theorem Ow (h b j:Nat):Wl 1 ((kI h b).getD j 0):=by
 unfold kI;rw[al];cases a:(List.replicate h (0:Rat)++List.replicate b 1)[j]? with
|none=>exact Wl.zero _
|some q =>
  rcases SZ.1 (aK a) with a|a
  .rw[(List.mem_replicate.1 a).2];exact Wl.zero _
  rw[(List.mem_replicate.1 a).2];exact⟨1,by decide +kernel,by decide⟩
theorem Ot (a:s*p+s*es.length<=12)(h:∀r∈rows,RowI r):Lp.Lim (bQ (s*p+s*es.length) (dS (sD rows (s*p) p es (s*es.length)))) (λj=>(kI (s*p) (s*es.length)).getD j 0) 20:=vu a (Ov h) ⟨1,by decide,by decide,λj _=>Ow _ _ j⟩
theorem QV (a:RowI r)(b:Lp.CmD n k pt)(t:i<=n)(u:n<=1000):QB (k+2) (Lp.sumN (λj=>r.f.getD j 0*pt j) i):=by
 let⟨D,h0,c,h1,_⟩:=a;let⟨d,g0,hd,g⟩:=b;have v:0<B9 ^ k:=om_;let⟨Z,e,h⟩:∃Z:Int,Lp.sumN (λj=>r.f.getD j 0*pt j*((D*d:Int):Rat)) i=Z/\Z.natAbs<=i*(999999999*B9 ^ k):=Lp.sumN_int λj w=>by
  let⟨z,e,l⟩:=g j om_;let⟨y,m,hy⟩:Wl D (r.f.getD j 0):=by
   rw[al];cases o:r.f[j]? with
  |none=>exact Wl.zero _
  |some q=>exact h1 q (aK o)
  refine⟨y*z, ?_, ?_⟩
  .rw[TF,TF,<- e,<- m];grind
  rw[T8];exact T2 hy (VU l)
 have p:Lp.sumN (λj=>r.f.getD j 0*pt j) i*((D*d:Int):Rat)=Z:=by
  rw[<- e,Wm,<- Lp.sumN_mul];exact Lp.sumN_congr λj _=>Wm _ _
 have s:1000*(999999999*B9 ^ k)<B9 ^ (k+2):=by
  rw[UV,show B9 ^ 2=1000000000000000000 from by decide];omega
 refine Lp.Quo.qb (K:=1000*(999999999*B9 ^ k)) ⟨Z,D*d,Int.mul_ne_zero h0 g0,p, ?_, ?_⟩ s
 .exact SV h (To _ om_)
 rw[T8];have:=T2 c (VU hd);omega
theorem Su {z:Int}(h:s*p<=60):ofE z s p=z:=by
 unfold ofE;split
 .rfl
 rename_i h2;have:z=0:=by simpa using h2
 rw[aF om_,this]
theorem Bl (C:Mem)(a:Value)(B:Bk)(z:Int)(b:BookZ C a B z)(h:bs B*bp B<=60):Gives cx.P 92 [a] C (.tuple #[i_ (if z=0 then ((bs B*bp B:Nat):Int) else 0),i_ z]):=by
 have h1:=Mg C a B z b;rw[Su h]at h1;exact h1
theorem mO (C:Mem)(n:Nat)(h:n<=100000):Jog.Fn cx.P 77 [i_ n] C [] λu _f a=>∃b,u=s_ b n n/\a=[.arr u 32 1 n (List.replicate n (ag [48]))]:=by
 refine Wy func77 6 U3 λw0=>U0 1 [0] U<|WQ [(2,3)] U λR c=>WP [[ag [48]]] U12 λg _ _ d=>Wt U6<|D.call (ka _ _ n [48] d.m_ om_) U (.inr dc_) U6 (SQ _) fl_ λi _ j _ e=>C6 1 [2] c U ?_;obtain⟨bz,rfl,rfl⟩:=e;refine WE (W6 U U ?_);exact⟨bz,U,U⟩
theorem Hb (B:Bk)(a:Nat->List RowQ):(bV (bM B) a (List.range B.obs.length)).map SrcQ.r=di B a:=rfl
abbrev sC7 (A:Option Addr)(n c:Nat):Value:=.slice A n c
theorem iJ (C:Mem)(M:Tabs C)(g:Value)(B:Bk)(N:List Rat)(c:Nat->List RowQ)(o:BookIn C g B)(h:Calm B N c) :
  Jog.Fn cx.P 37 [g] C [] λu D k=>∃(d:Option Addr)(e bz:Nat)(vs:List Value),u=.tuple #[.agg ⟨[i_ (bs B*bp B:Nat),.slice d (di B c).length e,s_ bz (bs B*bp B) (bs B*bp B)]⟩,i_ 0]/\RowsOk D vs (di B c) /\
   k=[.arr (.slice d (di B c).length e) 140 2 (di B c).length (aB vs (di B c)).flatten,.arr (s_ bz (bs B*bp B) (bs B*bp B)) 32 1 (bs B*bp B) (List.replicate (bs B*bp B) (ag [48]))]:=by
 have av:=o;have X:=h.rich.bookz M o;have Y:=h.cnt (cK _);have Z:=h.n12;have aw:=h.ob;let⟨l,x⟩:∃l,bV (bM B) c (List.range B.obs.length)=l:=⟨_,rfl⟩;have O:di B c=l.map SrcQ.r:=by rw[<- Hb,x]
 have ax:l.length<=120:=by
  have:=Y;rw[show oT B c (List.range B.obs.length)=di B c from rfl,O,ar]at this;exact this
 have aa:∀D:Mem,C.le D->Pur cx.P 54 [g] D λu E=>∃v,u=.tuple #[v,i_ 0]/\Ei E v l:=λD p=>by
  have:=NG D (M.mono p) g B N c (o.mono p) h.rich om_ (by rw[x];omega);rw[x]at this;exact this
 let⟨n,Q⟩:∃n,bs B*bp B=n:=⟨_,rfl⟩;have ab:∀D:Mem,C.le D->Gives cx.P 92 [g] D (.tuple #[i_ n,i_ 0]):=λD p=>by
  have h:=Bl D g B 0 (X.mono p) om_;rw[aL rfl,Q]at h;exact h
 rw[O];rw[Q]at Z⊢;obtain⟨v1,v2,tv,cv,ov,rfl,h1,h2,h3,h4,h5⟩:=id o.ex;have az:=mx_
 refine Wy func37 47 U3 λw0=>Wu λR a=>WH U6 λb1=>WI U5 λq=>C6 1 [1,2] a U<|G.freeze 1 U λ_ _ S=>Wu λR a=>Ws (bkT S 5) U8<|WY (aa _ mup) U7 (λaA _ _ ac=>?_);obtain⟨wv,rfl,ad⟩:=ac;let⟨vs,y,z⟩:=ad;have T:=jV y;obtain⟨Aw,cw,rfl,ah,aC,_⟩:=id z;have ai:(bZ vs l).length=l.length:=by unfold bZ;simp[T]
 rw[ai]at z ah⊢;refine C6 5 [1,2,4,5] a U<|U0 2 [1,2,4,5,16] U<|G.cd (λV=>?_) λV=>?_
 .exact absurd V dc_
 refine Wu λR a=>Ws (bkT S 5) U8<|WD (ab _ mup) U7<|C6 5 [2,4,5,6] a U<|U0 2 [2,4,5,6,25] U<|G.cd (λW=>?_) λW=>?_
 .exact absurd W dc_
 refine WQ [(2,3)] U λR a=>Wv 2 U<|D.call (mO _ n om_) U (.inr dc_) U6 (SQ _) fl_ (λaD _ aE _ ak=>?_);obtain⟨bz,rfl,rfl⟩:=ak;refine WL [i_ n,.slice none 0 0,s_ bz n n] U8<|WI U5 λt=>WB (j:=0) U12<|Ww [2,4,7] a U<|U0 3 [2,7,32,33,34] U<|G.nilArr 140 2<|G.perm (L':=[.arr (sC7 none 0 0) 140 2 0 (prC (vs.take 0) (l.take 0)).flatten,.arr (s_ bz n n) 32 1 n (List.replicate n (ag [48])),.obj t (.cells ⟨[i_ n,.slice none 0 0,s_ bz n n]⟩ 74 (0,0)),.obj q (.cells ⟨[i_ 0,.slice none 0 0,.slice none 0 0]⟩ 74 (0,0))]) (pkL [0,1,0,0] U)<|G.loop (λfr C' k μ=>∃(i:Nat)(d:Option Addr)(n1 e:Nat),(i<=l.length)/\fr=[(2,[],p_ q),(7,[],p_ t),(32,[],.slice Aw l.length cw),(33,[],i_ l.length),(34,[],i_ i)]/\k=[.arr (sC7 d n1 e) 140 2 i (prC (vs.take i) (l.take i)).flatten,.arr (s_ bz n n) 32 1 n (List.replicate n (ag [48])),.obj t (.cells ⟨[i_ n,.slice d n1 e,s_ bz n n]⟩ 74 (0,0)),.obj q (.cells ⟨[i_ 0,.slice none 0 0,.slice none 0 0]⟩ 74 (0,0))]/\μ=l.length-i) (hn_ [2,7,32,33,34] U) ⟨0,none,0,0,SM _,U,U,U⟩ (λfr aF aG m _ hI=>?_);obtain⟨i,d,n1,e,hi,rfl,rfl,rfl⟩:=hI;refine U0 1 [2,7,32,33,34,35] U<|G.cd (λA=>?_) λA=>?_
 .have F:i<l.length:=by
   have:=aT A;omega
  let⟨s,H⟩:∃s,l[i]?=some s:=⟨l[i],aj F⟩;let⟨w,I⟩:∃w,vs[i]?=some w:=⟨vs[i]'om_,aj om_⟩;have al:=y.2 i w s.r I (by rw[SI,H];rfl);obtain⟨Ax,am,rfl,_⟩:=id al;have an:=De T I H;refine Wu λR a=>WG z.m_ U10 om_ (MT I H) fl_ λaH ao=>Ws ao U8<|WI U5 λb9=>WB (j:=0) U12<|Ww [2,7,9,32,33,34] a U<|G.freeze 0 U λ_ _ ap=>U1 1 U λR a=>WA ae U9<|Wt U6<|Ws (bkT ap 2) U8<|WP [[.slice Ax (s.r.f.map dH).length am,ag (qtx s.r.b)]] U12 λaI _ _ aq=>W0 (j:=0) U11 aq.m_ U ay (by show(i+1)*40<=_;omega) fl_ λJ K L=>Wt U6<|WB (j:=2) U12<|Ww [2,7,32,33,34] a U<|Wu λR a=>Wz _ U U6<|C6 1 [2,7,32,33,34] a U<|G.perm (L':=[.arr (sC7 J K L) 140 2 (i+1) (prC (vs.take (i+1)) (l.take (i+1))).flatten,.arr (s_ bz n n) 32 1 n (List.replicate n (ag [48])),.obj t (.cells ⟨[i_ n,.slice J K L,s_ bz n n]⟩ 74 (0,0)),.obj q (.cells ⟨[i_ 0,.slice none 0 0,.slice none 0 0]⟩ 74 (0,0))]) (by rw[an,Ta];(exact pkL [1,1,0,0] U))<|WF (m':=l.length-(i+1)) om_ mup (hn_ [2,7,32,33,34] U) ⟨i+1,J,K,L,om_,U,U,U⟩
 have F:i=l.length:=by
  have:=SJ A;omega
 subst F;refine Wu λR a=>WA ae U9<|WB (j:=3) U12<|C6 1 [2,3] a U ?_;rw[Td (show vs.length<=l.length by omega),SU];refine Xb 3 U<|XY af (λA0 c0 au _=>?_);obtain⟨rfl,rfl,rfl⟩:d=A0/\n1=l.length/\e=c0:=by cases au;exact⟨rfl,rfl,rfl⟩
 refine WE (Y2 0 U U U U U U ?_);exact⟨d,e,bz,vs,by rw[ar];rfl,RowsOk.mono y mup,by rw[ar];rfl⟩
def eJ (s p:Nat)(pt:Nat->Rat):List (List Str):=chunks s p (((List.range (s*p)).map pt).map qtx)
abbrev nB (B:Bk)(RO:Nat->List RowQ):Lp.Sys:=bQ (bs B*bp B) (dS (di B RO))
inductive BuiO (B:Bk) (RO:Nat->List RowQ) (D:Mem):Value->Prop where
|yes (pt:Nat->Rat) (v:Value):(nB B RO).At pt->Lp.CmD (bs B*bp B) 20 pt->(∀j,QB 20 (pt j))->FieldsIn D v (eJ (bs B) (bp B) pt)->BuiO B RO D (.tuple #[v,.agg ⟨[.slice none 0 0]⟩,.bool true,.int .i64 0])
|no (du:Nat->Rat) (vd:Value):Lp.InfR (nB B RO) 20 du->Sl D 1 vd (((List.range (di B RO).length).map du).map aP)->BuiO B RO D (.tuple #[.slice none 0 0,.agg ⟨[vd]⟩,.bool false,.int .i64 0])
theorem IX {p:Lp.Sys}{D:Mem}(h:FeaO p D u):∃(A:Option Addr)(n c:Nat)(A2:Option Addr)(n2 c2:Nat)(a:Bool),u=.tuple #[.slice A n c,.agg ⟨[.slice A2 n2 c2]⟩,.bool a,i_ 0] /\
  ((a=true/\A2=none/\n2=0/\c2=0/\∃pt,p.At pt/\Lp.CmD p.n 20 pt/\(∀j,QB 20 (pt j))/\Sl D 1 (.slice A n c) (((List.range p.n).map pt).map aP)) ∨
  (a=false/\∃du,Lp.InfR p 20 du/\Sl D 1 (.slice A2 n2 c2) (((List.range p.m).map du).map aP))):=by
 cases h with
|yes pt g b d e h1 =>
  obtain⟨A,c,rfl,_⟩:=id h1;exact⟨_,_,_,_,_,_,true,U,.inl ⟨U,U,U,U,pt,b,d,e,h1⟩⟩
|no du i f h1 =>
  obtain⟨A,c,rfl,_⟩:=id h1;exact⟨_,_,_,_,_,_,false,U,.inr ⟨U,du,f,h1⟩⟩
theorem vN (l:List Rat):l.map aP=(l.map qtx).map dE:=by
 rw[TH];rfl
theorem Hj (n:Nat):∀x∈List.replicate n (0:Rat),QB 22 x:=λx a=>by rw[(List.mem_replicate.1 a).2];exact QB_zero.le dc_
theorem yK (a:∀j,QB 20 (pt j)):sJ s p (((List.range (s*p)).map pt).map qtx)=0:=by
 unfold sJ;rw[aL am,S3.2 λx b=>?_]
 .rfl
 obtain⟨q,c,rfl⟩:=SL.1 b;obtain⟨j,_,rfl⟩:=SL.1 c;exact bA ((a j).le dc_)
theorem yf (a:∀j,QB 20 (pt j)):∀x∈((List.range (s*p)).map pt).map qtx,x.length<=999998:=λx b=>by
 obtain⟨q,c,rfl⟩:=SL.1 b;obtain⟨j,_,rfl⟩:=SL.1 c;exact SV (aV (a j) dc_) dc_
theorem IH (C:Mem)(d:Tabs C)(k:Value)(B:Bk)(l:List Rat)(b:Nat->List RowQ)(c:BookIn C k B)(h:Calm B l b) :
  Pur cx.P 26 [k] C λu D=>BuiO B b D u:=by
 have n:=c;have A:=h.rich.bookz d c;have aa:=h.n12;have e:=cK B.obs.length;have E:=h.rowsQ e;have F:=h.q22 e;have H:=h.lim e;obtain⟨v1,v2,tv,cv,ov,rfl,h1,h2,h3,h4,h5⟩:=id c.ex;have ab:=mx_
 refine Wy func26 43 U3 λw0=>Wu λR a=>WH U6 λb1=>Wt U6<|WI U5 λb3=>C6 2 [1,3] a U<|G.freeze 1 U λ_ _ o=>WQ [(1,3)] U λR a=>Ws (bkT o 5) U8<|D.call (iJ _ d.m_ _ B l b n.m_ h) U (.inr dc_) U6 (SQ _) fl_ (λac _ ad _ I=>?_);obtain⟨Ar,cr,bo,vs,rfl,q,rfl⟩:=I;refine Wv 3 U<|WI U5 λb6=>WB (j:=0) U12<|C6 1 [1,3,5,6] a U<|U0 2 [1,3,5,6,14] U<|G.cd (λr=>?_) λr=>?_
 .exact absurd r dc_
 refine G.freezeArr 1 (aB vs (di B b)) U U (cC _ _) (by rw[bI q.1]) (λ_ _ J=>?_);rw[uR];refine G.freezeArr 1 ((List.replicate (bs B*bp B) (0:Rat)).map aP) U U bN am λ_ _ K=>G.freeze 0 U (λL _ M=>?_);have N:=mb (RowsOk.m_ q) (J.mono mup:Sl L 2 _ _);refine Wu λR a=>Ws (bkT M 3) U8<|WT (K4 _ d.m_ (bs B*bp B) _ _ (dS (di B b)) (List.replicate (bs B*bp B) 0) N.m_ K.m_ E (Hj _) F om_ am H) U7 fl_ (λae _ _ O=>?_);obtain⟨Q,S,T,V,nd,cd,t,rfl,v⟩:=IX O;refine Wv 6 U<|WB (j:=0) U12<|C6 2 [1,3,4,5,7] a U<|U1 5 U λR a=>WX U8<|Ww [1,3,5,7,29] a U<|G.cd (λf=>?_) λf=>?_
 .have g:t=false:=by simpa using f
  subst g;obtain⟨du,W,w⟩:∃du,Lp.InfR (nB B b) 20 du/\Sl _ 1 (.slice V nd cd) (((List.range (nB B b).m).map du).map aP):=by
   rcases v with⟨h,_⟩|⟨_,h⟩
   .cases h
   exact h
  refine WM [0,1,2,3,4,5] [] U kr_ λR c a=>WA ah U9<|Wv 2 U<|WB (j:=0) U12<|Wv 2 U<|Ww [2,3,4,5] a U ?_;clear a c R;refine WE (XX ah U7 ?_);refine⟨U,.no du _ W ?_⟩;rw[show(nB B b).m=(di B b).length from ar _]at w;exact w.mono mup
 have g:t=true:=by simpa using f
 subst g;obtain⟨pt,X,Y,i,x⟩:∃pt,(nB B b).At pt/\Lp.CmD (bs B*bp B) 20 pt/\(∀j,QB 20 (pt j))/\Sl _ 1 (.slice Q S T) (((List.range (bs B*bp B)).map pt).map aP):=by
  rcases v with⟨_,_,_,_,h⟩|⟨h,_⟩
  .exact h
  cases h
 rw[vN]at x;have y:=yK (s:=bs B) (p:=bp B) i;refine Wu λR a=>Ws (bkT o 5) U8<|Wt U6<|WT (yO _ d.m_ _ _ B (((List.range (bs B*bp B)).map pt).map qtx) n.m_ A.m_ om_ x.m_ (yf i) ap) U7 fl_ (λaf _ _ Z=>?_);obtain⟨fv,rfl,z⟩:=Z;rw[y,aL rfl]at z;rw[y];refine C6 5 [2,3,5] a U<|U1 1 U λR a=>WL ([.slice none 0 0]) U8<|Wv 4 U<|WB (j:=0) U12<|C6 2 [2,3,4,5] a U<|WE (XX ah U7 ?_);exact⟨U,.yes pt _ X Y i z.m_⟩
open Go Go.Jog Go.Shelf
set_option maxRecDepth 100000
def rM (e:Nat × Nat):List Value:=[.int .i64 e.1,.int .i64 e.2]
def PP (x y:Nat × Nat):Int:=Nh [x.1,x.2] [y.1,y.2]
theorem we {x y:Nat × Nat}:PP x y<0 ↔ ltP x y:=by
 unfold PP ltP;simp only[Nh];split
 .exact⟨λ_=>.inl ‹_›,λ_=>by decide⟩
 split
 .exact⟨λh=>absurd h dc_,λh=>by omega⟩
 split
 .exact⟨λ_=>.inr ⟨by omega,‹_›⟩,λ_=>by decide⟩
 split
 .exact⟨λh=>absurd h dc_,λh=>by omega⟩
 exact⟨λh=>absurd h dc_,λh=>by omega⟩
theorem Mm:Sort.SWO (ltOf PP) where
 irrefl x:=by unfold ltOf;exact Te (λh=>AJ x (we.1 h))
 trans x y z h1 h2:=by
  unfold ltOf at *;simp only[SS] at *;rw[we] at *;unfold ltP at *;omega
 ntrans x y z h1 h2:=by
  unfold ltOf at *;simp only[Tk] at *;rw[we] at *;unfold ltP at *;omega
def DR (ks:List fG)(s:fG):Bool:=decide (s.1<s.2) || !(decide (oR s∈ks))
def my (s:fG):Nat × Nat:=((min s.1 s.2).toNat,(max s.1 s.2).toNat)
def kY (ks:List fG)(seen:List Nat):List (Nat × Nat):=((seen.map λj=>ks.getD j (0,0)).filter (DR ks)).map my
theorem EO {seen:List Nat}{s:fG}(h:ks[j]?=some s):kY ks (seen++[j])=kY ks seen++if DR ks s then [my s] else []:=by
 unfold kY;rw[Tm,Uc,Tm];congr 1;rw[Tq,Ut,al,h,List.filter_cons];split <;> simp_all
theorem I0 {s:fG}(a:0<=s.1)(b:0<=s.2):rM (my s)=[i_ (min s.1 s.2),i_ (max s.1 s.2)]:=by
 unfold rM my;rw[show(((min s.1 s.2).toNat:Nat):Int)=min s.1 s.2 by omega,show(((max s.1 s.2).toNat:Nat):Int)=max s.1 s.2 by omega]
theorem uK (h:∀t∈tris,ox n t):∀s∈bS tris,0<=s.1/\0<=s.2/\s.1.toNat<n/\s.2.toNat<n:=by
 intro s hs;let⟨t,ht,hs⟩:=List.mem_flatMap.1 hs;let⟨h1,h2,h3⟩:=h t ht;simp only[qD,SY,TQ,Vf]at hs;rcases hs with rfl|rfl|rfl <;> simp[oS,F8] <;> omega
structure EdgL (tris:List Tri)(es:List (Nat × Nat)):Prop where
 up:es.Pairwise ltP
 mem:∀e,e∈es ↔ e.1<e.2/\(((e.1:Int),(e.2:Int))∈bS tris∨((e.2:Int),(e.1:Int))∈bS tris)
theorem EdgL.same {a:List (Nat × Nat)}(h:EdgL tris es)(k:EdgL tris a):es=a :=
 FU AJ Lo h.up k.up λe=>(h.mem e).trans (k.mem e).symm
theorem EdgL.ok (h:EdgL tris es)(a:∀t∈tris,ox n t)(s:Nat):EdgeOk s n es:=⟨λe b=>by
 let⟨h1,h2⟩:=(h.mem e).1 b;rcases h2 with h2|h2
 .have:=uK a _ h2;simp only[UD]at this;omega
 have:=uK a _ h2;simp only[UD]at this;omega⟩
theorem EdgL.le (h:EdgL tris es)(a:∀t∈tris,ox n t)(b:n<=6):es.length<=15/\(n<=4->es.length<=6):=K5 b h.up (h.ok a 0).lt
theorem O5 {s t:fG}(a:0<=s.1)(b:0<=s.2)(c:0<=t.1)(d:0<=t.2)(h:my s=my t):s=t∨t=oR s:=by
 let⟨e,f⟩:=s;let⟨g,i⟩:=t;unfold my at h;simp only[UW,oR] at *;omega
theorem Py {l:List (Nat × Nat)}(c:ks.Perm (bS tris))(o:(bS tris).Nodup)(d:∀s∈bS tris,0<=s.1/\0<=s.2)
  (p:l.Perm ((ks.filter (DR (bS tris))).map my)) (q:es.Perm l) (b:es.Pairwise λx y=>ltOf PP y x=false):EdgL tris es:=by
 have k:=q.trans p;have r:ks.Nodup:=c.nodup_iff.2 o;have f:∀s∈ks.filter (DR (bS tris)),s∈bS tris/\DR (bS tris) s=true:=λs b=>by
  let⟨h1,h2⟩:=Uf.1 b;exact⟨c.mem_iff.1 h1,h2⟩
 have u:((ks.filter (DR (bS tris))).map my).Nodup:=by
  rw[List.Nodup,List.pairwise_map];refine(r.filter _).imp_of_mem fun {s t} b ht g v=>?_;let⟨a,k1⟩:=f s b;let⟨m,k2⟩:=f t ht;let⟨i,a2⟩:=d s a;let⟨w,z⟩:=d t m;rcases O5 i a2 w z v with e|e
  .exact g e
  subst e;unfold DR at k1 k2;have j:oR (oR s)=s:=rfl;simp only[j,a,m,decide_true,Bool.not_true,Bool.or_false,SS]at k1 k2;simp only[oR]at k2;omega
 have g:es.Nodup:=k.nodup_iff.2 u;refine⟨?_,λe=>?_⟩
 .refine(List.Pairwise.and g b).imp fun {x y} ⟨h1,h2⟩=>?_;unfold ltOf at h2;have h3:¬ ltP y x:=λh=>absurd (we.2 h) (SJ h2);unfold ltP at h3⊢;let⟨x1,x2⟩:=x;let⟨y1,y2⟩:=y;simp only[ne_eq,UW] at *;omega
 rw[k.mem_iff];constructor
 .intro h;obtain⟨s,b,rfl⟩:=SL.1 h;let⟨a,k1⟩:=f s b;let⟨i,a2⟩:=d s a;have n:s.1≠s.2:=λe=>by
   unfold DR at k1;have j:oR s=s:=by let⟨x,y⟩:=s;simp only[oR] at *;rw[e]
   rw[j]at k1;simp only[a,decide_true,Bool.not_true,Bool.or_false,SS]at k1;omega
  let⟨x,y⟩:=s;unfold my;simp only at i a2 n a⊢;rcases Int.lt_or_gt_of_ne n with h|h
  .refine⟨by omega,.inl ?_⟩;rw[show(((min x y).toNat:Nat):Int)=x by omega,show(((max x y).toNat:Nat):Int)=y by omega];exact a
  refine⟨by omega,.inr ?_⟩;rw[show(((min x y).toNat:Nat):Int)=y by omega,show(((max x y).toNat:Nat):Int)=x by omega];exact a
 rintro ⟨h1,h2⟩;have A:my ((e.1:Int),(e.2:Int))=e:=by
  let⟨x,y⟩:=e;unfold my;simp only[UW] at *;omega
 have B:my ((e.2:Int),(e.1:Int))=e:=by
  let⟨x,y⟩:=e;unfold my;simp only[UW] at *;omega
 by_cases h3:((e.1:Int),(e.2:Int))∈bS tris
 .refine SL.2 ⟨_,Uf.2 ⟨c.mem_iff.2 h3, ?_⟩,A⟩;unfold DR;rw[S4 (by show(e.1:Int)<e.2;omega)];rfl
 have h4:=h2.resolve_left h3;refine SL.2 ⟨_,Uf.2 ⟨c.mem_iff.2 h4, ?_⟩,B⟩;unfold DR;rw[show oR ((e.2:Int),(e.1:Int))=((e.1:Int),(e.2:Int)) from rfl,Te h3,Bool.not_false,Bool.or_true]
theorem yB (C:Mem)(a:Int):Gives cx.P 274 [i_ a] C (.bool false):=by
 exact Wy func274 6 U3 λw0=>U0 1 [0] U<|U0 4 [2] U<|Wx U2<|⟨by simp,U⟩
theorem Bn (C:Mem)(a b:Int):Gives cx.P 216 [i_ a,i_ b] C (i_ (NC a b)):=by
 refine Wy func216 20 U3 λw0=>U0 1 [0,1] U<|U1 1 U λR d=>WD (yB _ _) U7<|C6 1 [0,1,5] d U<|U1 1 U λR d=>WD (yB _ _) U7<|C6 1 [0,1,5,6] d U<|U0 1 [0,1,6,11] U<|G.cd (λf=>?_) λf=>?_
 .cases f
 refine U0 1 [0,1,13] U<|G.cd (λg=>?_) λg=>?_
 .cases g
 refine U0 3 [0,1,16] U<|G.cd (λc=>?_) λc=>?_
 .refine U0 1 [4] U<|Wx U2 ?_;simp only[SS]at c;exact⟨by rw[NC,aL c],U⟩
 refine U0 3 [19] U<|G.cd (λe=>?_) λe=>?_
 .refine U0 1 [4] U<|Wx U2 ?_;simp only[SS,Tk]at c e;exact⟨by rw[NC,aF c,aF om_],U⟩
 refine U0 1 [4] U<|Wx U2 ?_;simp only[Tk]at c e;exact⟨by rw[NC,aF c,aL om_],U⟩
theorem Bo (C:Mem)(v w:Value)(a b:List Nat)(l:Sl C 1 v (a.map aX))(n:Sl C 1 w (b.map aX))(L:a.length<=1000000)(_M:b.length<=1000000) :
  Gives cx.P 148 [v,w] C (i_ (Nh a b)):=by
 obtain⟨A,c,rfl,_⟩:=id l;obtain⟨B,d,rfl,_⟩:=id n;simp only[ar]at l n⊢;refine Wy func148 36 U3 λw0=>U0 1 [0,1] U<|U0 3 [0,1,9,10,11] U<|G.loop (λfr N z D=>∃(k:Nat),(k<=a.length/\k<=b.length/\Nh (a.drop k) (b.drop k)=Nh a b)/\fr=[(0,[],.slice A a.length c),(1,[],.slice B b.length d),(9,[],.slice A a.length c),(10,[],i_ a.length),(11,[],i_ k)]/\z=[]/\D=a.length-k) (hn_ [0,1,9,10,11] U) ⟨0,⟨SM _,SM _,U⟩,U,U,U⟩ (λfr O Q m _ E=>?_);obtain⟨k,⟨S,T,g⟩,rfl,rfl,rfl⟩:=E;refine U0 1 [0,1,9,10,11,12] U<|G.cd (λo=>?_) λo=>?_
 .have h:k<a.length:=by simpa using o
  let⟨x,t⟩:∃x,a[k]?=some x:=⟨a[k],aj h⟩;have F:(a.map aX)[k]?=some (aX x):=by rw[SI,t];rfl
  have p:a.drop k=x::a.drop (k+1):=by rw[Tg h,(R0.1 t).2]
  refine U1 1 U λR f=>WG l.m_ U10 om_ F fl_ λV H=>Ws H U8<|C6 2 [0,1,5,6,9,10,11] f U<|U0 4 [0,1,5,6,9,10,11,19] U<|G.cd (λq=>?_) λq=>?_
  .have i:b.length<=k:=by simpa using q
   have j:b.drop k=[]:=Uq i;exact U0 1 [4] U<|Wx U2<|⟨by rw[<- g,p,j];rfl,U⟩
  have i:k<b.length:=by
   have:¬ b.length<=k:=by simpa using q
   omega
  let⟨y,hy⟩:∃y,b[k]?=some y:=⟨b[k],aj i⟩;have I:(b.map aX)[k]?=some (aX y):=by rw[SI,hy];rfl
  have j:b.drop k=y::b.drop (k+1):=by rw[Tg i,(R0.1 hy).2]
  refine U1 2 U λR f=>WG n.m_ U10 om_ I fl_ λW J=>Ws J U8<|C6 1 [0,1,6,7,9,10,11] f U<|U1 2 U λR f=>WD (Bn _ _ _) U7<|C6 1 [0,1,8,9,10,11] f U<|U0 2 [0,1,8,9,10,11,28] U<|G.cd (λr=>?_) λr=>?_
  .have e:NC x y≠0:=by simpa using r
   refine U0 2 [4] U<|Wx U2<|⟨?_,U⟩;rw[<- g,p,j];simp only[Nh];unfold NC at e⊢;by_cases h1:x<y
   .have h3:(x:Int)<y:=by omega
    rw[aL h1,aL h3]
   have h3:¬ (x:Int)<y:=by omega
   rw[aF h1,aF h3];rw[aF h3]at e;by_cases h2:y<x
   .have h4:¬ (x:Int)=y:=by omega
    rw[aL h2,aF h4]
   have h4:(x:Int)=y:=by omega
   rw[aL h4]at e;exact absurd U e
  have e:NC x y=0:=by simpa using r
  have K:x=y:=by
   unfold NC at e;split at e
   .cases e
   split at e
   .omega
   cases e
  refine Wu λR f=>Wz _ U U6<|C6 1 [0,1,9,10,11] f U<|WF (m':=a.length-(k+1)) om_ mup (hn_ [0,1,9,10,11] U) ⟨k+1,⟨by omega,by omega,by rw[<- g,p,j,K];simp[Nh]⟩,U,U,U⟩
 have h:k=a.length:=by
  have:¬ k<a.length:=by simpa using o
  omega
 subst h;rw[TZ]at g;refine U0 5 [35] U<|G.cd (λs=>?_) λs=>?_
 .have u:a.length<b.length:=by simpa using s
  refine U0 1 [4] U<|Wx U2<|⟨?_,U⟩;rw[<- g,Tg u];rfl
 have u:¬ a.length<b.length:=by simpa using s
 refine U0 1 [4] U<|Wx U2<|⟨?_,U⟩;rw[<- g,Uq om_];rfl
theorem LY (C:Mem)(x y:Nat × Nat):Gives cx.P 147 [.agg ⟨rM x⟩,.agg ⟨rM y⟩] C (i_ (PP x y)):=by
 refine Wy func147 8 U3 λw0=>Wu λR a=>WH U6 λm=>WH U6 λn=>C6 1 [2,3] a U<|G.freeze 1 U λ_ _ f=>G.freeze 0 U (λd _ g=>?_);have e:∀{b:Nat}(z:Nat × Nat){t:TypeId},d b=some (.cells ⟨rM z⟩ t (0,0))->Sl d 1 (s_ b 2 2) (([z.1,z.2]:List Nat).map aX):=λz t h=>Sl.ofBlock (rows:=([z.1,z.2]:List Nat).map aX) (c:=2) h (by intro r hr;obtain⟨y,_,rfl⟩:=SL.1 hr;rfl) (λj v i=>by simpa [rM,aX] using i) (SH _) dc_;have k:=e x (Mem.get f mup);have l:=e y (Mem.get g mup);exact WM [0,1,2,3] [(2,1)] U kr_ λR o a=>XN 0 2 2 U12 (λ_=>⟨.inl ⟨U,U⟩,.inl ⟨U,U⟩,.inl ⟨U,U⟩,by omega,by omega,SH _⟩) U2<|XN 0 2 2 U12 (λ_=>⟨.inl ⟨U,U⟩,.inl ⟨U,U⟩,.inl ⟨U,U⟩,by omega,by omega,SH _⟩) U2<|WN (λ_=>(Bo _ _ _ [x.1,x.2] [y.1,y.2] k.m_ l.m_ (by show 2<=1000000;decide) (by show 2<=1000000;decide))) U9<|C6 1 [4] a U<|Wx U2<|⟨U,U⟩
theorem Kn (C:Mem)(v:Value)(l:List (Nat × Nat))(d:l.length<=1000000):Jog.Fn cx.P 146 [v,.func (.func 147) #[] #[]] C [.arr v 163 2 l.length (l.map rM).flatten]
  λu _e b=>∃a:List (Nat × Nat),u=.tuple #[]/\b=[.arr v 163 2 l.length (a.map rM).flatten]/\a.Perm l/\a.Pairwise (λx y=>ltOf PP y x=false) :=
 zW (P:=cx.P) (T:=tab) Tryz.sortE cx.hT rfl rfl rM fl_ (λx=>rfl) PP Mm 147 [] C (λx y c _=>LY c x y) v 163 l om_ kr_ kr_
abbrev sE (A:Option Addr)(n c:Nat):Value:=.slice A n c
theorem LX (l:List (Nat × Nat)):∀r∈l.map rM,r.length=2:=λr hr=>by obtain⟨y,_,rfl⟩:=SL.1 hr;rfl
theorem xx (b:List fG)(a:List Nat):(kY b a).length<=a.length:=by
 unfold kY;rw[ar];refine SV (Ul _ _) ?_;rw[ar];exact SH _
theorem pr (C:Mem)(hT:Tabs C)(N:Value)(B:List Pt)(f:List Tri)(O:MeshIn C N B f)(E:Good B f) :
  Pur cx.P 76 [N] C λu D=>∃es v,u=.tuple #[v,i_ 0]/\EdgL f es/\Sl D 2 v (es.map rM):=by
 have n:=E.ok;have ag:=O;obtain⟨v1,v2,rfl,h1,h2⟩:=id O.ex;have aA:=mx_
 have x:=uK n.ins;have ai:=nM f;have aB:=n.lt;refine Wy func76 63 U3 λw0=>Wu λR c=>WH U6 λb1=>C6 2 [1] c U<|G.freeze 0 U λ_ _ Q=>Wu λR c=>Ws (bkT Q 2) U8<|WD (ie _ hT.m_ _ B f ag.m_ E) U7<|C6 1 [1,4] c U<|U0 2 [1,4,14] U<|G.cd (λS=>?_) λS=>?_
 .exact absurd S dc_
 refine Wu λR c=>Ws (bkT Q 2) U8<|WY (yk _ _ _ f E.ne h2.m_ (tC n.sides)) U7 (λaC _ _ ak=>?_);obtain⟨b,rfl,g⟩:=ak;let⟨m,T⟩:∃m,yl f f.length=m:=⟨_,rfl⟩;have y:m.map (·.1)=bS f:=by
  have:=fV n.sides f.length (SH _);rw[SU,T]at this;exact this
 rw[T]at g;let⟨ks,z⟩:∃ks,bS f=ks:=⟨_,rfl⟩;rw[z]at y x ai;have V:ks.length=m.length:=by rw[<- y];simp
 have W:∀s:fG,(eh m (s.2,s.1)).isSome=decide (oR s∈ks):=λs=>by
  have:=Do (m:=m) (s:=s);rw[y]at this;rw[this];unfold jM;rw[Bool.not_not]
 refine C6 5 [5] c U<|U0 1 [5,7] U<|U1 1 U λR c=>Yd kI2.enc (Mem.get g mup) U U U U U U U fl_ λA=>Ww [5,7,22] c U<|G.nilArr 163 2<|G.loop (λfr C' F μ=>∃(seen:List Nat)(o:Option Addr)(n1 r:Nat),(seen.Nodup/\(∀j∈seen,j<ks.length))/\fr=[(5,[],.map (some b)),(7,[],.slice o n1 r),(22,[],p_ A)]/\F=[.arr (sE o n1 r) 163 2 (kY ks seen).length ((kY ks seen).map rM).flatten,.obj A (bl b m.length seen)]/\μ=ks.length-seen.length) (hn_ [5,7,22] U) ⟨[],none,0,0,⟨List.nodup_nil,by simp⟩,U,U,U⟩ (λfr aD aE m _ hI=>?_);obtain⟨seen,o,n1,r,⟨H,I⟩,rfl,rfl,rfl⟩:=hI;refine Wu λR c=>Yg kI2.enc (q:=1) (Mem.get g mup) U U U U U U fl_ λX aF k Y=>C6 1 [5,7,22,24] c U<|G.cd (λt=>?_) λt=>?_
 .obtain⟨aG,j,Z,al,rfl⟩:X=true/\∃j,j<m.length/\j ∉ seen/\k=seen++[j]:=by
   rcases Y with⟨h1,_⟩|h1
   .rw[h1]at t;cases t
   exact h1
  rw[<- V]at Z;let⟨⟨s,bv⟩,hs⟩:∃p,m[j]?=some p:=⟨m[j]'om_,aj om_⟩;have aa:ks[j]?=some s:=by rw[<- y,SI,hs];rfl
  have J:(seen++[j]).Nodup:=by
   rw[Un];exact⟨H,by simp,λa ha b g e=>by rw[S6.1 g]at e;subst e;exact al ha⟩
  have K:∀i∈seen++[j],i<ks.length:=λi w=>by
   rcases SZ.1 w with h|h
   .exact I i h
   rw[S6.1 h];exact Z
  have am:(seen++[j]).length<=ks.length:=by
   have:=List.Nodup.length_le_of_subset J (l₂:=List.range ks.length) (λi w=>S7.2 (K i w));simpa using this
  have aH:(seen++[j]).length=seen.length+1:=by simp
  have l:=EO aa (seen:=seen);let⟨an,ao,_⟩:=x s (aK aa);have ap:=xx ks seen;refine Wu λR c=>Ye kI2.enc (Mem.get g mup) hs ah U U U U U U U<|Wt U6<|WI U5 λb8=>WB (j:=0) U12<|Ww [5,7,8,22] c U<|U1 1 U λR c=>WO (1) U9 k_ U2<|WA ah U9<|WO (0) U9 k_ U2<|WA ah U9<|WL [i_ s.2,i_ s.1] U8<|Yk kI2 (λ_=>(Mem.get g mup)) U U U U U U U U U (mE _ (eh m (s.2,s.1))) U U<|C6 5 [5,7,8,10,22] c U<|Wu λR c=>WO (0) U9 k_ U2<|WA ah U9<|WO (1) U9 k_ U2<|WA ah U9<|Wv 4 U<|WX U8<|Ww [5,7,8,22,45] c U<|G.cd (λL=>?_) λL=>?_
  .have M:DR ks s=true:=by
    unfold DR;rw[<- W];exact L
   rw[M,aL rfl]at l;have aI:(kY ks (seen++[j])).length=(kY ks seen).length+1:=by rw[l];simp
   refine U1 1 U λR c=>WO (0) U9 k_ U2<|WA ah U9<|WO (1) U9 k_ U2<|WA ah U9<|D.min (min s.1 s.2) U6 U U2<|WO (0) U9 k_ U2<|WA ah U9<|WO (1) U9 k_ U2<|WA ah U9<|D.max (max s.1 s.2) U6 U U2<|WL [i_ (min s.1 s.2),i_ (max s.1 s.2)] U8<|WP [[i_ (min s.1 s.2),i_ (max s.1 s.2)]] U12 λaJ _ _ aq=>W0 (j:=2) U11 aq.m_ U ay (by simp only[SN];omega) fl_ λab ac ad=>C6 1 [5,7,22] c U<|Xb 1 U<|WK (L':=[.arr (sE ab ac ad) 163 2 (kY ks (seen++[j])).length ((kY ks (seen++[j])).map rM).flatten,.obj A (bl b m.length (seen++[j]))]) (by rw[l,Tm,Ta,<- I0 an ao];simp)<|WF (m':=ks.length-(seen++[j]).length) om_ mup (hn_ [5,7,22] U) ⟨seen++[j],ab,ac,ad,⟨J,K⟩,U,U,U⟩
  have M:DR ks s=false:=by
   unfold DR;rw[<- W];exact L
  rw[M]at l;simp only[TG,Ui,S8]at l;refine Xb 0 U<|G.perm (L':=[.arr (sE o n1 r) 163 2 (kY ks (seen++[j])).length ((kY ks (seen++[j])).map rM).flatten,.obj A (bl b m.length (seen++[j]))]) (by rw[l];exact List.Perm.swap _ _ _)<|WF (m':=ks.length-(seen++[j]).length) om_ mup (hn_ [5,7,22] U) ⟨seen++[j],o,n1,r,⟨J,K⟩,U,U,U⟩
 obtain⟨aM,rfl,ae⟩:X=false/\k=seen/\∀j,j<m.length->j∈seen:=by
  rcases Y with h1|⟨h1,_⟩
  .exact h1
  rw[h1]at t;cases t
 rw[<- V]at ae;have hp:=qG (d:=((0:Int),(0:Int))) H I ae;have ap:=xx ks k;have am:k.length<=ks.length:=by
  have:=List.Nodup.length_le_of_subset H (l₂:=List.range ks.length) (λi w=>S7.2 (I i w));simpa using this
 refine Xb 0 U<|WQ [(1,3)] U λR c=>Wt U6<|D.call (Kn _ _ (kY ks k) om_) U (.inr dc_) U6 (SQ _) fl_ λaN _ aO _ au=>Ww [7] c U ?_;obtain⟨es,rfl,rfl,af,av⟩:=au;have aw:EdgL f es:=Py (ks:=k.map λj=>ks.getD j (0,0)) (by rw[z];exact hp) n.sides (λs hs=>by rw[z]at hs;exact⟨(x s hs).1,(x s hs).2.1⟩) (by rw[z];exact SQ _) af av;have ax:es.length=(kY ks k).length:=af.length_eq;refine U0 3 [2,3] U<|G.freezeArr 0 (es.map rM) U U (LX es) (by rw[ar,ax]) λCf aP az=>WE (zD U3 ?_);exact⟨U,es,_,U,aw,az⟩
theorem OF {q:Rat}(h:q.den=1):q=(q.num:Rat):=Rat.ext rfl h
def wlB (D:Int)(q:Rat):Bool:=decide ((q*(D:Rat)).den=1) && decide ((q*(D:Rat)).num.natAbs<=999999999)
theorem Gp {D:Int}{q:Rat}(h:wlB D q=true):Wl D q:=by
 unfold wlB at h;simp only[S1,SS]at h;exact⟨_,OF h.1,h.2⟩
theorem KK (D:Int)(a:D≠0)(c:D.natAbs<=999999999)(h:(r.f.all (wlB D) && wlB D r.b)=true):RowI r:=by
 simp only[S1,S3]at h;exact⟨D,a,c,λq d=>Gp (h.1 q d),Gp h.2⟩
def xP (i:Nat):Pt:=if i<2 then (3,0) else if i=2 then (0,0) else (6,0)
def xD (i:Nat):Rat:=if i=1 then 5 else if i=3 then 1 else 4
def xX (i:Nat):Str:=if i=1 then [53] else if i=3 then [49] else [52]
def xN (i:Nat):Str:=if i % 2=0 then [97] else [98]
def xO (i:Nat):Obs:=⟨2,xN i,qtx (xP i).1,qtx (xP i).2,xX i,[66],[65],[],[],[]⟩
def xT (i:Nat):Obs:=⟨2,xN i,if i<2 then [51] else if i=2 then [48] else [54],[48],xX i,[66],[65],[],[],[]⟩
def xB (l:List Nat):Bk:=⟨[(0,0),(6,0),(0,4)],[(0,1,2)],[[49,48],[49,48],[49,48]],[⟨[65],0,none⟩,⟨[66],0,none⟩],l.map xO⟩
def xFs:List Rat:=[10,10,10]
theorem Hr:qtx 3=[51]:=iw (z:=3) aq
theorem M7:qtx 4=[52]:=iw (z:=4) aq
theorem Q4:qtx 10=[49,48]:=iw (z:=10) aq
theorem xX_e (i:Nat):qtx (xD i)=xX i:=by
 unfold xD xX;split
 .exact KQ
 split
 .exact fT
 exact M7
theorem JX (i:Nat):xO i=xT i:=by
 unfold xO xT xP;split
 .simp only[Hr,qtx_zero]
 split <;> simp only[qtx_zero,q6]
theorem MM:∀i<4,QB 22 (xD i)/\QB 22 (xP i).1/\QB 22 (xP i).2/\QB 22 (10-xD i)/\QP 23 (xP i):=by decide +kernel
theorem NR (i:Nat)(a:i<4):dx (xX i)=xD i:=OG (xD i) (xX_e i) (MM i a).1
theorem R9 (i:Nat)(a:i<4):aS (xX i)=true:=by rw[<- xX_e];exact bA (MM i a).1
theorem x_pt (i:Nat)(a:i<4):ptO (xO i)=xP i:=by
 unfold ptO;show(dx (qtx (xP i).1),dx (qtx (xP i).2))=xP i;rw[de (bA (MM i a).2.1),de (bA (MM i a).2.2.1)]
theorem J4:∀i<4,lu (xB []).pts (xB []).tris (xP i)=[0]:=by decide +kernel
theorem x_sh:∀i<4,ek (xT i)=0:=by decide +kernel
theorem Qn:∀i<4,Gw (xB []).col (xT i)=false/\ordB (xB []).col (xT i)=false/\J3 (xT i)=false/\0<=ic (isU (xT i).upper) (xB []).col 0:=by decide +kernel
theorem R6:∀i<4,decide (xD i<0)=false:=by decide +kernel
theorem x_ov (i:Nat)(a:i<4):gm (xB []).pts (xB []).tris (xB []).col (xO i)=0:=by
 let⟨h1,h2,h3,_⟩:=Qn i a;unfold gm;rw[aF (by rw[JX i,x_sh i a];decide),aF (by unfold Mi;rw[x_pt i a,J4 i a];decide),aF (by rw[JX i,h1];decide),aF (by rw[JX i,h2];decide),aF (by
  unfold depB;rw[show(xO i).depth=xX i from rfl,NR i a,R6 i a,Bool.and_false];decide),aF (by rw[JX i,h3];decide)]
theorem x_on:∀i<4,onQ (xB []).pts xFs (0,1,2) (xP i)=10:=by decide +kernel
theorem Qm (i:Nat)(a:i<4):F7 (xB []).pts (xB []).tris xFs (xP i)=.tuple #[ag (qtx 10),i_ 0]:=by
 unfold F7;rw[J4 i a];show E8 (onQ (xB []).pts xFs (0,1,2) (xP i))=_;rw[x_on i a];unfold E8;rw[aL (bA aq)]
theorem x_w3:∀i<4,∀j<3,QB 22 (wgt (xB []).pts (0,1,2) (xP i) j):=by decide +kernel
theorem x_w (i:Nat)(a:i<4)(j:Nat):QB 22 (wgt (xB []).pts (0,1,2) (xP i) j):=by
 rw[NU];exact x_w3 i a _ (Ts _ dc_)
theorem x_sl:∀j,QP 22 (slf (xB []).pts (0,1,2) j):=by
 intro j;unfold slf;rw[Kd];rcases(by omega:min j 2=0∨min j 2=1∨min j 2=2) with h|h|h <;> rw[h] <;> decide +kernel
theorem Qr:Good (xB []).pts (xB []).tris:=(II aq dc_ dc_ dc_).1
def xW (i:Nat):List Rat:=if i<2 then [1/2,1/2,0] else if i=2 then [1,0,0] else [0,1,0]
def xR (i:Nat):List RowQ:=[⟨xW i,10-xD i⟩,⟨(xW i).map (-1*·), -(10-xD i)⟩]
theorem NO:∀i<4,((cT (xB []).col (xT i)).flatMap λk=>[1, -1].map (ir (bs (xB [])) (bp (xB [])) k (atT (0,1,2) (wgt (xB []).pts (0,1,2) (xP i))) (10-xD i)))=xR i:=by decide +kernel
theorem MK (l:List Nat)(i:Nat)(a:i<4):rowsO (xB l) (xO i) (xP i) (0,1,2) 10=xR i:=by
 unfold rowsO;rw[aF (by show ¬ ((2:Int)=1);decide),aL (by rfl)];unfold lM;rw[show(xO i).depth=xX i from rfl,NR i a,JX i];exact NO i a
theorem Qp:∀i<4,∀r∈xR i,Qh r:=by unfold Qh;decide +kernel
theorem ML (i:Nat)(a:i<4):∀r∈xR i,RowI r:=by
 have:∀i<4,∀r∈xR i,(r.f.all (wlB 2) && wlB 2 r.b)=true:=by decide +kernel
 exact λr hr=>KK 2 dc_ dc_ (this i a r hr)
theorem R5 (i:Nat)(a:i<4):ObsR (xO i):=by
 have:∀i<4,(xT i).name.length<=9/\(xT i).x.length<=9/\(xT i).y.length<=9/\(xT i).depth.length<=9:=by decide +kernel
 let⟨h1,h2,h3,h4⟩:=this i a;rw[JX i];exact⟨by omega,by omega,by omega,by omega,(by decide:1<=999998),(by decide:1<=999998),(by decide:0<=999998),(by decide:0<=999998),(by decide:0<=999998)⟩
theorem NT {o:Obs}(h:(xB l).obs[k]?=some o):∃i,l[k]?=some i/\o=xO i:=by
 have a:(l.map xO)[k]?=some o:=h;rw[SI]at a;cases b:l[k]? with
|none=>rw[b]at a;cases a
|some i=>rw[b]at a;exact⟨i,rfl,(Ue a).symm⟩
structure XOk (l:List Nat):Prop where
 lt:∀i∈l,i<4
 nd:(l.map xN).Nodup
 len:l.length<=4
theorem MN {l:List Nat}(b:XOk l):∀n,n<=l.length->wE (xB l) n=0
|0,_=>rfl
|n+1,m=>by
  have d:=MN b n om_;show(if wE (xB l) n≠0 then wE (xB l) n else obZ (xB l) ((xB l).obs.take n) ((xB l).obs.getD n Lf))=0;rw[aF (by rw[d];decide)];have c:l[n]?=some l[n]:=aj om_;have f:(xB l).obs.getD n Lf=xO l[n]:=Ng (by
   show(l.map xO)[n]?=_;rw[SI,c];rfl)
  rw[f];unfold obZ;rw[aF (by rw[show gm (xB l).pts (xB l).tris (xB l).col (xO l[n])=0 from x_ov _ (b.lt _ (TC _))];decide),aF λhm=>?_];let⟨o,g,e⟩:=SL.1 hm;let⟨j,a⟩:=Uh g;rw[TA]at a;split at a
  .rename_i p;obtain⟨i,h,rfl⟩:=NT a;have k:xN i=xN l[n]:=e;have h1:(l.map xN)[j]?=some (xN l[n]):=by rw[SI,h];exact congrArg some k
   have h2:(l.map xN)[n]?=some (xN l[n]):=by rw[SI,c];rfl
   have:=(List.getElem?_inj (by rw[ar];omega) b.nd).1 (h1.trans h2.symm);omega
  cases a
theorem pO (l:List Nat):(xB l).obs.length=l.length:=by simp[xB]
theorem Sb (a:XOk l):iX (xB l)=0:=by
 unfold iX;have:=a.len;rw[aF (by show ¬ (oK (xB []).pts.length (xB []).terr≠0);decide +kernel),aF (by show ¬ (sN (xB []).col≠0);decide +kernel),aF (by rw[pO];omega),pO];exact MN a _ (SH _)
theorem Sc (b:XOk l):BookR (xB l):=by
 refine⟨by show ∀x∈(xB []).terr,_;decide, ?_,by show(xB []).col.length<=_;decide,λo c=>?_⟩
 .intro x a;simp only[xB,SY,TQ,Vf]at a;rcases a with rfl|rfl
  .exact⟨by decide +kernel,λq h=>by simp at h,by decide⟩
  exact⟨by decide +kernel,λq h=>by simp at h,by decide⟩
 let⟨k,d⟩:=Uh c;obtain⟨i,e,rfl⟩:=NT d;exact R5 i (b.lt i (aK e))
theorem Qt (l:List Nat)(i:Nat)(a:i<4):Fine (xB l) xFs (xO i) (xP i) 0 (0,1,2) 10:=by
 let⟨f,b,c,d,e⟩:=MM i a;refine⟨⟨U,U,e,⟨bA b,bA c⟩,λ_=>R9 i a⟩,⟨[],J4 i a⟩,U,Qm i a,by decide +kernel, ?_,x_w i a, ?_,x_sl,λ_ h=>absurd U h, ?_⟩
 .unfold lM;rw[aL (by rfl),show(xO i).depth=xX i from rfl,NR i a];exact d
 .exact(Qn i a).2.2.2
 rw[MK l i a];exact Qp i a
theorem Qo (l:List Nat):Terr (xB l) xFs:=⟨by simp[xB,xFs,Q4],rfl,by decide +kernel⟩
def xRO (l:List Nat)(k:Nat):List RowQ:=xR (l.getD k 0)
theorem zJ (b:XOk l):Calm (xB l) xFs (xRO l):=by
 have c:∀k,k<l.length->l.getD k 0<4:=λk d=>by
  rw[al,aj d];exact b.lt _ (TC _)
 have h4:=b.len;refine⟨⟨Qr,Sc b,Sb b,Qo l,(by decide:3<=60),λk o e=>?_⟩,(by decide:3<=12),λr hr=>?_,λi a=>ML _ (c i (by rw[pO]at a;exact a)), ?_,λi a=>(by show 2<=8;decide),by rw[pO];omega⟩
 .obtain⟨i,a,rfl⟩:=NT e;have h1:=b.lt i (aK a);refine⟨_,_,_,_,Qt l i h1, ?_⟩;rw[MK l i h1,xRO,al,a];rfl
 .have:bM (xB l)=[]:=rfl;rw[this]at hr;cases hr
 have:bM (xB l)=[]:=rfl;rw[this];decide
theorem ok0:XOk [0]:=⟨by decide,by decide,by decide⟩
theorem ok01:XOk [0,1]:=⟨by decide,by decide,by decide⟩
theorem ok23:XOk [2,3]:=⟨by decide,by decide,by decide⟩
theorem rows0:di (xB [0]) (xRO [0])=xR 0:=by rw[di,jY,pO];rfl
theorem QU:di (xB [0,1]) (xRO [0,1])=xR 0++xR 1:=by rw[di,jY,pO];rfl
theorem QT:di (xB [2,3]) (xRO [2,3])=xR 2++xR 3:=by rw[di,jY,pO];rfl
theorem R7:Lp.Val (bQ 3 (dS (xR 0))) (λj=>([1/2,1/2,0]:List Rat).getD j 0) 1 6:=by
 refine .inl ⟨U,⟨λ_=>6,gj.2 aq,by decide +kernel⟩,λy hy=>?_⟩;have h1:=gj.1 hy ⟨[-1/2, -1/2,0], -6⟩ aq;show _<=Lp.sumN _ 3;simp only[Lp.sumN,al,List.getElem?_cons_zero,Uw,T6]at h1⊢;grind
theorem Qq:Lp.Val (bQ 3 (dS (xR 0))) (λj=>([-1/2, -1/2,0]:List Rat).getD j 0) 1 (-6):=by
 refine .inl ⟨U,⟨λ_=>6,gj.2 aq,by decide +kernel⟩,λy hy=>?_⟩;have h1:=gj.1 hy ⟨[1/2,1/2,0],6⟩ aq;show _<=Lp.sumN _ 3;simp only[Lp.sumN,al,List.getElem?_cons_zero,Uw,T6]at h1⊢;grind
theorem x_no:¬ (bQ 3 (dS (xR 0++xR 1))).Hold:=by
 rintro ⟨y,hy⟩;have h1:=gj.1 hy ⟨[-1/2, -1/2,0], -6⟩ aq;have h2:=gj.1 hy ⟨[1/2,1/2,0],5⟩ aq;simp only[Lp.sumN,al,List.getElem?_cons_zero,Uw,T6]at h1 h2;grind
def es3:List (Nat × Nat):=[(0,1),(0,2),(1,2)]
theorem Rw:EdgL [(0,1,2)] es3:=by
 refine⟨by simp[es3,ltP],λe=>?_⟩;rw[show bS [(0,1,2)]=[(0,1),(1,2),(2,0)] from rfl];let⟨x,y⟩:=e;simp only[es3,SY,TQ,Vf,UW];omega
theorem Rv:EdgeOk 1 3 es3:=⟨by decide⟩
theorem Qs:Lp.Val (bQ (1*3+1*es3.length) (dS (sD (xR 2++xR 3) (1*3) 3 es3 (1*es3.length)))) (λj=>(kI (1*3) (1*es3.length)).getD j 0) 1 6:=by
 refine .inl ⟨U,⟨λj=>([6,9,6,3,0,3]:List Rat).getD j 0,gj.2 aq,by decide +kernel⟩,λy hy=>?_⟩;let⟨h0,h2⟩:=(CS Rv aq).1 hy;have h1:=gj.1 h0 ⟨[1,0,0],6⟩ aq;have h3:=gj.1 h0 ⟨[0, -1,0], -9⟩ aq;have k0:=zx.1 (h2 0 dc_);have k1:=zx.1 (h2 1 dc_);have k2:=zx.1 (h2 2 dc_);rw[show FF 3 es3 y 0=y 0-y 1 from rfl]at k0;rw[show FF 3 es3 y 1=y 0-y 2 from rfl]at k1;rw[show FF 3 es3 y 2=y 1-y 2 from rfl]at k2;rw[show Lp.sumN (λj=>(kI (1*3) (1*es3.length)).getD j 0*y j) (bQ (1*3+1*es3.length) (dS (sD (xR 2++xR 3) (1*3) 3 es3 (1*es3.length)))).n=_ from vh (h:=1*3) (more:=1*es3.length)];show _<=Lp.sumN (λk=>y (3+k)) 3;simp only[UU,Lp.sumN,al,List.getElem?_cons_zero,Uw,T6,Um,Nat.reduceAdd]at h1 h3 k0 k1 k2⊢;grind
abbrev tq (q:Rat):Value:=ag (qtx q)
theorem pZ (l:List Rat):(l.map aP).flatten=l.map tq:=eF tq l
theorem iq {l:List Rat}(h:i<l.length):aC (l.map tq) [tq x] i=(l.set i x).map tq:=by
 rw[List.set_eq_take_append_cons_drop,aL h];unfold aC;simp[List.map_drop]
theorem Hh (n:Nat):List.replicate n (ag [48])=(List.replicate n (0:Rat)).map tq:=by rw[uR,pZ]
def EA (n a:Nat)(t:Tri)(w:Nat->Rat):Nat->List Rat
|0=>List.replicate n 0
|j+1=>(EA n a t w j).set (a+pY t j) (w j)
theorem lT (n a:Nat)(t:Tri)(w:Nat->Rat):∀j,(EA n a t w j).length=n
|0=>Tf
|j+1=>by rw[EA,TB,lT n a t w j]
theorem J7 (C:Mem)(k:Tabs C)(e:Value)(B:Bk)(M:List Rat)(N:Nat->List RowQ)(s:Nat)(p:Pt)(i:Nat)(r:List Nat)(t:Tri)(b:BookIn C e B)(h:Calm B M N)(O:s<bs B)(x:QP 23 p)(y:PtR p)
  (Q:lu B.pts B.tris p=i::r) (l:B.tris[i]?=some t) (S:∀j,QB 22 (wgt B.pts t p j)) :
  Pur cx.P 59 [e,i_ s,ptV p] C λu D=>∃v,u=.tuple #[v,i_ 0]/\Sl D 1 v ((EA (bs B*bp B) (s*bp B) t (wgt B.pts t p) 3).map aP):=by
 have T:=b;have o:=h.rich.good;have V:=h.rich.bookz k b;have W:=h.n12;have X:=o.ok.ins t (aK l);have q:∀D:Mem,C.le D->Gives cx.P 92 [e] D (.tuple #[i_ (bs B*bp B:Nat),i_ 0]):=λD Y=>by
  have h:=Bl D e B 0 (V.mono Y) om_;rw[aL rfl]at h;exact h
 obtain⟨z,A,tv,cv,ov,rfl,h1,h2,h3,h4,h5⟩:=id b.ex;have hm:MeshIn C (.agg ⟨[z,A]⟩) B.pts B.tris:=⟨z,A,rfl,h1,h2⟩;obtain⟨A1,c1,rfl,Z,_⟩:=id h1;obtain⟨A2,c2,rfl,aa,_⟩:=id h2;have ab:(B.pts.map gM).length=bp B:=ar _;have ac:(B.tris.map jJ).length=B.tris.length:=ar _;simp only[ab,ac]at h1 Z h2 aa hm T q⊢;have ao:=mx_
 let⟨n,E⟩:∃n,bs B*bp B=n:=⟨_,rfl⟩;have c:∀j,s*bp B+pY t j<n:=λj=>by rw[<- E];exact Dx O (fM X j)
 rw[E]at q W⊢;have aq:=c 0;have au:=c 1;have av:=c 2;refine Wy func59 78 U3 λw0=>?_;refine Wu λR a=>?_;refine WH U6 (λb3=>?_);refine WH U6 (λb5=>?_);refine C6 2 [1,3,5] a U ?_;clear a R;refine G.freeze 1 U (λ_ _ d=>?_);refine G.freeze 0 U (λ_ _ F=>?_);refine Wu λR a=>?_;refine Ws (bkT d 5) U8 ?_;refine WD (q _ mup) U7 ?_;refine C6 5 [1,3,5,8,9] a U ?_;clear a R;refine U0 2 [1,3,5,8,9,21] U ?_;refine G.cd (λH=>?_) λH=>?_
 .exact absurd H dc_
 refine U1 1 U λR a=>?_;refine Ws (bkT d 2) U8 ?_;refine Ws (bkT F 2) U8 ?_;refine WY (mG _ k.m_ _ B.pts B.tris p hm.m_ o x y) U7 (λaw _ _ ad=>?_);obtain⟨wv,rfl,g⟩:=ad;rw[Q]at g;obtain⟨Aw,cw,rfl,_⟩:=id g;refine C6 5 [1,3,5,8,9,10] a U ?_;clear a R;refine U0 2 [1,3,5,8,9,10,31] U ?_;refine G.cd (λI=>?_) λI=>?_
 .exact absurd I dc_
 refine U0 3 [1,3,5,8,10,35] U ?_;refine G.cd (λJ=>?_) λJ=>?_
 .exact absurd (aT J) ap
 refine WM [0,1,2,3,4,5,6,7,8,9,10,11,12] [(6,1)] U kr_ (λR b a=>?_);refine Wt U6 ?_;refine Ws (bkT d 2) U8 ?_;refine Wt U6 ?_;refine WG g.m_ U10 om_ (rfl:(List.map aX (i::r))[0]?=some (aX i)) fl_ (λax ae=>?_);refine Ws ae U8 ?_;refine Ws (bkT F 2) U8 ?_;refine W5 (λ_=>(xu _ k.m_ _ B.pts B.tris p i t hm.m_ o x y l S)) U9 ?_;refine Wv 3 U ?_;refine WI U5 (λaf=>?_);refine WB (j:=0) U12 ?_;refine Wt U6 ?_;refine Ww [1,3,8,9,10,11] a U ?_;clear a b R;refine U0 2 [1,3,8,9,10,11,47] U ?_;refine G.cd (λK=>?_) λK=>?_
 .exact absurd K dc_
 refine WQ [(1,3)] U (λR a=>?_);refine Wt U6 ?_;refine D.call (mO _ n om_) U (.inr dc_) U6 (SQ _) fl_ (λay _ az _ ag=>?_);refine C6 1 [1,3,10,11,12] a U ?_;clear a R;obtain⟨bz,rfl,rfl⟩:=ag;refine G.freeze 1 U (λ_ _ ah=>?_);refine WM [0,1,2,3,4,5,6,7,8] [] U kr_ (λR b a=>?_);refine Wv 2 U ?_;refine Ws (bkT d 1) U8 ?_;refine Wt U6 ?_;refine WG g.m_ U10 om_ (rfl:(List.map aX (i::r))[0]?=some (aX i)) fl_ (λaA ai=>?_);refine Ws ai U8 ?_;refine WG h2.m_ U10 om_ (by rw[SI,l];rfl:(B.tris.map jJ)[i]?=some (jJ t)) fl_ (λaB aj=>?_);refine Ws aj U8 ?_;refine Wt U6 ?_;refine Ww [1,3,11,12,58,59] a U ?_;clear a b R;refine WK (L':=[.arr (s_ bz n n) 32 1 n ((EA n (s*bp B) t (wgt B.pts t p) 0).map tq)]) (by rw[Hh];rfl) ?_;refine G.loop (λfr C' w μ=>∃(j:Nat),(j<=3)/\fr=[(1,[],i_ s),(3,[],p_ b3),(11,[],p_ af),(12,[],s_ bz n n),(58,[],.agg ⟨jJ t⟩),(59,[],i_ j)]/\w=[.arr (s_ bz n n) 32 1 n ((EA n (s*bp B) t (wgt B.pts t p) j).map tq)]/\μ=3-j) (hn_ [1,3,11,12,58,59] U) ⟨0,SM _,U,U,U⟩ (λfr ak aC m _ hI=>?_);obtain⟨j,hj,rfl,rfl,rfl⟩:=hI;refine U0 1 [1,3,11,12,58,59,60] U ?_;refine G.cd (λh60=>?_) λh60=>?_
 .have L:j<3:=by
   have:=aT h60;omega
  have al:=MO (f:=wgt B.pts t p) (Mem.get (D:=ak) ah mup) L;have aD:=c j;refine U1 1 U λR a=>?_;refine Xx U11 (λ_=>⟨by omega,by omega,zP t (j:=j) L⟩) U2 ?_;refine C6 2 [1,3,11,12,13,14,58,59] a U ?_;clear a R;refine WM [0,1,2,3,4,5,6,7,8,9,10,11,12,13] [(11,0)] U kr_ (λR b a=>?_);refine Wv 4 U ?_;refine Ws (bkT d 1) U8 ?_;refine Wt U6 ?_;refine Wz (((s*bp B:Nat):Int)) (Tc _ _) U6 ?_;refine Wt U6 ?_;refine WW (((s*bp B+pY t j:Nat):Int)) U4 om_ om_ om_ U2 ?_;refine Wt U6 ?_;refine WO (j) U9 (λ_=>⟨by omega,by omega,by show j=0+(j:Int).toNat*1;omega⟩) U2 ?_;refine W9 (λ_=>(al.mono b)) U9 ?_;refine WV ((s*bp B+pY t j)) U10 (λ_=>⟨by omega,by omega,(T0 _).symm⟩) U2 ?_;refine WZ (j:=0) U11 (by rw[ar,lT];have:=c j;simp;omega) ?_;refine Ww [1,3,11,12,58,59] a U ?_;clear a b R;refine Wu λR a=>?_;refine Wz _ U U6 ?_;refine C6 1 [1,3,11,12,58,59] a U ?_;clear a R;refine WK (L':=[.arr (s_ bz n n) 32 1 n ((EA n (s*bp B) t (wgt B.pts t p) (j+1)).map tq)]) (by rw[iq (by rw[lT];exact c j)];rfl) ?_;refine WF (m':=3-(j+1)) om_ mup (hn_ [1,3,11,12,58,59] U) ⟨j+1,by omega,U,U,U⟩
 have am:j=3:=by
  have:=SJ h60;omega
 subst am;refine U0 3 [6,7] U ?_;rw[<- pZ];refine G.freezeArr 0 ((EA n (s*bp B) t (wgt B.pts t p) 3).map aP) U U bN (by rw[ar,lT]) (λCf aE an=>?_);refine WE (zD U3 ?_);exact⟨U,_,U,an⟩
theorem xl {A B:List Value}{x:Value}(h:A.length=j):aC (A++x::B) [v] j=A++v::B:=by
 subst h;unfold aC;rw[List.take_left,SN];have:List.drop (A.length+1) (A++x::B)=B:=by rw[VE];simp
 rw[this];simp
theorem HA (C:Mem)(G:Tabs C)(n:Nat)(l d:Value)(b:List (List Rat × Rat))(a:List Rat)(H:RowsT C l (b.map dw))(I:RowsQ n b)(J:∀x∈a,QB 22 x)(K:∀r∈b,(∀x∈r.1,QB 22 x)/\QB 22 r.2)(M:n<=60)(z:a.length=n)(N:Lp.Lim (bQ n b) (λj=>a.getD j 0) 20) :
  Jog.Fn cx.P 21 [.agg ⟨[i_ n,l,d]⟩] C [.arr d 32 1 n (a.map tq)] λu _ g=>(∃(kd:Int)(v:Rat)(i:Str)(o:Option Addr)(n1 p:Nat)(A2:Option Addr)(n2 c2:Nat)(q:Option Addr)(t w:Nat),
   u=.tuple #[.agg ⟨[i_ kd,ag i,.slice o n1 p,.slice A2 n2 c2,.slice q t w]⟩,i_ 0]/\(kd=1->i=qtx v)/\Lp.Val (bQ n b) (λj=>a.getD j 0) kd v/\QB 20 v)/\g=[.arr d 32 1 n (a.map tq)]:=by
 have h1:=XS (P:=cx.P) (f:=21) (args:=[.agg ⟨[i_ n,l,d]⟩]) (C:=C) (L:=[]) (v:=d) (e:=32) (s:=1) (m:=n) (rows:=a.map aP)
  (post:=λu g=>g=[]/\∃(kd:Int)(v:Rat)(i:Str)(o:Option Addr)(n1 p:Nat)(A2:Option Addr)(n2 c2:Nat)(q:Option Addr)(t w:Nat),
   u=.tuple #[.agg ⟨[i_ kd,ag i,.slice o n1 p,.slice A2 n2 c2,.slice q t w]⟩,i_ 0]/\(kd=1->i=qtx v)/\Lp.Val (bQ n b) (λj=>a.getD j 0) kd v/\QB 20 v) kr_ bN (by rw[ar,z]) λD B hs=>by
  refine Fn.mono (HB D (G.mono B) n l d b a (H.mono B) hs I J K M z N) λu E g _ ⟨h0,r,h1,h2⟩=>⟨h0, ?_⟩;subst h1;cases h2 with
 |opt val pt du O Q F k y =>
   obtain⟨A,c,rfl,_⟩:=id k;obtain⟨A2,c2,rfl,_⟩:=id y;exact⟨1,val,_,_,_,_,_,_,_,_,_,_,U,λ_=>rfl,F.val,F.qv⟩
 |inf du Q R k =>
   obtain⟨A,c,rfl,_⟩:=id k;exact⟨2,0,_,_,_,_,_,_,_,_,_,_,U,λh=>absurd h dc_,R.val 0,QB_zero.le dc_⟩
 |unb pt ra O T S k y =>
   obtain⟨A,c,rfl,_⟩:=id k;obtain⟨A2,c2,rfl,_⟩:=id y;exact⟨3,0,_,_,_,_,_,_,_,_,_,_,U,λh=>absurd h dc_,S.val 0,QB_zero.le dc_⟩
 rw[pZ]at h1;exact Fn.mono h1 λu E V _ ⟨g,h2,h3,h4⟩=>⟨h4,by rw[h2,h3]⟩
def qE (k:Nat):Rat:=if k=0 then 1 else -1
def Gb (kd:Int)(v:Rat):Str:=if kd=1 then qtx (1*v) else []
def oV (kd:Int)(v:Rat):Str:=if kd=1 then qtx (-1*v) else []
def sgL (c:List Rat)(k:Nat):List Rat:=c.map (qE k*·)
def NK (p:Lp.Sys)(c:List Rat)(u:Value):Prop:=∃(kd1:Int)(v1:Rat)(kd2:Int)(v2:Rat),(QB 20 v1/\QB 20 v2)/\Lp.Val p (λj=>(sgL c 0).getD j 0) kd1 v1/\(kd1≠2->Lp.Val p (λj=>(sgL c 1).getD j 0) kd2 v2) /\
 ((kd1=2/\u=.tuple #[ag [],ag [],.int .i64 22])∨(kd1≠2/\u=.tuple #[ag (Gb kd1 v1),ag (oV kd2 v2),.int .i64 0]))
theorem Ka {p:Lp.Sys}{f:Nat->Rat}{c d:Int}{v w:Rat}(h:Lp.Val p cc c v)(k:Lp.Val p f d w)(g:c≠2):d≠2:=by
 intro e;have b:¬ p.Hold:=by
  rcases k with⟨a,_⟩|⟨_,b⟩|⟨a,_⟩
  .rw[a]at e;cases e
  .exact b
  rw[a]at e;cases e
 rcases h with⟨_,⟨y,hy,_⟩,_⟩|⟨a,_⟩|⟨_,hh,_⟩
 .exact b ⟨y,hy⟩
 .exact g a
 exact b hh
theorem Sh:[[ag [49]],[ag [45,49]]]=([1, -1]:List Rat).map aP:=by
 show _=[[ag (qtx 1)],[ag (qtx (-1))]];rw[fT,fe]
theorem GY (a:k<2):([1, -1]:List Rat)[k]?=some (qE k):=by
 rcases(by omega:k=0∨k=1) with rfl|rfl <;> rfl
theorem xw (k:Nat):QB 22 (qE k):=by
 unfold qE;split
 .decide +kernel
 decide +kernel
abbrev sO2 (A:Option Addr)(n c:Nat):Value:=.slice A n c
abbrev zai:=λA a b=>Ent.arr (sO2 (some ⟨A,0,none⟩) a a) 32 1 a b
theorem IC (C:Mem)(H:Tabs C)(Q:Value)(B:Bk)(M:List Rat)(o:Nat->List RowQ)(s:Nat)(p:Pt)(i:Nat)(r:List Nat)(t:Tri)(x0:Str)(v:BookIn C Q B)(h:Calm B M o)(hs:s<bs B)(hq:QP 23 p)(hr:PtR p)
  (hl:lu B.pts B.tris p=i::r) (ht:B.tris[i]?=some t) (S:∀j,QB 22 (wgt B.pts t p j)) (hv:F7 B.pts B.tris M p=.tuple #[ag x0,i_ 0])
  (T:∀k,k<2->Lp.Lim (nB B o) (λj=>(sgL (EA (bs B*bp B) (s*bp B) t (wgt B.pts t p) 3) k).getD j 0) 20) :
  Pur cx.P 14 [Q,i_ s,ptV p] C λu _=>NK (nB B o) (EA (bs B*bp B) (s*bp B) t (wgt B.pts t p) 3) u:=by
 have aG:=v;have hG:=h.rich.good;have aH:=h.n12;have hS:=cK B.obs.length;have an:=h.rowsQ hS;have aI:=h.q22 hS;have V:=h.rich.terr;let⟨b,Z⟩:∃b,EA (bs B*bp B) (s*bp B) t (wgt B.pts t p) 3=b:=⟨_,rfl⟩;have J:b.length=bs B*bp B:=by rw[<- Z];exact lT _ _ _ _ _
 have aa:∀x∈b,QB 22 x:=λx c=>by
  rw[<- Z]at c;simp only[EA]at c;rcases T5 c with c|rfl
  .rcases T5 c with c|rfl
   .rcases T5 c with c|rfl
    .rw[(List.mem_replicate.1 c).2];exact QB_zero.le dc_
    exact S 0
   exact S 1
  exact S 2
 have ab:=λ(D:Mem)(z:C.le D)=>J7 D (H.mono z) Q B M o s p i r t (v.mono z) h hs hq hr hl ht S;rw[Z]at ab T⊢;have ac:=λ(D:Mem)(z:C.le D)=>iJ D (H.mono z) Q B M o (v.mono z) h;unfold nB at T⊢;let⟨n,hn⟩:∃n,bs B*bp B=n:=⟨_,rfl⟩;rw[hn]at J aH an ac T⊢;obtain⟨v1,v2,tv,cv,ov,rfl,h1,h2,h3,h4,h5⟩:=id v.ex;have hm:MeshIn C (.agg ⟨[v1,v2]⟩) B.pts B.tris:=⟨v1,v2,rfl,h1,h2⟩;rw[V.e,<- gK]at h3;have ao:=λ(D:Mem)(z:C.le D)=>Ca D (H.mono z) (.agg ⟨[v1,v2]⟩) tv B.pts B.tris M 22 dc_ dc_ (hm.mono z) hG (h3.mono z) V.l V.q (MS V) p hq hr;rw[hv]at ao;obtain⟨A4,c4,rfl,aJ,_⟩:=id h4;have aL:(B.col.map pq).length=bs B+1:=by rw[ar];have:=h.rich.scol.1;omega
 simp only[aL]at h4 aJ aG ab ac⊢;have a1:=mx_
 refine Wy func14 110 U3 λw0=>Wu λR a=>WH U6 λb3=>WH U6 λb5=>C6 3 [1,3,5] a U<|G.freeze 1 U λ_ _ N=>G.freeze 0 U λ_ _ aq=>WQ [(1,3)] U λR a=>Ws (bkT N 5) U8<|D.call (ac _ mup) U (.inr dc_) U6 (SQ _) fl_ (λa2 aM a3 _ aN=>?_);obtain⟨Ar,cr,A,vs,rfl,au,rfl⟩:=aN;refine Wv 3 U<|WI U5 λb9=>WB (j:=0) U12<|C6 1 [1,3,5,8,9] a U<|U0 2 [1,3,5,8,9,26] U<|G.cd (λav=>?_) λav=>?_
 .exact absurd av dc_
 refine U1 5 U λR a=>WU U6 (λ_=>PtrTo.blockT (Mem.get N mup) _ 1) U3<|Wt U6<|Wz _ U U6<|Wt U6<|WX U8<|Ww [1,3,5,9,37] a U<|G.cd (λaw=>?_) λaw=>?_
 .exact absurd aw ap
 refine U1 1 U λR a=>Ws (bkT N 2) U8<|Wt U6<|Ws (bkT N 1) U8<|Ws (bkT aq 2) U8<|WD (ao _ mup) U7<|C6 5 [1,3,5,9,11] a U<|U0 2 [1,3,5,9,11,48] U<|G.cd (λax=>?_) λax=>?_
 .exact absurd ax dc_
 refine Wu λR a=>Ws (bkT N 5) U8<|Wt U6<|Ws (bkT aq 2) U8<|WY (ab _ mup) U7 (λa4 _ _ aO=>?_);obtain⟨uv,rfl,ad⟩:=aO;obtain⟨Au,cu,rfl,_⟩:=id ad;simp only[ar,J]at ad⊢;refine C6 5 [8,9,12] a U<|U0 2 [8,9,12,58] U<|G.cd (λay=>?_) λay=>?_
 .exact absurd ay dc_
 refine Wu λR a=>WI U5 λf=>Ww [9,12,13] a U<|G.freezeArr 2 (aB vs (di B o)) U U (cC _ _) (by rw[bI au.1]) λ_ _ aQ=>G.freeze 1 U (λaR _ az=>?_);have aS:=mb (RowsOk.m_ au) (aQ.mono mup:Sl aR 2 _ _);refine Wu λR a=>Xm [[ag [49]],[ag [45,49]]] U12 fl_ λaA _ _ aC=>C6 2 [9,12,13,60,61,62] a U ?_;clear a R;rw[Sh]at aC;refine G.perm (L':=[zai A n (List.replicate n (ag [48])),.obj f (.cells ⟨[ag (if 0<0 then Gb 0 0 else []),ag (if 1<0 then oV 0 0 else [])]⟩ 144 (0,0))]) (pkL [1,0] U)<|G.loop (λfr C' g μ=>∃(k:Nat)(xs:List Value)(d:Int)(w1:Rat)(F:Int)(E:Rat),(k<=2/\xs.length=n/\(QB 20 w1/\QB 20 E)/\(0<k->Lp.Val (bQ n (dS (di B o))) (λj=>(sgL b 0).getD j 0) d w1/\d≠2)/\(1<k->Lp.Val (bQ n (dS (di B o))) (λj=>(sgL b 1).getD j 0) F E))/\fr=[(9,[],p_ b9),(12,[],.slice Au n cu),(13,[],p_ f),(60,[],s_ aA 2 2),(61,[],i_ 2),(62,[],i_ k)]/\g=[zai A n xs,.obj f (.cells ⟨[ag (if 0<k then Gb d w1 else []),ag (if 1<k then oV F E else [])]⟩ 144 (0,0))]/\μ=2-k) (hn_ [9,12,13,60,61,62] U) ⟨0,List.replicate n (ag [48]),0,0,0,0,⟨SM _,Tf,⟨QB_zero.le dc_,QB_zero.le dc_⟩,λh=>absurd h om_,λh=>absurd h om_⟩,U,U,U⟩ (λfr a5 a6 m _ hI=>?_);obtain⟨k,xs,d,w1,F,E,⟨hk,a7,ae,K,aU⟩,rfl,rfl,rfl⟩:=hI;refine U0 1 [9,12,13,60,61,62,63] U<|G.cd (λah=>?_) λah=>?_
 .have W:k<2:=by
   have:=aT ah;omega
  refine U1 1 U λR a=>WG aC.m_ U10 om_ (by rw[SI,GY W];rfl:(([1, -1]:List Rat).map aP)[k]?=some (aP (qE k))) fl_ λa8 aV=>Ws aV U8<|C6 2 [9,12,13,14,15,60,61,62] a U<|U0 3 [9,12,13,14,15,60,61,62,67,68,69] U<|WK (L':=[.arr (sO2 (some ⟨A,0,none⟩) n n) 32 1 n (((b.take 0).map λx=>tq (qE k*x))++xs.drop 0),.obj f (.cells ⟨[ag (if 0<k then Gb d w1 else []),ag (if 1<k then oV F E else [])]⟩ 144 (0,0))]) am<|G.loop (λfr C' g μ=>∃(j:Nat),(j<=n)/\fr=[(9,[],p_ b9),(12,[],.slice Au n cu),(13,[],p_ f),(14,[],i_ k),(15,[],ag (qtx (qE k))),(60,[],s_ aA 2 2),(61,[],i_ 2),(62,[],i_ k),(67,[],.slice Au n cu),(68,[],i_ n),(69,[],i_ j)]/\g=[.arr (sO2 (some ⟨A,0,none⟩) n n) 32 1 n (((b.take j).map λx=>tq (qE k*x))++xs.drop j),.obj f (.cells ⟨[ag (if 0<k then Gb d w1 else []),ag (if 1<k then oV F E else [])]⟩ 144 (0,0))]/\μ=n-j) (hn_ [9,12,13,14,15,60,61,62,67,68,69] U) ⟨0,SM _,U,U,U⟩ (λfr a9 ba m _ hI=>?_);obtain⟨j,hj,rfl,rfl,rfl⟩:=hI;refine U0 1 [9,12,13,14,15,60,61,62,67,68,69,70] U<|G.cd (λai=>?_) λai=>?_
  .have aD:j<n:=by
    have:=aT ai;omega
   let⟨x,c⟩:∃x,b[j]?=some x:=⟨b[j]'om_,aj om_⟩;have aW:xs.drop j=xs[j]'om_::xs.drop (j+1):=Tg om_;have aE:((b.take j).map λx=>tq (qE k*x)).length=j:=by rw[ar,S2];omega
   refine U1 1 U λR a=>WG ad.m_ U10 om_ (by rw[SI,c];rfl:(b.map aP)[j]?=some (aP x)) fl_ λbb aX=>Ws aX U8<|C6 2 [9,12,13,14,15,16,17,60,61,62,67,68,69] a U<|WM [0,1,2,3,4,5,6,7] [(5,1),(1,0)] U kr_ λR v a=>Wt U6<|W9 (λ_=>((bkT az 2).mono v)) U9<|Wv 3 U<|WN (λ_=>(cX _ H.m_ (qE k) x 22 dc_ dc_ (xw k) (aa x (aK c)))) U9<|WV (j) U10 (λ_=>⟨by omega,by omega,(T0 _).symm⟩) U2<|WZ (j:=0) U11 (by rw[SP,aE,UI];simp;omega)<|Ww [9,12,13,14,15,60,61,62,67,68,69] a U<|Wu λR a=>Wz _ U U6<|C6 1 [9,12,13,14,15,60,61,62,67,68,69] a U<|WK (L':=[.arr (sO2 (some ⟨A,0,none⟩) n n) 32 1 n (((b.take (j+1)).map λx=>tq (qE k*x))++xs.drop (j+1)),.obj f (.cells ⟨[ag (if 0<k then Gb d w1 else []),ag (if 1<k then oV F E else [])]⟩ 144 (0,0))]) (by rw[aW,xl aE,S9,c];simp) ?_;refine WF (m':=n-(j+1)) om_ mup (hn_ [9,12,13,14,15,60,61,62,67,68,69] U) ⟨j+1,om_,U,U,U⟩
  have aD:j=n:=by
   have:=SJ ai;omega
  subst aD;refine WK (L':=[zai A j ((sgL b k).map tq),.obj f (.cells ⟨[ag (if 0<k then Gb d w1 else []),ag (if 1<k then oV F E else [])]⟩ 144 (0,0))]) (by rw[Td om_,Uq om_,S8];unfold sgL;rw[TH];rfl)<|WQ [(1,3)] U λR a=>Ws (bkT az 3) U8 ?_;refine D.call (HA _ H.m_ j _ _ (dS (di B o)) (sgL b k) aS.m_ an (λy hy=>by
   obtain⟨x,c,rfl⟩:=SL.1 hy;unfold qE;split
   .rw[Rat.one_mul];exact aa x c
   rw[show(-1:Rat)*x=-x by grind];exact Lp.qb_neg (aa x c)) aI om_ (by unfold sgL;rw[ar];exact J) (T k W)) rfl (.inr dc_) U6 (SQ _) fl_ (λbc _ bd _ aY=>?_)
  obtain⟨⟨kd,w,vt,A1,n1,be,A2,n2,bf,A3,n3,bg,rfl,aZ,L,I⟩,rfl⟩:=aY;refine Wv 3 U<|WI U5 λbh=>WB (j:=0) U12<|C6 1 [9,12,13,14,15,18,19,60,61,62] a U<|G.freeze 0 U λaM _ X=>U0 3 [9,12,13,14,15,18,19,60,61,62,87] U<|G.cd (λaF=>?_) λaF=>?_
  .exact absurd aF dc_
  refine U1 1 U λR a=>Ws (bkT X 1) U8<|C6 2 [9,12,13,14,15,18,60,61,62,91] a U<|G.cd (λak=>?_) λak=>?_
  .have O:kd=2:=by simpa using ak
   have a0:k=0:=by
    rcases TY k with h|h
    .exact h
    exact absurd O (Ka (K h).1 L (K h).2)
   subst a0;refine U0 3 [6,7,8] U<|WE (G.dropAll (Xj U4 ?_));exact⟨U,kd,w,0,0,⟨I,QB_zero.le dc_⟩,L,λh=>absurd O h,.inl ⟨O,U⟩⟩
  have O:kd≠2:=by simpa using ak
  refine U1 1 U λR a=>Ws (bkT X 1) U8<|C6 2 [9,12,13,14,15,18,60,61,62,95] a U<|G.cd (λal=>?_) λal=>?_
  .have Y:kd=1:=by simpa using al
   obtain rfl:=aZ Y;subst Y;rcases(by omega:k=0∨k=1) with rfl|rfl
   .refine U1 3 U λR a=>Ws (bkT X 1) U8<|WC (cX _ H.m_ (qE 0) w 22 dc_ dc_ (xw 0) (I.le dc_)) U7 fl_<|WO (0) U9 k_ U2<|WB (j:=1) U12<|Ww [9,12,13,60,61,62] a U<|Wu λR a=>Wz _ U U6<|C6 1 [9,12,13,60,61,62] a U<|G.perm (L':=[zai A j ((sgL b 0).map tq),.obj f (.cells ⟨[ag (if 0<1 then Gb 1 w else []),ag (if 1<1 then oV 0 0 else [])]⟩ 144 (0,0))]) (pkL [1,0] U) ?_;refine WF (m':=1) om_ mup (hn_ [9,12,13,60,61,62] U) ⟨1,(sgL b 0).map tq,1,w,0,0,⟨by decide,by unfold sgL;simp[J],⟨I,QB_zero.le dc_⟩,λ_=>⟨L,by decide⟩,λh=>absurd h dc_⟩,U,U,U⟩
   refine U1 3 U λR a=>Ws (bkT X 1) U8<|WC (cX _ H.m_ (qE 1) w 22 dc_ dc_ (xw 1) (I.le dc_)) U7 fl_<|WO (1) U9 k_ U2<|WB (j:=1) U12<|Ww [9,12,13,60,61,62] a U<|Wu λR a=>Wz _ U U6<|C6 1 [9,12,13,60,61,62] a U<|G.perm (L':=[zai A j ((sgL b 1).map tq),.obj f (.cells ⟨[ag (if 0<2 then Gb d w1 else []),ag (if 1<2 then oV 1 w else [])]⟩ 144 (0,0))]) (pkL [1,0] U) ?_;refine WF (m':=0) om_ mup (hn_ [9,12,13,60,61,62] U) ⟨2,(sgL b 1).map tq,d,w1,1,w,⟨by decide,by unfold sgL;simp[J],⟨ae.1,I⟩,λ_=>K dc_,λ_=>L⟩,U,U,U⟩
  have Y:kd≠1:=by simpa using al
  refine Wu λR a=>Wz _ U U6<|C6 1 [9,12,13,60,61,62] a U ?_;clear a R;refine WK (L':=[zai A j ((sgL b k).map tq),.obj f (.cells ⟨[ag (if 0<k+1 then Gb (if k=0 then kd else d) (if k=0 then w else w1) else []),ag (if 1<k+1 then oV (if k=0 then 0 else kd) (if k=0 then 0 else w) else [])]⟩ 144 (0,0))]) (by rcases(by omega:k=0∨k=1) with rfl|rfl <;> simp[Gb,oV,Y]) ?_;refine WF (m':=2-(k+1)) om_ mup (hn_ [9,12,13,60,61,62] U) ⟨k+1,(sgL b k).map tq,if k=0 then kd else d,if k=0 then w else w1,if k=0 then 0 else kd,if k=0 then 0 else w,⟨by omega,by unfold sgL;simp[J],⟨(by split <;> first|exact I|exact ae.1),(by split <;> first|exact QB_zero.le dc_|exact I)⟩,λ_=>by
   rcases(by omega:k=0∨k=1) with rfl|rfl
   .exact⟨L,O⟩
   .exact K dc_,λh=>by
   obtain rfl:k=1:=by omega
   exact L⟩,U,U,U⟩
 have W:k=2:=by
  have:=SJ ah;omega
 subst W;refine WM [0,1,2,3,4,5,6] [] U kr_ λR v a=>WO (0) U9 k_ U2<|WA af U9<|WO (1) U9 k_ U2<|WA af U9<|Wv 3 U<|Ww [6,7,8] a U<|WE (G.dropAll (Xj U4 ?_));exact⟨U,d,w1,F,E,ae,(K dc_).1,λ_=>aU dc_,.inr ⟨(K dc_).2,U⟩⟩
theorem Px (n:Nat)(q:Rat):List.replicate n (ag (qtx q))=((List.replicate n q).map aP).flatten:=by
 rw[Vr];induction n with
|zero=>rfl
|succ n a=>rw[TN,TN,TV,<- a];rfl
theorem Hk (C:Mem)(v:Value)(n:Nat)(q:Rat)(s:Str)(a:qtx q=s)(c:Sl C 1 v [[ag s]])(d:n<=1000000):Pur cx.P 64 [v,i_ n] C λu D=>∃b,u=s_ b n n/\Sl D 1 u ((List.replicate n q).map aP) :=
 X5 (ka C v n s c d) λu e f ⟨b,h1,h2⟩=>.inr ⟨u,32,1,(List.replicate n q).map aP,by rw[h2,<- Px,a];simp,bN,λD _ h=>⟨b,h1,h⟩⟩
theorem Gh (C:Mem)(n:Nat)(h:n<=100000):Pur cx.P 77 [i_ n] C λu D=>∃b,u=s_ b n n/\Sl D 1 u ((List.replicate n (0:Rat)).map aP) :=
 X5 (mO C n h) λu a c ⟨b,h1,h2⟩=>.inr ⟨u,32,1,(List.replicate n 0).map aP,by rw[h2,<- uR];simp,bN,λD _ h=>⟨b,h1,h⟩⟩
def Dy (rows:List RowQ)(more i:Nat):List RowQ:=(rows.take i).map (ck more)++rows.drop i
theorem Lh (a:List RowQ)(b i:Nat):(Dy a b i).length=a.length:=by
 unfold Dy;rw[SP,ar,<- SP,TE]
theorem Pa (h:rows[i]?=some r):(Dy rows more i)[i]?=some r/\Dy rows more (i+1)=(Dy rows more i).set i (ck more r):=by
 have b:=(R0.1 h).1;have a:((rows.take i).map (ck more)).length=i:=by rw[ar,S2];omega
 have hd:rows.drop i=r::rows.drop (i+1):=by rw[Tg b,(R0.1 h).2]
 unfold Dy;constructor
 .rw[Tj om_,a,VG,hd];rfl
 rw[S9,h,Tm,hd,List.set_append_right _ _ om_,a,VG];simp
theorem xI {l:List RowQ}(d:us.length=l.length)(c:l[i]?=some r)(e:r'.b=r.b) :
  aC (aB us l).flatten [w] (i*2)=(aB (us.set i w) (l.set i r')).flatten:=by
 have f:=(R0.1 c).1;let⟨u0,g⟩:∃u0,us[i]?=some u0:=⟨us[i]'om_,aj om_⟩;have h:us=us.take i++u0::us.drop (i+1):=by
  conv=>lhs;rw[<- TE i us,Tg om_,(R0.1 g).2]
 have j:l=l.take i++r::l.drop (i+1):=by
  conv=>lhs;rw[<- TE i l,Tg om_,(R0.1 c).2]
 have a:(us.take i).length=(l.take i).length:=by rw[S2,S2,d]
 have k:aB us l=aB (us.take i) (l.take i)++[u0,ag (qtx r.b)]::aB (us.drop (i+1)) (l.drop (i+1)):=by
  conv=>lhs;rw[h,j]
  unfold aB;rw[List.zipWith_append a];rfl
 have m:aB (us.set i w) (l.set i r')=aB (us.take i) (l.take i)++[w,ag (qtx r.b)]::aB (us.drop (i+1)) (l.drop (i+1)):=by
  rw[List.set_eq_take_append_cons_drop,aL om_,List.set_eq_take_append_cons_drop,aL f];unfold aB;rw[List.zipWith_append a,<- e];rfl
 have n:(aB (us.take i) (l.take i)).flatten.length=i*2:=by
  rw[aQ (cC _ _),bI a,S2,TJ om_]
 rw[k,m,Ta,Ta,TV,TV];exact xl (A:=(aB (us.take i) (l.take i)).flatten) (x:=u0) (B:=ag (qtx r.b)::(aB (us.drop (i+1)) (l.drop (i+1))).flatten) n
theorem EU {l:List RowQ}(h:RowsOk C us l)(b:Sl C 1 w (r'.f.map dH)):RowsOk C (us.set i w) (l.set i r'):=by
 refine⟨by rw[TB,TB];exact h.1,λj v r a hr=>?_⟩;rw[List.getElem?_set]at a hr;by_cases e:i=j
 .subst e;rw[aL rfl]at a hr;split at a
  .split at hr
   .cases a;cases hr;exact b
   cases hr
  cases a
 rw[aF e]at a hr;exact h.2 j v r a hr
theorem fa {l:List RowQ}(h:RowsOk C us l)(e:Sl C 1 w (r.f.map dH)):RowsOk C (us++[w]) (l++[r]):=by
 refine⟨by rw[SP,SP,h.1];rfl,λj v x a b=>?_⟩;have:=h.1;rcases Th j us.length with c|c
 .rw[Tz c]at a;rw[Tz om_]at b;exact h.2 j v x a b
 rw[Tj c]at a;rw[Tj om_]at b;cases d:j-us.length with
|zero =>
  rw[d]at a;rw[show j-l.length=0 by omega]at b;cases a;cases b;exact e
|succ k=>rw[d]at a;cases a
theorem xJ {l:List RowQ}(d:us.length=l.length)(a:l[i]?=some r)(e:us[i]?=some w):((aB us l).flatten.drop (i*2)).take 2=[w,ag (qtx r.b)]:=by
 have k:=(R0.1 a).1;have f:us=us.take i++w::us.drop (i+1):=by
  conv=>lhs;rw[<- TE i us,Tg om_,(R0.1 e).2]
 have g:l=l.take i++r::l.drop (i+1):=by
  conv=>lhs;rw[<- TE i l,Tg om_,(R0.1 a).2]
 have c:(us.take i).length=(l.take i).length:=by rw[S2,S2,d]
 have h:aB us l=aB (us.take i) (l.take i)++[w,ag (qtx r.b)]::aB (us.drop (i+1)) (l.drop (i+1)):=by
  conv=>lhs;rw[f,g]
  unfold aB;rw[List.zipWith_append c];rfl
 have j:(aB (us.take i) (l.take i)).flatten.length=i*2:=by
  rw[aQ (cC _ _),bI c,S2,TJ om_]
 rw[h,Ta,TV,<- j,List.drop_left];rfl
theorem lG (l:List Rat):((l.map aP).all λr=>r.all kS)=true:=by
 rw[S3];intro r hr;obtain⟨q,_,rfl⟩:=SL.1 hr;rfl
theorem CU {q:Nat}(a:q<2):(rgK n h p es k).take (q+1)=(rgK n h p es k).take q++[⟨rgF n h p es.length k (edg es k) (qE q),0⟩]:=by
 rcases(by omega:q=0∨q=1) with rfl|rfl <;> rfl
def P6 (D:Mem)(n:Nat)(rows:List RowQ)(ob:List Rat)(u:Value):Prop:=∃(A1:Option Addr)(n1 c1:Nat)(A2:Option Addr)(n2 c2:Nat),u=.agg ⟨[.int .i64 n,.slice A1 n1 c1,.slice A2 n2 c2]⟩/\RowsT D (.slice A1 n1 c1) ((dS rows).map dw)/\Sl D 1 (.slice A2 n2 c2) (ob.map aP)
abbrev sR7 (A:Option Addr)(n c:Nat):Value:=.slice A n c
abbrev sF7 (A:Option Addr)(n c:Nat):Value:=.slice A n c
theorem CR (C:Mem)(hT:Tabs C)(S:Value)(B:Bk)(fs:List Rat)(F:Nat->List RowQ)(d:BookIn C S B)(h:Calm B fs F)(aN:bp B<=6)(aO:bs B<=2) :
  Pur cx.P 22 [S] C λu D=>∃es x,u=.tuple #[x,i_ 0]/\EdgL B.tris es/\P6 D (bs B*bp B+bs B*es.length) (sD (di B F) (bs B*bp B) (bp B) es (bs B*es.length)) (kI (bs B*bp B) (bs B*es.length)) x:=by
 have aR:=d;have T:=h.rich.good;have aS:=h.n12;have aU:=h.cnt (cK B.obs.length);have M:=λ(D:Mem)(hD:C.le D)=>iJ D (hT.mono hD) S B fs F (d.mono hD) h;obtain⟨v1,v2,tv,cv,ov,rfl,h1,h2,h3,h4,h5⟩:=id d.ex;have hm:MeshIn C (.agg ⟨[v1,v2]⟩) B.pts B.tris:=⟨v1,v2,rfl,h1,h2⟩;obtain⟨s,t,rfl,aW,_⟩:=id h1;obtain⟨A4,c4,rfl,aX,_⟩:=id h4;have aY:(B.pts.map gM).length=bp B:=ar _;have aZ:(B.col.map pq).length=bs B+1:=by rw[ar];have:=h.rich.scol.1;omega
 simp only[aY,aZ]at h1 aW h4 aX hm aR M⊢;have bD:=mx_
 let⟨n,hn⟩:∃n,bs B*bp B=n:=⟨_,rfl⟩;let⟨rows,V⟩:∃rows,di B F=rows:=⟨_,rfl⟩;rw[show oT B F (List.range B.obs.length)=rows from V]at aU;rw[hn]at M aS⊢;rw[V]at M⊢;have a0:∀r∈rows,r.f.length<=12:=λr hr=>by
  have h1:=(h.rowsQ (cK B.obs.length)).l (r.f,r.b) (SL.2 ⟨r,by rw[<- V]at hr;exact hr,rfl⟩);have h2:r.f.length=bs B*bp B:=h1;omega
 refine Wy func22 153 U3 λw0=>?_;refine Wu λR c=>?_;refine WH U6 (λb1=>?_);refine WI U5 (λv=>?_);refine C6 1 [1,2] c U ?_;clear c R;refine G.freeze 1 U (λ_ _ N=>?_);refine WQ [(1,3)] U (λR c=>?_);refine Ws (bkT N 5) U8 ?_;refine D.call (M _ mup) U (.inr dc_) U6 (SQ _) fl_ (λbE _ bF _ a1=>?_);obtain⟨E,z,bo,vs,rfl,a2,rfl⟩:=a1;refine Wv 3 U ?_;refine WI U5 (λy=>?_);refine WB (j:=0) U12 ?_;refine C6 1 [1,2,4,5] c U ?_;clear c R;refine U0 2 [1,2,4,5,24] U ?_;refine G.cd (λav=>?_) λav=>?_
 .exact absurd av dc_
 refine U1 1 U λR c=>?_;refine Ws (bkT N 2) U8 ?_;refine WY (pr _ hT.m_ _ B.pts B.tris hm.m_ T) U7 (λbG _ _ a3=>?_);obtain⟨es,ev,rfl,W,X⟩:=a3;obtain⟨Y,Z,rfl,a4,_⟩:=id X;simp only[ar]at X a4⊢;let⟨a5,bH⟩:=W.le T.ok.ins aN;let⟨a,H⟩:∃a,bs B*es.length=a:=⟨_,rfl⟩;have bJ:a<=30:=by rw[<- H];exact T2 aO a5
 refine C6 5 [1,2,4,5,6] c U ?_;clear c R;refine U0 2 [1,2,4,5,6,34] U ?_;refine G.cd (λaw=>?_) λaw=>?_
 .exact absurd aw dc_
 refine WM [0,1,2,3,4,5,6,7] [] U kr_ (λR d c=>?_);refine Wt U6 ?_;refine WA ah U9 ?_;refine Wv 2 U ?_;refine Ws (bkT N 1) U8 ?_;refine Wv 3 U ?_;refine Ww [1,2,4,6,7,8] c U ?_;clear c d R;refine U1 1 U λR c=>?_;refine Ws (bkT N 1) U8 ?_;refine Wt U6 ?_;refine WW (((bs B:Nat):Int)) U4 om_ om_ om_ U2 ?_;refine Wv 2 U ?_;refine WW (((a:Nat):Int)) U4 (by rw[<- H,Tc]) om_ om_ U2 ?_;refine C6 1 [2,4,6,7,8,9] c U ?_;clear c R;refine U1 1 U λR c=>?_;refine WA ah U9 ?_;refine Wt U6 ?_;refine WW (((n+a:Nat):Int)) U4 om_ om_ om_ U2 ?_;refine Wt U6 ?_;refine WB (j:=0) U12 ?_;refine Ww [2,4,6,7,8,9] c U ?_;clear c R;refine U1 1 U λR c=>?_;refine WA ah U9 ?_;refine Wv 3 U ?_;refine WA ah U9 ?_;refine Wv 2 U ?_;refine Wz _ U U6 ?_;refine Wz _ U U6 ?_;refine Wt U6 ?_;refine WX U8 ?_;refine Ww [2,4,6,7,8,9,66] c U ?_;clear c R;refine G.cd (λax=>?_) λax=>?_
 .exact absurd ax ap
 refine WM [0,1,3,2,4,5,6,7] [] U kr_ (λR d c=>?_);refine Wt U6 ?_;refine WA ah U9 ?_;refine Wt U6 ?_;refine WP [[ag [49]]] U12 (λbK _ _ a6=>?_);refine WT (Hk _ _ a 1 [49] fT a6.m_ om_) U7 fl_ (λbL _ _ a7=>?_);obtain⟨bM,rfl,a8⟩:=a7;refine W0 (j:=2) U11 a8.m_ (lG _) (by simp only[ar,Tf,maxLen];omega) (by simp only[ar,Tf];omega) fl_ (λe o p=>?_);refine Wt U6 ?_;refine WB (j:=1) U12 ?_;refine Ww [2,4,6,7,8,9] c U ?_;clear c d R;refine U1 1 U λR c=>?_;refine WA ah U9 ?_;refine C6 2 [2,4,6,7,8,9,76,77,78] c U ?_;clear c R;have a9:List.replicate n (ag [48])++((List.replicate a (1:Rat)).map aP).flatten=((kI n a).map aP).flatten:=by
  rw[uR];unfold kI;rw[Tm,Ta]
 have ba:n+((List.replicate a (1:Rat)).map aP).length=n+a:=by simp
 refine G.perm (L':=[.arr (sR7 E rows.length z) 140 2 (rows.length) (aB vs (Dy rows a 0)).flatten,.arr (sF7 e o p) 32 1 (n+a) ((kI n a).map aP).flatten,.obj y (.cells ⟨[i_ (n+a:Nat),.slice E rows.length z,.slice e o p]⟩ 74 (0,0)),.obj v (.cells ⟨[i_ 0,.slice none 0 0,.slice none 0 0]⟩ 74 (0,0))]) (by rw[show Dy rows a 0=rows from U,<- a9,<- ba];(exact pkL [2,1,0,0] U)) ?_;refine G.loop (λfr I A J=>∃(i:Nat)(us:List Value),(i<=rows.length/\RowsOk I us (Dy rows a i))/\fr=[(2,[],p_ v),(4,[],p_ y),(6,[],.slice Y es.length Z),(7,[],i_ n),(8,[],i_ (bp B:Nat)),(9,[],i_ a),(76,[],.slice E rows.length z),(77,[],i_ rows.length),(78,[],i_ i)]/\A=[.arr (sR7 E rows.length z) 140 2 rows.length (aB us (Dy rows a i)).flatten,.arr (sF7 e o p) 32 1 (n+a) ((kI n a).map aP).flatten,.obj y (.cells ⟨[i_ (n+a:Nat),.slice E rows.length z,.slice e o p]⟩ 74 (0,0)),.obj v (.cells ⟨[i_ 0,.slice none 0 0,.slice none 0 0]⟩ 74 (0,0))]/\J=rows.length-i) (hn_ [2,4,6,7,8,9,76,77,78] U) ⟨0,vs,⟨SM _,by rw[show Dy rows a 0=rows from rfl];exact RowsOk.mono a2 mup⟩,U,U,U⟩ (λfr bO bP m _ K=>?_);obtain⟨i,us,⟨hi,L⟩,rfl,rfl,rfl⟩:=K;refine XY ah (λA0 c0 bb bc=>?_);refine U0 1 [2,4,6,7,8,9,76,77,78,79] U ?_;refine G.cd (λaa=>?_) λaa=>?_
 .have ab:i<rows.length:=by
   have:=aT aa;omega
  obtain⟨rfl,rfl⟩:E=A0/\z=c0:=by cases bb;exact⟨rfl,rfl⟩
  obtain⟨g,rfl⟩:=bc om_;let⟨r,az⟩:∃r,rows[i]?=some r:=⟨rows[i],aj ab⟩;let⟨ac,aA⟩:=Pa (more:=a) az;have bQ:=Lh rows a i;have ad:=L.1;let⟨w,aC⟩:∃w,us[i]?=some w:=⟨us[i]'om_,aj om_⟩;have aD:=L.2 i w r aC ac;obtain⟨Aw,cw,rfl,_⟩:=id aD;have bR:r.f.length<=12:=a0 r (aK az);refine U1 1 U λR c=>?_;refine WV ((i*2)) U10 w_ U2 ?_;refine Xa ah U6 (λ_=>(by rw[show((TI.size _:Nat))=2 from U,xJ ad ac aC];rfl)) U2 ?_;refine WI U5 (λbS=>?_);refine Wt U6 ?_;refine WB (j:=0) U12 ?_;refine Ww [2,4,6,7,8,9,10,11,76,77,78] c U ?_;clear c R;refine G.freeze 0 U (λ_ _ bd=>?_);refine X6 2 U [0,1,2,3,4,6,5,7,8,9,10,11] [(5,3),(1,0),(4,0)] U kr_ (λbT R bU be d c=>?_);refine Wt U6 ?_;refine W9 (λ_=>(PtrTo.block be _).mono d) U9 ?_;refine Wv 2 U ?_;refine W9 (λ_=>((bkT bd 1).mono d)) U9 ?_;refine Wt U6 ?_;refine D.call (D7 _ _ r.f aD.m_ om_) U (.inr dc_) U6 (SQ _) fl_ (λbV _ bW _ bf=>?_);obtain⟨Ac,nc,cc,rfl,rfl⟩:=bf;refine WT (Gh _ a om_) U7 fl_ (λbX _ _ bg=>?_);obtain⟨bz,rfl,hz⟩:=bg;refine W0 (j:=0) U11 hz.m_ (lG _) (by simp only[ar,Tf,maxLen];omega) (by simp only[ar,Tf];omega) fl_ (λaE aF aG=>?_);refine WV ((i*2)) U10 w_ U2 ?_;refine Wt U6 ?_;refine WZ (j:=1) U11 (by rw[aQ (cC _ _),bI ad];simp;omega) ?_;refine Xp [(2,[],_),(4,[],_),(6,[],_),(7,[],_),(8,[],_),(9,[],_),(76,[],_),(77,[],_),(78,[],_)] ⟨U,U,U,U,U,U,U,U,U,trivial⟩ (c _ _ _ U (λbY bZ=>?_));clear c d R;rw[<- Ta,<- Tm,xI ad ac (r':=ck a r) rfl,<- aA];refine G.freezeArr 2 ((r.f++List.replicate a (0:Rat)).map aP) U U bN am (λCf bh af=>?_);refine G.perm (L':=[.arr (sR7 (some ⟨g,0,none⟩) rows.length z) 140 2 (rows.length) (aB (us.set i (.slice aE aF aG)) (Dy rows a (i+1))).flatten,.arr (sF7 e o p) 32 1 (n+a) ((kI n a).map aP).flatten,.obj y (.cells ⟨[i_ (n+a:Nat),s_ g rows.length z,.slice e o p]⟩ 74 (0,0)),.obj v (.cells ⟨[i_ 0,.slice none 0 0,.slice none 0 0]⟩ 74 (0,0))]) (pkL [1,1,0] U) ?_;refine Wu λR c=>?_;refine Wz _ U U6 ?_;refine C6 1 [2,4,6,7,8,9,76,77,78] c U ?_;clear c R;refine WF (m':=rows.length-(i+1)) om_ mup (hn_ [2,4,6,7,8,9,76,77,78] U) ⟨i+1,us.set i (.slice aE aF aG),⟨by omega,by rw[aA];exact EU (RowsOk.m_ L) af⟩,U,U,U⟩
 have ab:i=rows.length:=by
  have:=SJ aa;omega
 subst ab;refine U0 2 [2,4,6,7,8,95,96] U ?_;rw[show Dy rows a rows.length=rows.map (ck a)++rgL (n+a) n (bp B) es 0 by unfold Dy;rw[SU,TZ];rfl]at L⊢;refine G.loop (λfr I A J=>∃(k:Nat)(s:Option Addr)(n1 t:Nat)(us:List Value),(k<=a/\RowsOk I us (rows.map (ck a)++rgL (n+a) n (bp B) es k))/\fr=[(2,[],p_ v),(4,[],p_ y),(6,[],.slice Y es.length Z),(7,[],i_ n),(8,[],i_ (bp B:Nat)),(95,[],i_ a),(96,[],i_ k)]/\A=[.arr (sR7 s n1 t) 140 2 (rows.length+2*k) (aB us (rows.map (ck a)++rgL (n+a) n (bp B) es k)).flatten,.arr (sF7 e o p) 32 1 (n+a) ((kI n a).map aP).flatten,.obj y (.cells ⟨[i_ (n+a:Nat),.slice s n1 t,.slice e o p]⟩ 74 (0,0)),.obj v (.cells ⟨[i_ 0,.slice none 0 0,.slice none 0 0]⟩ 74 (0,0))]/\J=a-k) (hn_ [2,4,6,7,8,95,96] U) ⟨0,E,rows.length,z,us,⟨SM _,RowsOk.mono L mup⟩,U,U,U⟩ (λfr b0 b3 m _ K=>?_);obtain⟨k,s,n1,t,us,⟨hk,ai⟩,rfl,rfl,rfl⟩:=K;refine U0 1 [2,4,6,7,8,95,96,97] U ?_;refine G.cd (λak=>?_) λak=>?_
 .have b5:k<a:=by
   have:=aT ak;omega
  have aH:k<bs B*es.length:=by omega
  let⟨bi,b6⟩:=Be aH;let⟨bj,bk,b7⟩:=DQ (W.ok (n:=bp B) T.ok.ins (bs B)) aH;rw[hn]at bj bk;have bl:0<es.length:=List.length_pos_of_mem bi;have aI:=Ts k bl;have bm:(es.map rM)[k % es.length]?=some (rM (edg es k)):=by
   rw[SI,aj aI];unfold edg;rw[al,aj aI];rfl
  refine U0 2 [2,4,6,7,8,12,95,96] U ?_;refine WM [0,1,2,3,4,5,6,7,8,9,10,11,12,13] [] U kr_ (λR d c=>?_);refine Wv 3 U ?_;refine Xs (k) (es.length) U6 om_ (.inl ⟨U,by omega⟩) U2 ?_;refine Wv 4 U ?_;refine Xg (k) (es.length) U6 om_ U2 ?_;refine WG X.m_ U10 om_ bm fl_ (λb8 bn=>?_);refine Ws bn U8 ?_;refine WI U5 (λbq=>?_);refine Wt U6 ?_;refine WB (j:=0) U12 ?_;refine Ww [2,4,6,7,8,12,13,14,95,96] c U ?_;clear c d R;refine G.freeze 0 U (λ_ _ aJ=>?_);refine Wu λR c=>?_;refine Xm [[ag [49]],[ag [45,49]]] U12 fl_ (λbr _ _ aL=>?_);refine C6 2 [2,4,6,7,8,12,13,14,95,96,110,111,112] c U ?_;clear c R;rw[Sh]at aL;refine WK (L':=[.arr (sR7 s n1 t) 140 2 (rows.length+2*k+0) (aB us (rows.map (ck a)++(rgL (n+a) n (bp B) es k++(rgK (n+a) n (bp B) es k).take 0))).flatten,.arr (sF7 e o p) 32 1 (n+a) ((kI n a).map aP).flatten,.obj y (.cells ⟨[i_ (n+a:Nat),.slice s n1 t,.slice e o p]⟩ 74 (0,0)),.obj v (.cells ⟨[i_ 0,.slice none 0 0,.slice none 0 0]⟩ 74 (0,0))]) (by rw[List.take_zero,S8];rfl) ?_;refine G.loop (λfr I A J=>∃(q:Nat)(s:Option Addr)(n1 t:Nat)(us:List Value),(q<=2/\RowsOk I us (rows.map (ck a)++(rgL (n+a) n (bp B) es k++(rgK (n+a) n (bp B) es k).take q)))/\fr=[(2,[],p_ v),(4,[],p_ y),(6,[],.slice Y es.length Z),(7,[],i_ n),(8,[],i_ (bp B:Nat)),(12,[],i_ k),(13,[],i_ (k / es.length:Nat)),(14,[],p_ bq),(95,[],i_ a),(96,[],i_ k),(110,[],s_ br 2 2),(111,[],i_ 2),(112,[],i_ q)]/\A=[.arr (sR7 s n1 t) 140 2 (rows.length+2*k+q) (aB us (rows.map (ck a)++(rgL (n+a) n (bp B) es k++(rgK (n+a) n (bp B) es k).take q))).flatten,.arr (sF7 e o p) 32 1 (n+a) ((kI n a).map aP).flatten,.obj y (.cells ⟨[i_ (n+a:Nat),.slice s n1 t,.slice e o p]⟩ 74 (0,0)),.obj v (.cells ⟨[i_ 0,.slice none 0 0,.slice none 0 0]⟩ 74 (0,0))]/\J=2-q) (hn_ [2,4,6,7,8,12,13,14,95,96,110,111,112] U) ⟨0,s,n1,t,us,⟨SM _,by rw[List.take_zero,S8];exact RowsOk.mono ai mup⟩,U,U,U⟩ (λfr b9 ca m _ K=>?_);obtain⟨q,s,n1,t,us,⟨cb,O⟩,rfl,rfl,rfl⟩:=K;refine U0 1 [2,4,6,7,8,12,13,14,95,96,110,111,112,113] U ?_;refine G.cd (λan=>?_) λan=>?_
  .have Q:q<2:=by
    have:=aT an;omega
   refine Wu λR c=>?_;refine WG aL.m_ U10 om_ (by rw[SI,GY Q];rfl:(([1, -1]:List Rat).map aP)[q]?=some (aP (qE q))) fl_ (λcf bt=>?_);refine Ws bt U8 ?_;refine C6 1 [2,4,6,7,8,12,13,14,16,95,96,110,111,112] c U ?_;clear c R;refine WQ [(2,3)] U (λR c=>?_);refine Wt U6 ?_;refine WA ae U9 ?_;refine D.call (mO _ (n+a) om_) U (.inr dc_) U6 (SQ _) fl_ (λcg _ ch _ bu=>?_);obtain⟨bz,rfl,rfl⟩:=bu;rw[Hh];have bw:(Value.string ⟨#[45,49]⟩)=tq (-1):=by show ag [45,49]=ag (qtx (-1));rw[fe]
   refine C6 1 [2,4,6,7,8,12,13,14,16,17,95,96,110,111,112] c U ?_;clear c R;refine WM [0,1,2,3,4,5,6,7,8,9,10,11,12,13,14,15,16,17,18,19,20,21,22,23,24,25,26] [(20,1),(5,0),(12,0)] U kr_ (λR d c=>?_);refine Wv 3 U ?_;refine Wz (((k / es.length*bp B:Nat):Int)) (Tc _ _) U6 ?_;refine WO (0) U9 k_ U2 ?_;refine W9 (λ_=>((bkT aJ 1).mono d)) U9 ?_;refine WW (((k / es.length*bp B+(edg es k).1:Nat):Int)) U4 om_ om_ om_ U2 ?_;refine Wv 3 U ?_;refine Wz (((k / es.length*bp B:Nat):Int)) (Tc _ _) U6 ?_;refine WO (1) U9 k_ U2 ?_;refine W9 (λ_=>((bkT aJ 1).mono d)) U9 ?_;refine WW (((k / es.length*bp B+(edg es k).2:Nat):Int)) U4 om_ om_ om_ U2 ?_;refine Wv 3 U ?_;refine WW (((n+k:Nat):Int)) U4 om_ om_ om_ U2 ?_;refine Wv 2 U ?_;refine WN (λ_=>(fu _ (qE q) (SV (aV (xw q) dc_) dc_))) U9 ?_;refine WV ((k / es.length*bp B+(edg es k).1)) U10 (λ_=>⟨by omega,by omega,(T0 _).symm⟩) U2 ?_;refine WZ (j:=0) U11 ap ?_;rw[iq ap];refine WV ((k / es.length*bp B+(edg es k).2)) U10 (λ_=>⟨by omega,by omega,(T0 _).symm⟩) U2 ?_;refine WZ (j:=0) U11 ap ?_;rw[iq ap];refine WV ((n+k)) U10 (λ_=>⟨by omega,by omega,(T0 _).symm⟩) U2 ?_;refine WZ (j:=0) U11 ap ?_;refine Ww [2,4,6,7,8,12,13,14,17,95,96,110,111,112] c U ?_;clear c d R;rw[bw,iq ap,<- pZ];refine G.freezeArr 0 ((rgF (n+a) n (bp B) es.length k (edg es k) (qE q)).map aP) U U bN (by rw[ar,uQ]) (λ_ _ bx=>?_);refine U1 1 U λR c=>?_;refine WA ae U9 ?_;refine Wt U6 ?_;refine WL [s_ bz (n+a) (n+a),ag [48]] U8 ?_;refine WP [[s_ bz (n+a) (n+a),ag [48]]] U12 (λci _ _ bA=>?_);refine W0 (j:=0) U11 bA.m_ U ay (by simp only[SN];omega) fl_ (λao aq au=>?_);refine Wt U6 ?_;refine WB (j:=2) U12 ?_;refine Ww [2,4,6,7,8,12,13,14,95,96,110,111,112] c U ?_;clear c R;refine Wu λR c=>?_;refine Wz _ U U6 ?_;refine C6 1 [2,4,6,7,8,12,13,14,95,96,110,111,112] c U ?_;clear c R;have aM:rows.map (ck a)++(rgL (n+a) n (bp B) es k++(rgK (n+a) n (bp B) es k).take (q+1))=(rows.map (ck a)++(rgL (n+a) n (bp B) es k++(rgK (n+a) n (bp B) es k).take q))++[⟨rgF (n+a) n (bp B) es.length k (edg es k) (qE q),0⟩]:=by rw[CU Q];simp only[Tn]
   have bB:(aB us (rows.map (ck a)++(rgL (n+a) n (bp B) es k++(rgK (n+a) n (bp B) es k).take q))).flatten++[[s_ bz (n+a) (n+a),ag [48]]].flatten=(aB (us++[s_ bz (n+a) (n+a)]) (rows.map (ck a)++(rgL (n+a) n (bp B) es k++(rgK (n+a) n (bp B) es k).take (q+1)))).flatten:=by
    rw[aM,cm O.1,Ta,qtx_zero]
   refine G.perm (L':=[.arr (sR7 ao aq au) 140 2 (rows.length+2*k+(q+1)) (aB (us++[s_ bz (n+a) (n+a)]) (rows.map (ck a)++(rgL (n+a) n (bp B) es k++(rgK (n+a) n (bp B) es k).take (q+1)))).flatten,.arr (sF7 e o p) 32 1 (n+a) ((kI n a).map aP).flatten,.obj y (.cells ⟨[i_ (n+a:Nat),.slice ao aq au,.slice e o p]⟩ 74 (0,0)),.obj v (.cells ⟨[i_ 0,.slice none 0 0,.slice none 0 0]⟩ 74 (0,0))]) (by rw[<- bB];(exact pkL [1,1,0,0] U)) ?_;refine WF (m':=2-(q+1)) om_ mup (hn_ [2,4,6,7,8,12,13,14,95,96,110,111,112] U) ⟨q+1,ao,aq,au,us++[s_ bz (n+a) (n+a)],⟨by omega,by rw[aM];exact fa (RowsOk.m_ O) bx.m_⟩,U,U,U⟩
  have Q:q=2:=by
   have:=SJ an;omega
  subst Q;refine Wu λR c=>?_;refine Wz _ U U6 ?_;refine C6 1 [2,4,6,7,8,95,96] c U ?_;clear c R;rw[show(rgK (n+a) n (bp B) es k).take 2=rgK (n+a) n (bp B) es k from rfl,<- uO]at O⊢;refine WF (m':=a-(k+1)) om_ mup (hn_ [2,4,6,7,8,95,96] U) ⟨k+1,s,n1,t,us,⟨by omega,RowsOk.mono O mup⟩,U,U,U⟩
 obtain rfl:a=k:=by
  have:=SJ ak;omega
 refine Wu λR c=>?_;refine WA ae U9 ?_;refine WB (j:=3) U12 ?_;refine C6 1 [2,3] c U ?_;clear c R;refine G.freezeArr 1 (aB us (rows.map (ck a)++rgL (n+a) n (bp B) es a)) U U (cC _ _) (by rw[bI ai.1,SP,ar,uP]) (λCf bh af=>?_);refine G.freezeArr 1 ((kI n a).map aP) U U bN (by rw[ar,mf]) (λCg cj bC=>?_);refine WE (XZ ah U U U U U ?_);refine⟨U,es,_,U,W,_,_,_,_,_,_,by rw[H];rfl, ?_, ?_⟩
 .rw[H];exact mb (RowsOk.m_ ai) af.m_
 rw[H];exact bC
theorem EK {p:Lp.Sys}{D:Mem}(h:SolO p cc D u):∃(kd:Int)(val:Str)(a:Option Addr)(n1 b:Nat)(A2:Option Addr)(n2 c2:Nat)(c:Option Addr)(d e:Nat),u=.agg ⟨[i_ kd,ag val,.slice a n1 b,.slice A2 n2 c2,.slice c d e]⟩ /\
  ((kd=1/\∃v pt du,val=qtx v/\Lp.OptR p cc 20 v pt du/\n1=p.n/\Sl D 1 (.slice a n1 b) (((List.range p.n).map pt).map aP)/\Sl D 1 (.slice A2 n2 c2) (((List.range p.m).map du).map aP))∨(kd≠1/\(¬ p.Hold∨∃pt ra,Lp.UnbR p cc 20 pt ra))):=by
 cases h with
|opt v pt du f g i h1 h2 =>
  obtain⟨a,b,rfl,_⟩:=id h1;obtain⟨A2,c2,rfl,_⟩:=id h2;exact⟨_,_,_,_,_,_,_,_,_,_,_,U,.inl ⟨U,v,pt,du,U,i,by simp,h1,h2⟩⟩
|inf du g j h1 =>
  obtain⟨A2,c2,rfl,_⟩:=id h1;exact⟨_,_,_,_,_,_,_,_,_,_,_,U,.inr ⟨by decide,.inl j.not⟩⟩
|unb pt ra f l k h1 h2 =>
  obtain⟨a,b,rfl,_⟩:=id h1;obtain⟨A2,c2,rfl,_⟩:=id h2;exact⟨_,_,_,_,_,_,_,_,_,_,_,U,.inr ⟨by decide,.inr ⟨pt,ra,k⟩⟩⟩
abbrev GC (B:Bk)(RO:Nat->List RowQ)(es:List (Nat × Nat)):Lp.Sys:=bQ (bs B*bp B+bs B*es.length) (dS (sD (di B RO) (bs B*bp B) (bp B) es (bs B*es.length)))
abbrev Qg (B:Bk)(es:List (Nat × Nat))(j:Nat):Rat:=(kI (bs B*bp B) (bs B*es.length)).getD j 0
inductive FlatO (B:Bk) (RO:Nat->List RowQ) (es:List (Nat × Nat)) (D:Mem):Value->Prop where
|opt (v:Rat) (pt du:Nat->Rat) (fv dv:Value):Lp.OptR (GC B RO es) (Qg B es) 20 v pt du->FieldsIn D fv (eJ (bs B) (bp B) pt)->Sl D 1 dv (((List.range (GC B RO es).m).map du).map aP)->FlatO B RO es D (.tuple #[.agg ⟨[fv,ag (qtx v),dv]⟩,.int .i64 0])
|inf:¬ (GC B RO es).Hold->FlatO B RO es D (.tuple #[.agg ⟨[.slice none 0 0,ag [],.slice none 0 0]⟩,.int .i64 22])
theorem Calm.rl {B:Bk}{a:List Rat}(h:Calm B a RO):∀r∈di B RO,r.f.length=bs B*bp B:=λr hr=>(h.rowsQ (cK B.obs.length)).l (r.f,r.b) (SL.2 ⟨r,hr,rfl⟩)
theorem M1 (h:∀r∈rows,r.f.length=s*p):∀r∈sD rows (s*p) p es (s*es.length),r.f.length=s*p+s*es.length:=by
 intro r hr;rcases SZ.1 hr with hr|hr
 .obtain⟨x,a,rfl⟩:=SL.1 hr;show(x.f++List.replicate _ 0).length=_;rw[SP,Tf,h x a]
 let⟨k,_,hr⟩:=List.mem_flatMap.1 hr;rcases SY.1 hr with rfl|hr
 .exact uQ _ _ _ _ _ _ _
 rw[S6.1 hr];exact uQ _ _ _ _ _ _ _
theorem ma (h:∀r∈rows,RowI r):∀r∈dS rows,(∀x∈r.1,QB 22 x)/\QB 22 r.2 :=
 lZ (P:=λr=>(∀x∈r.1,QB 22 x)/\QB 22 r.2) λr hr=>⟨λx a=>((h r hr).q.1 x a).le dc_,(h r hr).q.2.le dc_⟩
theorem MX (h:∀r∈rows,RowI r)(a:∀r∈rows,r.f.length=n)(b:rows.length<=150):RowsQ n (dS rows) :=
 ⟨lZ (P:=λr=>r.1.length=n) a,λr hr=>⟨λx c=>((ma h r hr).1 x c).le dc_,(ma h r hr).2.le dc_⟩,by rw[dS,ar];exact b⟩
theorem Ak (h b:Nat):∀x∈kI h b,QB 22 x:=λx a=>by
 rcases SZ.1 a with a|a
 .rw[(List.mem_replicate.1 a).2];exact QB_zero.le dc_
 rw[(List.mem_replicate.1 a).2];decide +kernel
theorem EY (h:n<=m):(((List.range m).map pt).map qtx).take n=((List.range n).map pt).map qtx:=by
 rw[<- UR,<- UR,List.take_range,TJ h]
theorem DI (C:Mem)(e:Tabs C)(f:Value)(B:Bk)(y:List Rat)(b:Nat->List RowQ)(c:BookIn C f B)(h:Calm B y b)(z:bp B<=6)(A:bs B<=2)(W:∀es,EdgL B.tris es->bs B*bp B+bs B*es.length<=12) :
  Pur cx.P 42 [f] C λu D=>∃es,EdgL B.tris es/\FlatO B b es D u:=by
 have E:=c;have F:=h.rich.good;have H:=h.rich.bookz e c;have X:=h.cnt (cK B.obs.length);have az:=h.n12;have Y:∀D:Mem,C.le D->Gives cx.P 92 [f] D (.tuple #[i_ (bs B*bp B:Nat),i_ 0]):=λD Z=>by
  have h:=Bl D f B 0 (H.mono Z) om_;rw[aL rfl]at h;exact h
 obtain⟨v1,v2,tv,cv,ov,rfl,h1,h2,h3,h4,h5⟩:=id c.ex;have aA:=mx_
 refine Wy func42 59 U3 λw0=>Wu λR a=>WH U6 λb1=>WI U5 λb2=>C6 1 [1,2] a U<|G.freeze 1 U λ_ _ o=>Wu λR a=>Ws (bkT o 5) U8<|WY (CR _ e.m_ _ B y b E.m_ h z A) U7 (λaB _ _ aa=>?_);obtain⟨es,x,rfl,d,A1,n1,c1,A2,n2,c2,rfl,ab,ac⟩:=aa;have ad:=W es d;have ae:=M1 (es:=es) h.rl;have I:=Ov (s:=bs B) (p:=bp B) (es:=es) (h.rowI (cK B.obs.length));let⟨af,_⟩:=d.le F.ok.ins z;have aC:bs B*es.length<=30:=T2 A af;have ai:(sD (di B b) (bs B*bp B) (bp B) es (bs B*es.length)).length<=150:=by
  rw[CT];have:(di B b).length<=120:=X;omega
 have aj:=d.ok (n:=bp B) F.ok.ins (bs B);refine Wv 3 U<|WI U5 λb4=>WB (j:=0) U12<|C6 1 [1,2,4,5] a U<|U0 2 [1,2,4,5,15] U<|G.cd (λJ=>?_) λJ=>?_
 .exact absurd J dc_
 refine G.freeze 0 U λ_ _ ak=>Wu λR a=>Ws (bkT ak 3) U8<|WT (HB _ e.m_ (bs B*bp B+bs B*es.length) _ _ (dS (sD (di B b) (bs B*bp B) (bp B) es (bs B*es.length))) (kI (bs B*bp B) (bs B*es.length)) ab.m_ ac.m_ (MX I ae ai) (Ak _ _) (ma I) om_ (mf _ _) (Ot ad (h.rowI (cK B.obs.length)))) U7 fl_ (λaD _ _ al=>?_);obtain⟨rr,rfl,an⟩:=al;obtain⟨kd,val,Ap,K,g,L,nd,cd,Ar,nr,cr,rfl,M⟩:=EK an;refine Wv 3 U<|WI U5 λb6=>WB (j:=0) U12<|C6 1 [1,2,5,6] a U<|G.freeze 0 U λ_ _ i=>U0 2 [1,2,5,6,24] U<|G.cd (λN=>?_) λN=>?_
 .exact absurd N dc_
 refine U1 1 U λR a=>Ws (bkT i 1) U8<|C6 1 [1,2,6,29] a U<|G.cd (λq=>?_) λq=>?_
 .have r:kd≠1:=by simpa using q
  have ao:¬ (GC B b es).Hold:=by
   rcases M with⟨h,_⟩|⟨_,h|⟨pt,ra,hu⟩⟩
   .exact absurd h r
   .exact h
   exact(Oo aj h.rl hu).elim
  refine Wu λR a=>WL ([.slice none 0 0,ag [],.slice none 0 0]) U8<|WB (j:=0) U12<|C6 1 [2,3] a U<|WE (XZ ah U U U U U ?_);exact⟨U,es,d,.inf ao⟩
 have r:kd=1:=by simpa using q
 obtain⟨v,pt,du,rfl,t,rfl,w,aq⟩:∃v pt du,val=qtx v/\Lp.OptR (GC B b es) (Qg B es) 20 v pt du/\K=bs B*bp B+bs B*es.length/\Sl _ 1 (.slice Ap K g) (((List.range (bs B*bp B+bs B*es.length)).map pt).map aP)/\Sl _ 1 (.slice L nd cd) (((List.range (GC B b es).m).map du).map aP):=by
  rcases M with⟨_,h⟩|⟨h,_⟩
  .exact h
  exact absurd r h
 have O:=yK (s:=bs B) (p:=bp B) t.qp;have au:bs B*bp B<=bs B*bp B+bs B*es.length:=Nat.le_add_right _ _;rw[vN]at w;have aE:bs B*bp B+bs B*es.length<=g:=by
  let⟨A',c',Q,av,_⟩:=id w;simp only[Value.slice.injEq]at Q;let⟨_,aF,aG⟩:=Q;simp only[ar,TO]at av;omega
 have S:=w.sub (l:=0) (h:=bs B*bp B) (m:=g) (SM _) am om_ (SH _);rw[TU,<- UR,EY au]at S;refine Wu λR a=>Ws (bkT o 5) U8<|WD (Y _ mup) U7<|C6 5 [1,2,5,6,7] a U<|U0 2 [1,2,5,6,7,37] U<|G.cd (λT=>?_) λT=>?_
 .exact absurd T dc_
 refine WM [0,1,2,3,4,5,6,7,8,9,10] [] U kr_ λR c a=>Ws (bkT o 5) U8<|Wt U6<|Ws (bkT i 1) U8<|Wt U6<|Xd 0 (bs B*bp B) g U12 (λ_=>⟨.inl ⟨U,U⟩,.inr ⟨_,U⟩,.inl ⟨U,U⟩,by omega,by omega,SH _⟩) U2<|WT (yO _ e.m_ _ _ B (((List.range (bs B*bp B)).map pt).map qtx) E.m_ H.m_ om_ S.m_ (yf t.qp) ap) U7 fl_ (λaH _ _ aw=>?_);obtain⟨fv,rfl,k⟩:=aw;rw[O,aL rfl]at k;rw[O];let⟨ax,aI,aJ,ay⟩:=id k;obtain⟨Af,cf,rfl,_⟩:=id ay;rw[ar]at k⊢;refine Wv 5 U<|Ww [2,5,6,8] a U<|U0 2 [2,5,6,8,50] U<|G.cd (λV=>?_) λV=>?_
 .exact absurd V dc_
 refine U1 2 U λR a=>Ws (bkT i 1) U8<|Wt U6<|Ws (bkT i 1) U8<|WL [.slice Af ax.length cf,ag (qtx v),.slice L nd cd] U8<|WB (j:=0) U12<|C6 1 [2,3] a U<|WE (XZ ah U U U U U ?_);exact⟨U,es,d,.opt v pt du _ _ t k.m_ aq.m_⟩
end Go.Proofs.YtfjcldheldflbaaGreatDoor
