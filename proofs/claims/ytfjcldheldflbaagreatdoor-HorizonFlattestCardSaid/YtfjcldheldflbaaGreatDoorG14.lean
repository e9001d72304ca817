import Derived.Test.YtfjcldheldflbaaGreatDoorG13
set_option maxHeartbeats 4000000
namespace Go.Proofs.YtfjcldheldflbaaGreatDoor
open Go.Proofs.Tryz
open Go Go.Jog
set_option maxRecDepth 100000
variable {C:Mem}{RO:Nat->List RowQ}{cc:Nat->Rat}{e:Nat × Nat}{es:List (Nat × Nat)}{h i j k:Nat}{ks:List fE}{l:List Nat}{m more n p:Nat}{pt:Nat->Rat}{r r':RowQ}{rows:List RowQ}{s:Nat}{sg:Rat}{tris:List Tri}{u:Value}{us:List Value}{v:Value}{vs:List Value}{w:Value}{x:Rat}{y:Nat->Rat}
def prC (vs:List Value)(l:List SrcQ):List (List Value):=aA vs (l.map SrcQ.r)
theorem CX {l:List SrcQ}{s:SrcQ}(a:vs.length=l.length)(c:vs[i]?=some w)(d:l[i]?=some s):prC (vs.take (i+1)) (l.take (i+1))=prC (vs.take i) (l.take i)++[[w,ae (qtx s.r.b)]]:=by
 unfold prC;rw[SH,SH,c,d,SV];exact ck (by simp[a]) w s.r
theorem MH {l:List SrcQ}{s:SrcQ}(a:vs[i]?=some w)(c:l[i]?=some s):(bY vs l)[i]?=some [i_ s.n,w,ae (qtx s.r.b)]:=by
 unfold bY;rw[List.getElem?_zipWith,a,c]
theorem OA (a:List Value)(l:List SrcQ):∀r∈prC a l,r.length=2:=co _ _
theorem jW (h:RowsOk C vs rows)(b:Sl C 2 v (aA vs rows)):RowsT C v ((dD rows).map dp):=by
 refine⟨vs,by rw[h.1];simp[dD],λi w r c hr=>?_, ?_⟩
 .rw[dD,Th,Sh]at hr;cases a:rows[i]? with
 |none=>rw[a]at hr;cases hr
 |some x =>
   rw[a]at hr;cases hr
   have:=h.2 i w x c a;show Sl C 1 w ((x.f.map qtx).map kK);rw[<- fx];exact this
 have e:List.zipWith (λw (r:List Str × Str)=>[w,ae r.2]) vs ((dD rows).map dp)=aA vs rows:=by
  unfold dD aA;rw[Th,List.zipWith_map_right];rfl
 rw[e];exact b
structure Calm (B:Bk)(fs:List Rat)(RO:Nat->List RowQ):Prop where
 rich:Rich B fs RO
 n12:bs B*bp B<=12
 thI:∀r∈bJ B,RowI r
 roI:∀i,i<B.obs.length->∀r∈RO i,RowI r
 th:(bJ B).length<=24
 ro:∀i,i<B.obs.length->(RO i).length<=8
 ob:B.obs.length<=12
structure SetIn (n:Nat)(l:List Nat):Prop where
 lt:∀i∈l,i<n
 nd:l.Nodup
def oK (B:Bk)(RO:Nat->List RowQ)(l:List Nat):List RowQ:=(bU (bJ B) RO l).map SrcQ.r
theorem jX {B:Bk}:oK B RO l=bJ B++l.flatMap RO:=by
 unfold oK bU kV;rw[SV,Th,List.map_flatMap];congr 1
 .exact List.map_id _
 congr 1;funext i;rw[Th];exact List.map_id _
theorem SetIn.len (h:SetIn n l):l.length<=n:=by
 have:=List.Nodup.length_le_of_subset (l₂:=List.range n) h.nd λv a=>SE.2 (h.lt v a)
 rwa [Tn]at this
section
variable {B:Bk} {fs:List Rat} {RO:Nat->List RowQ} {l:List Nat}
theorem LG {c:Nat}{f:Nat->List RowQ}:∀{l:List Nat},(∀i∈l,(f i).length<=c)->(l.flatMap f).length<=c*l.length
|[],_=>Sm _
|i::l,h=>by
  rw[List.flatMap_cons,So,SC,Nat.mul_succ];have h1:=h i Sj;have h2:=LG (l:=l) λj a=>h j (Sv _ a);omega
theorem Calm.cnt (h:Calm B fs RO)(a:SetIn B.obs.length l):(oK B RO l).length<=120:=by
 rw[jX,So];have h1:=LG (c:=8) (f:=RO) λi b=>h.ro i (a.lt i b);have h2:=a.len;have h3:=h.ob;have h4:=h.th;omega
theorem Calm.rowI (h:Calm B fs RO)(a:SetIn B.obs.length l):∀r∈oK B RO l,RowI r:=by
 intro r hr;rw[jX]at hr;rcases Sx.1 hr with hr|hr
 .exact h.thI r hr
 obtain⟨i,b,hr⟩:=List.mem_flatMap.1 hr;exact h.roI i (a.lt i b) r hr
theorem xa {s p:Nat}{a:List Lay}:∀n,∀r∈bQ s p a n,r.f.length=s*p
|0,r,hr=>by cases hr
|n+1,r,hr=>by
  rcases Sx.1 hr with hr|hr
  .exact xa n r hr
  have:∀k,∀r∈bZ s p (a.getD (n+1) ⟨[],0,none⟩) (n+1) k,r.f.length=s*p:=by
   intro k;induction k with
  |zero=>intro r hr;cases hr
  |succ k b =>
    intro r hr;rcases Sx.1 hr with hr|hr
    .exact b r hr
    unfold kO at hr;rcases Sw.1 hr with rfl|hr
    .exact jY _ _
    split at hr
    .cases hr
    rw[SD.1 hr];exact jY _ _
  exact this p r hr
theorem Qe {D:Int}{q:Rat}(h:Wl D q)(a:D≠0)(b:D.natAbs<=999999999):QB 1 q:=by
 obtain⟨z,h1,h2⟩:=h;exact qG a h1 om_ om_
theorem RowI.q {r:RowQ}(h:RowI r):(∀x∈r.f,QB 1 x)/\QB 1 r.b:=by
 obtain⟨D,h0,a,h1,h2⟩:=h;exact⟨λx c=>Qe (h1 x c) h0 a,Qe h2 h0 a⟩
theorem lX {a:List RowQ}{P:List Rat × Rat->Prop}(h:∀r∈a,P (r.f,r.b)):∀x∈dD a,P x:=λx c=>by
 obtain⟨r,hr,rfl⟩:=Sn.1 c;exact h r hr
theorem Calm.q22 (h:Calm B fs RO)(a:SetIn B.obs.length l):∀r∈dD (oK B RO l),(∀x∈r.1,QB 22 x)/\QB 22 r.2 :=
 lX (P:=λr=>(∀x∈r.1,QB 22 x)/\QB 22 r.2) λr hr=>⟨λx b=>((h.rowI a r hr).q.1 x b).le dc_,(h.rowI a r hr).q.2.le dc_⟩
theorem Calm.rowsQ (h:Calm B fs RO)(a:SetIn B.obs.length l):RowsQ (bs B*bp B) (dD (oK B RO l)):=by
 refine⟨lX (P:=λr=>r.1.length=bs B*bp B) λr hr=>?_,λr hr=>⟨λx b=>((h.q22 a r hr).1 x b).le dc_,(h.q22 a r hr).2.le dc_⟩, ?_⟩
 .rw[jX]at hr;rcases Sx.1 hr with hr|hr
  .exact xa _ r hr
  obtain⟨i,c,hr⟩:=List.mem_flatMap.1 hr;exact(qC h.rich (a.lt i c)).2 r hr
 have:=h.cnt a;rw[dD,au];omega
theorem Calm.lim (h:Calm B fs RO)(a:SetIn B.obs.length l):Lp.Lim (bN (bs B*bp B) (dD (oK B RO l))) (λ_=>0) 20:=Lh h.n12 (h.rowI a)
end
def cU (B:Bk)(RO:Nat->List RowQ):List RowQ:=oK B RO (List.range B.obs.length)
theorem cH (n:Nat):SetIn n (List.range n):=⟨λ_a h=>SE.1 h,List.nodup_range⟩
theorem vB {l:List Rat}(a:i<l.length):(l.set i x).getD j 0=if j=i then x else l.getD j 0:=by
 rw[ak,List.getElem?_set,ak];by_cases h:i=j
 .subst h;rw[aK rfl,aK a,aK rfl];rfl
 rw[aF h,aF λe=>h e.symm]
theorem rx (n j:Nat):(List.replicate n (0:Rat)).getD j 0=0:=Ha n j
def rgF (n h p m k:Nat)(e:Nat × Nat)(sg:Rat):List Rat:=(((List.replicate n (0:Rat)).set (k / m*p+e.1) sg).set (k / m*p+e.2) (-sg)).set (h+k) (-1)
def edg (es:List (Nat × Nat))(k:Nat):Nat × Nat:=es.getD (k % es.length) (0,0)
def rgK (n h p:Nat)(es:List (Nat × Nat))(k:Nat):List RowQ:=[⟨rgF n h p es.length k (edg es k) 1,0⟩,⟨rgF n h p es.length k (edg es k) (-1),0⟩]
def rgL (n h p:Nat)(es:List (Nat × Nat))(t:Nat):List RowQ:=(List.range t).flatMap (rgK n h p es)
def cj (more:Nat)(r:RowQ):RowQ:=⟨r.f++List.replicate more 0,r.b⟩
def sj (rows:List RowQ)(h p:Nat)(es:List (Nat × Nat))(more:Nat):List RowQ:=rows.map (cj more)++rgL (h+more) h p es more
def kH (h more:Nat):List Rat:=List.replicate h 0++List.replicate more 1
theorem uL (n h p m k:Nat)(e:Nat × Nat)(a:Rat):(rgF n h p m k e a).length=n:=by unfold rgF;simp
theorem uJ (n h p:Nat)(a:List (Nat × Nat))(t:Nat):rgL n h p a (t+1)=rgL n h p a t++rgK n h p a t:=by
 unfold rgL;rw[Tz,List.flatMap_append,List.flatMap_cons,List.flatMap_nil,SF]
theorem uK (n h p:Nat)(a:List (Nat × Nat)):∀t,(rgL n h p a t).length=2*t
|0=>rfl
|t+1=>by rw[uJ,So,uK n h p a t];rfl
theorem CM (a:List RowQ)(h p:Nat)(c:List (Nat × Nat))(b:Nat):(sj a h p c b).length=a.length+2*b:=by
 unfold sj;rw[So,au,uK]
theorem lZ (h a:Nat):(kH h a).length=h+a:=by unfold kH;simp
structure EdgeOk (s p:Nat)(es:List (Nat × Nat)):Prop where
 lt:∀e∈es,e.1<e.2/\e.2<p
theorem AY (a:k<s*es.length):edg es k∈es/\k / es.length<s:=by
 have h0:0<es.length:=by
  rcases Tx es.length with h|h
  .rw[h]at a;omega
  exact h
 refine⟨?_,(Ug h0).2 a⟩;unfold edg;have hm:=S5 k h0;rw[ak,ah hm];exact Td hm
theorem Do {a:Nat}(b:a<s)(c:i<p):a*p+i<s*p:=by
 have:(a+1)*p<=s*p:=SY _ b;rw[Nat.succ_mul]at this;omega
theorem DG (h:EdgeOk s p es)(a:k<s*es.length):k / es.length*p+(edg es k).1<s*p/\k / es.length*p+(edg es k).2<s*p/\(edg es k).1≠(edg es k).2:=by
 obtain⟨h1,h2⟩:=AY a;obtain⟨h3,h4⟩:=h.lt _ h1;exact⟨Do h2 om_,Do h2 h4,by omega⟩
theorem Of (a:k / m*p+e.1<h)(b:k / m*p+e.2<h)(c:h+k<n)(j:Nat):(rgF n h p m k e sg).getD j 0=if j=h+k then -1 else if j=k / m*p+e.2 then -sg else if j=k / m*p+e.1 then sg else 0:=by
 unfold rgF;rw[vB am,vB am,vB am,rx]
theorem Aa (a:i<n):Lp.sumN (λj=>(if j=i then x else 0)*y j) n=x*y i:=by
 rw[Lp.sumN_at a,Lp.sumN_zero λj _=>?_]
 .rw[aK rfl];grind
 by_cases h:j=i
 .rw[aK h]
 rw[aF h,aF h];grind
theorem Oe (a:k / m*p+e.1<h)(b:k / m*p+e.2<h)(d:e.1≠e.2)(c:h+k<n) :
  Lp.sumN (λj=>(rgF n h p m k e sg).getD j 0*y j) n=sg*y (k / m*p+e.1)+(-sg*y (k / m*p+e.2) + -1*y (h+k)):=by
 rw[<- Aa (i:=k / m*p+e.1) (n:=n) (x:=sg) om_,<- Aa (i:=k / m*p+e.2) (n:=n) (x:=-sg) om_,<- Aa (i:=h+k) (n:=n) (x:=-1) om_,<- Lp.sumN_add,<- Lp.sumN_add];refine Lp.sumN_congr λj _=>?_;rw[Of a b c];by_cases h1:j=h+k
 .rw[aK h1,aF om_,aF om_,aK h1];grind
 by_cases h2:j=k / m*p+e.2
 .rw[aF h1,aK h2,aF om_,aK h2,aF h1];grind
 by_cases h3:j=k / m*p+e.1
 .rw[aF h1,aF h2,aK h3,aF h2,aF h1];grind
 rw[aF h1,aF h2,aF h3,aF h2,aF h1];grind
theorem gj :(bN n (dD rows)).At y ↔ ∀r∈rows,Lp.sumN (λj=>r.f.getD j 0*y j) n<=r.b:=by
 have hm:(bN n (dD rows)).m=rows.length:=au _;constructor
 .intro h r hr;obtain⟨i,c,rfl⟩:=List.mem_iff_getElem.1 hr;have h1:=h i (by rw[hm];exact c);have d:(bN n (dD rows)).a i=λj=>rows[i].f.getD j 0:=by show(λj=>((dD rows).getD i ([],0)).1.getD j 0)=_;rw[nF c]
  have e:(bN n (dD rows)).b i=rows[i].b:=by show((dD rows).getD i ([],0)).2=_;rw[nF c]
  rw[d,e]at h1;exact h1
 intro h i c;rw[hm]at c;have h1:=h rows[i] (Td c);have d:(bN n (dD rows)).a i=λj=>rows[i].f.getD j 0:=by show(λj=>((dD rows).getD i ([],0)).1.getD j 0)=_;rw[nF c]
 have e:(bN n (dD rows)).b i=rows[i].b:=by show((dD rows).getD i ([],0)).2=_;rw[nF c]
 rw[d,e];exact h1
theorem BV (a:r.f.length=h):Lp.sumN (λj=>(cj more r).f.getD j 0*y j) (h+more)=Lp.sumN (λj=>r.f.getD j 0*y j) h:=by
 rw[Lp.sumN_split,Lp.sumN_zero (n:=more) λj _=>?_]
 .rw[show Lp.sumN (λj=>(cj more r).f.getD j 0*y j) h=Lp.sumN (λj=>r.f.getD j 0*y j) h from Lp.sumN_congr λj b=>?_]
  .grind
  show(r.f++List.replicate more 0).getD j 0*y j=_;rw[ak,Ta om_,<- ak]
 show(r.f++List.replicate more 0).getD (h+j) 0*y (h+j)=0;rw[ak,SR om_,<- ak,rx];grind
theorem vc :Lp.sumN (λj=>(kH h more).getD j 0*y j) (h+more)=Lp.sumN (λk=>y (h+k)) more:=by
 rw[Lp.sumN_split,Lp.sumN_zero (n:=h) λj a=>?_]
 .rw[show Lp.sumN (λr=>(kH h more).getD (h+r) 0*y (h+r)) more=Lp.sumN (λk=>y (h+k)) more from Lp.sumN_congr λj a=>?_]
  .grind
  unfold kH;rw[ak,SR al,TC,aK am];show 1*_=_;grind
 unfold kH;rw[ak,Ta am,<- ak,rx];grind
def abR (x:Rat):Rat:=if x<0 then -x else x
theorem zo {y:Rat}:abR x<=y ↔ x<=y/\-x<=y:=by
 unfold abR;split <;> grind
theorem PI (x:Rat):0<=abR x:=by
 unfold abR;split <;> grind
def Fu (p:Nat)(es:List (Nat × Nat))(y:Nat->Rat)(k:Nat):Rat:=y (k / es.length*p+(edg es k).1)-y (k / es.length*p+(edg es k).2)
def QA (p:Nat)(es:List (Nat × Nat))(y:Nat->Rat)(t:Nat):Rat:=Lp.sumN (λk=>abR (Fu p es y k)) t
section
variable {rows:List RowQ} {s p:Nat} {es:List (Nat × Nat)} {y:Nat->Rat}
theorem CL (e:EdgeOk s p es)(d:∀r∈rows,r.f.length=s*p):(bN (s*p+s*es.length) (dD (sj rows (s*p) p es (s*es.length)))).At y ↔ (bN (s*p) (dD rows)).At y/\∀k,k<s*es.length->abR (Fu p es y k)<=y (s*p+k):=by
 rw[gj,gj];have c:∀k,k<s*es.length->∀sg,Lp.sumN (λj=>(rgF (s*p+s*es.length) (s*p) p es.length k (edg es k) sg).getD j 0*y j) (s*p+s*es.length)=sg*Fu p es y k-y (s*p+k):=λk a sg=>by
  obtain⟨h1,h2,h3⟩:=DG e a;rw[Oe h1 h2 h3 om_];unfold Fu;grind
 constructor
 .intro h;refine⟨λr hr=>?_,λk a=>?_⟩
  .have:=h (cj _ r) (T9 _ (Ut hr));rw[BV (d r hr)]at this;exact this
  have hm:∀x∈rgK (s*p+s*es.length) (s*p) p es k,x∈sj rows (s*p) p es (s*es.length):=λx b=>Uf _ (List.mem_flatMap.2 ⟨k,SE.2 a,b⟩);have h1:=h _ (hm _ Sj);have h2:=h _ (hm _ (Sv _ Sj));rw[c k a]at h1 h2;rw[zo];simp only at h1 h2;constructor <;> grind
 rintro ⟨h1,h2⟩ r hr;rcases Sx.1 hr with hr|hr
 .obtain⟨x,b,rfl⟩:=Sn.1 hr;rw[BV (d x b)];exact h1 x b
 obtain⟨k,a,hr⟩:=List.mem_flatMap.1 hr;have a:=SE.1 a;have h3:=zo.1 (h2 k a);rcases Sw.1 hr with rfl|hr
 .rw[c k a];simp only;grind
 rw[SD.1 hr,c k a];simp only;grind
theorem G7 (e:EdgeOk s p es)(i:∀r∈rows,r.f.length=s*p)(h:(bN (s*p) (dD rows)).At y) :
  ∃z:Nat->Rat,(∀j,j<s*p->z j=y j)/\(bN (s*p+s*es.length) (dD (sj rows (s*p) p es (s*es.length)))).At z/\Lp.sumN (λj=>(kH (s*p) (s*es.length)).getD j 0*z j) (s*p+s*es.length)=QA p es y (s*es.length):=by
 obtain⟨z,g⟩:∃z:Nat->Rat,z=λj=>if j<s*p then y j else abR (Fu p es y (j-s*p)):=⟨_,rfl⟩;have h1:∀j,j<s*p->z j=y j:=λj c=>by rw[g];exact aK c
 have h2:∀k,z (s*p+k)=abR (Fu p es y k):=λk=>by rw[g];show(if s*p+k<s*p then _ else _)=_;rw[aF om_,TN]
 have h3:∀k,k<s*es.length->Fu p es z k=Fu p es y k:=λk d=>by
  obtain⟨a,b,_⟩:=DG e d;unfold Fu;rw[h1 _ a,h1 _ b]
 refine⟨z,h1,(CL e i).2 ⟨gj.2 λr hr=>?_,λk d=>by rw[h3 k d,h2];exact Rat.le_refl⟩, ?_⟩
 .have:=gj.1 h r hr;rw[Lp.sumN_congr λj c=>by rw[h1 j c]];exact this
 rw[vc];exact Lp.sumN_congr λk _=>h2 k
theorem N9 {e:Nat}{v:Rat}{a g:Nat->Rat}(b:EdgeOk s p es)(c:∀r∈rows,r.f.length=s*p)(h:Lp.OptR (bN (s*p+s*es.length) (dD (sj rows (s*p) p es (s*es.length)))) (λj=>(kH (s*p) (s*es.length)).getD j 0) e v a g) :
  (bN (s*p) (dD rows)).At a/\v=QA p es a (s*es.length):=by
 obtain⟨h1,h2⟩:=(CL b c).1 h.row;refine⟨h1, ?_⟩;obtain⟨z,_,h3,h4⟩:=G7 b c h1;have h5:=h.least h3;have d:=h.wor;have i:QA p es a (s*es.length)<=Lp.sumN (λk=>a (s*p+k)) (s*es.length):=Lp.sumN_mono h2;rw[show(bN (s*p+s*es.length) (dD (sj rows (s*p) p es (s*es.length)))).n=s*p+s*es.length from rfl]at h5 d;rw[h4]at h5;rw[vc]at d;grind
theorem Ob (a:EdgeOk s p es)(b:∀r∈rows,r.f.length=s*p)(h:¬ (bN (s*p+s*es.length) (dD (sj rows (s*p) p es (s*es.length)))).Hold):¬ (bN (s*p) (dD rows)).Hold:=by
 rintro ⟨y,hy⟩;obtain⟨z,_,h1,_⟩:=G7 a b hy;exact h ⟨z,h1⟩
theorem N8 {a:Nat}{b c:Nat->Rat}(d:EdgeOk s p es)(e:∀r∈rows,r.f.length=s*p)(h:Lp.UnbR (bN (s*p+s*es.length) (dD (sj rows (s*p) p es (s*es.length)))) (λj=>(kH (s*p) (s*es.length)).getD j 0) a b c):False:=by
 obtain⟨y,hy,g⟩:=h.below 0;rw[show(bN (s*p+s*es.length) (dD (sj rows (s*p) p es (s*es.length)))).n=s*p+s*es.length from rfl,vc]at g;have h1:=((CL d e).1 hy).2;have h2:0<=Lp.sumN (λk=>y (s*p+k)) (s*es.length):=Lp.sumN_ge λk i=>Rat.le_trans (PI _) (h1 k i);grind
end
theorem Oc (h:∀r∈rows,RowI r):∀r∈sj rows (s*p) p es (s*es.length),RowI r:=by
 intro r hr;have d:Wl 1 1:=⟨1,by decide +kernel,by decide⟩;have b:Wl 1 (-1):=⟨-1,by decide +kernel,by decide⟩;rcases Sx.1 hr with hr|hr
 .obtain⟨x,e,rfl⟩:=Sn.1 hr;obtain⟨D,h0,f,h1,h2⟩:=h x e;refine⟨D,h0,f,λq a=>?_,h2⟩;rcases Sx.1 a with a|a
  .exact h1 q a
  rw[(List.mem_replicate.1 a).2];exact Wl.zero _
 obtain⟨k,g,hr⟩:=List.mem_flatMap.1 hr;have c:∀sg:Rat,Wl 1 sg->∀q∈rgF (s*p+s*es.length) (s*p) p es.length k (edg es k) sg,Wl 1 q:=λsg hs q a=>by
  unfold rgF at a;rcases TH a with a|rfl
  .rcases TH a with a|rfl
   .rcases TH a with a|rfl
    .rw[(List.mem_replicate.1 a).2];exact Wl.zero _
    exact hs
   exact hs.neg
  exact b
 rcases Sw.1 hr with rfl|hr
 .exact⟨1,by decide,by decide,c 1 d,Wl.zero _⟩
 rw[SD.1 hr];exact⟨1,by decide,by decide,c (-1) b,Wl.zero _⟩
theorem Od (h b j:Nat):Wl 1 ((kH h b).getD j 0):=by
 unfold kH;rw[ak];cases a:(List.replicate h (0:Rat)++List.replicate b 1)[j]? with
|none=>exact Wl.zero _
|some q =>
  rcases Sx.1 (aJ a) with a|a
  .rw[(List.mem_replicate.1 a).2];exact Wl.zero _
  rw[(List.mem_replicate.1 a).2];exact⟨1,by decide +kernel,by decide⟩
theorem Oa (a:s*p+s*es.length<=12)(h:∀r∈rows,RowI r):Lp.Lim (bN (s*p+s*es.length) (dD (sj rows (s*p) p es (s*es.length)))) (λj=>(kH (s*p) (s*es.length)).getD j 0) 20:=vl a (Oc h) ⟨1,by decide,by decide,λj _=>Od _ _ j⟩
theorem Qy (a:RowI r)(b:Lp.CmD n k pt)(t:i<=n)(u:n<=1000):QB (k+2) (Lp.sumN (λj=>r.f.getD j 0*pt j) i):=by
 obtain⟨D,h0,c,h1,_⟩:=a;obtain⟨d,g0,hd,g⟩:=b;have v:0<B9 ^ k:=om_;obtain⟨Z,e,h⟩:∃Z:Int,Lp.sumN (λj=>r.f.getD j 0*pt j*((D*d:Int):Rat)) i=Z/\Z.natAbs<=i*(999999999*B9 ^ k):=Lp.sumN_int λj w=>by
  obtain⟨z,e,l⟩:=g j om_;obtain⟨y,m,hy⟩:Wl D (r.f.getD j 0):=by
   rw[ak];cases o:r.f[j]? with
  |none=>exact Wl.zero _
  |some q=>exact h1 q (aJ o)
  refine⟨y*z, ?_, ?_⟩
  .rw[Ti,Ti,<- e,<- m];grind
  rw[TF];exact TA hy (VT l)
 have p:Lp.sumN (λj=>r.f.getD j 0*pt j) i*((D*d:Int):Rat)=Z:=by
  rw[<- e,VV,<- Lp.sumN_mul];exact Lp.sumN_congr λj _=>VV _ _
 have s:1000*(999999999*B9 ^ k)<B9 ^ (k+2):=by
  rw[Uw,show B9 ^ 2=1000000000000000000 from by decide];omega
 refine Lp.Quo.qb (K:=1000*(999999999*B9 ^ k)) ⟨Z,D*d,Int.mul_ne_zero h0 g0,p, ?_, ?_⟩ s
 .exact Su h (SY _ om_)
 rw[TF];have:=TA c (VT hd);omega
theorem R4 {z:Int}(h:s*p<=60):ofE z s p=z:=by
 unfold ofE;split
 .rfl
 rename_i h2;have:z=0:=by simpa using h2
 rw[aF om_,this]
theorem Bd (C:Mem)(a:Value)(B:Bk)(z:Int)(b:BookZ C a B z)(h:bs B*bp B<=60):Gives cx.P 92 [a] C (.tuple #[i_ (if z=0 then ((bs B*bp B:Nat):Int) else 0),i_ z]):=by
 have h1:=LY C a B z b;rw[R4 h]at h1;exact h1
theorem mJ (C:Mem)(n:Nat)(h:n<=100000):Jog.Fn cx.P 77 [i_ n] C [] λu _f a=>∃b,u=s_ b n n/\a=[.arr u 32 1 n (List.replicate n (ae [48]))]:=by
 refine V7 func77 6 U3 λw0=>U0 1 [0] U<|Wt [(2,3)] U λR c=>Wq [[ae [48]]] U12 λg _ _ d=>V2 U6<|D.call (jZ _ _ n [48] d.m_ om_) U (.inr dc_) U6 (Sp _) fl_ λi _ j _ e=>C6 1 [2] c U ?_;obtain⟨bz,rfl,rfl⟩:=e;refine Wd (WD U U ?_);exact⟨bz,U,U⟩
theorem G2 (B:Bk)(a:Nat->List RowQ):(bU (bJ B) a (List.range B.obs.length)).map SrcQ.r=cU B a:=rfl
abbrev sC7 (A:Option Addr)(n c:Nat):Value:=.slice A n c
theorem iH (C:Mem)(M:Tabs C)(g:Value)(B:Bk)(N:List Rat)(c:Nat->List RowQ)(o:BookIn C g B)(h:Calm B N c) :
  Jog.Fn cx.P 37 [g] C [] λu D k=>∃(d:Option Addr)(e bz:Nat)(vs:List Value),u=.tuple #[.agg ⟨[i_ (bs B*bp B:Nat),.slice d (cU B c).length e,s_ bz (bs B*bp B) (bs B*bp B)]⟩,i_ 0]/\RowsOk D vs (cU B c) /\
   k=[.arr (.slice d (cU B c).length e) 140 2 (cU B c).length (aA vs (cU B c)).flatten,.arr (s_ bz (bs B*bp B) (bs B*bp B)) 32 1 (bs B*bp B) (List.replicate (bs B*bp B) (ae [48]))]:=by
 have av:=o;have X:=h.rich.bookz M o;have Y:=h.cnt (cH _);have Z:=h.n12;have aw:=h.ob;obtain⟨l,x⟩:∃l,bU (bJ B) c (List.range B.obs.length)=l:=⟨_,rfl⟩;have O:cU B c=l.map SrcQ.r:=by rw[<- G2,x]
 have ay:l.length<=120:=by
  have:=Y;rw[show oK B c (List.range B.obs.length)=cU B c from rfl,O,au]at this;exact this
 have aa:∀D:Mem,C.le D->Pur cx.P 54 [g] D λu E=>∃v,u=.tuple #[v,i_ 0]/\D9 E v l:=λD p=>by
  have:=Nr D (M.mono p) g B N c (o.mono p) h.rich om_ (by rw[x];omega);rw[x]at this;exact this
 obtain⟨n,Q⟩:∃n,bs B*bp B=n:=⟨_,rfl⟩;have ab:∀D:Mem,C.le D->Gives cx.P 92 [g] D (.tuple #[i_ n,i_ 0]):=λD p=>by
  have h:=Bd D g B 0 (X.mono p) om_;rw[aK rfl,Q]at h;exact h
 rw[O];rw[Q]at Z⊢;obtain⟨v1,v2,tv,cv,ov,rfl,h1,h2,h3,h4,h5⟩:=id o.ex;have az:=mx_
 refine V7 func37 47 U3 λw0=>V3 λR a=>Wi U6 λb1=>Wg U5 λq=>C6 1 [1,2] a U<|G.freeze 1 U λ_ _ S=>V3 λR a=>V1 (bkT S 5) U8<|Wz (aa _ mup) U7 (λaB _ _ ad=>?_);obtain⟨wv,rfl,ag⟩:=ad;obtain⟨vs,y,z⟩:=ag;have T:=jT y;obtain⟨Aw,cw,rfl,ai,aC,_⟩:=id z;have aj:(bY vs l).length=l.length:=by unfold bY;simp[T]
 rw[aj]at z ai⊢;refine C6 5 [1,2,4,5] a U<|U0 2 [1,2,4,5,16] U<|G.cd (λV=>?_) λV=>?_
 .exact absurd V dc_
 refine V3 λR a=>V1 (bkT S 5) U8<|Wb (ab _ mup) U7<|C6 5 [2,4,5,6] a U<|U0 2 [2,4,5,6,25] U<|G.cd (λW=>?_) λW=>?_
 .exact absurd W dc_
 refine Wt [(2,3)] U λR a=>V4 2 U<|D.call (mJ _ n om_) U (.inr dc_) U6 (Sp _) fl_ (λaD _ aE _ ak=>?_);obtain⟨bz,rfl,rfl⟩:=ak;refine Wm [i_ n,.slice none 0 0,s_ bz n n] U8<|Wg U5 λt=>Wa (j:=0) U12<|V5 [2,4,7] a U<|U0 3 [2,7,32,33,34] U<|G.nilArr 140 2<|G.perm (L':=[.arr (sC7 none 0 0) 140 2 0 (prC (vs.take 0) (l.take 0)).flatten,.arr (s_ bz n n) 32 1 n (List.replicate n (ae [48])),.obj t (.cells ⟨[i_ n,.slice none 0 0,s_ bz n n]⟩ 74 (0,0)),.obj q (.cells ⟨[i_ 0,.slice none 0 0,.slice none 0 0]⟩ 74 (0,0))]) (pkL [0,1,0,0] U)<|G.loop (λfr C' k μ=>∃(i:Nat)(d:Option Addr)(n1 e:Nat),(i<=l.length)/\fr=[(2,[],p_ q),(7,[],p_ t),(32,[],.slice Aw l.length cw),(33,[],i_ l.length),(34,[],i_ i)]/\k=[.arr (sC7 d n1 e) 140 2 i (prC (vs.take i) (l.take i)).flatten,.arr (s_ bz n n) 32 1 n (List.replicate n (ae [48])),.obj t (.cells ⟨[i_ n,.slice d n1 e,s_ bz n n]⟩ 74 (0,0)),.obj q (.cells ⟨[i_ 0,.slice none 0 0,.slice none 0 0]⟩ 74 (0,0))]/\μ=l.length-i) (hn_ [2,7,32,33,34] U) ⟨0,none,0,0,Sm _,U,U,U⟩ (λfr aF aG m _ hI=>?_);obtain⟨i,d,n1,e,hi,rfl,rfl,rfl⟩:=hI;refine U0 1 [2,7,32,33,34,35] U<|G.cd (λA=>?_) λA=>?_
 .have F:i<l.length:=by
   have:=RD A;omega
  obtain⟨s,H⟩:∃s,l[i]?=some s:=⟨l[i],ah F⟩;obtain⟨w,I⟩:∃w,vs[i]?=some w:=⟨vs[i]'om_,ah om_⟩;have al:=y.2 i w s.r I (by rw[Sh,H];rfl);obtain⟨Ax,am,rfl,_⟩:=id al;have an:=CX T I H;refine V3 λR a=>Wf z.m_ U10 om_ (MH I H) fl_ λaH ao=>V1 ao U8<|Wg U5 λb9=>Wa (j:=0) U12<|V5 [2,7,9,32,33,34] a U<|G.freeze 0 U λ_ _ ap=>U1 1 U λR a=>V9 ac U9<|V2 U6<|V1 (bkT ap 2) U8<|Wq [[.slice Ax (s.r.f.map eH).length am,ae (qtx s.r.b)]] U12 λaI _ _ aq=>WB (j:=0) U11 aq.m_ U ax (by show(i+1)*40<=_;omega) fl_ λJ K L=>V2 U6<|Wa (j:=2) U12<|V5 [2,7,32,33,34] a U<|V3 λR a=>V8 _ U U6<|C6 1 [2,7,32,33,34] a U<|G.perm (L':=[.arr (sC7 J K L) 140 2 (i+1) (prC (vs.take (i+1)) (l.take (i+1))).flatten,.arr (s_ bz n n) 32 1 n (List.replicate n (ae [48])),.obj t (.cells ⟨[i_ n,.slice J K L,s_ bz n n]⟩ 74 (0,0)),.obj q (.cells ⟨[i_ 0,.slice none 0 0,.slice none 0 0]⟩ 74 (0,0))]) (by rw[an,SI];(exact pkL [1,1,0,0] U))<|We (m':=l.length-(i+1)) om_ mup (hn_ [2,7,32,33,34] U) ⟨i+1,J,K,L,om_,U,U,U⟩
 have F:i=l.length:=by
  have:=Si A;omega
 subst F;refine V3 λR a=>V9 ac U9<|Wa (j:=3) U12<|C6 1 [2,3] a U ?_;rw[SL (show vs.length<=l.length by omega),Ss];refine WH 3 U<|XG af (λA0 c0 ar _=>?_);obtain⟨rfl,rfl,rfl⟩:d=A0/\n1=l.length/\e=c0:=by cases ar;exact⟨rfl,rfl,rfl⟩
 refine Wd (YD 0 U U U U U U ?_);exact⟨d,e,bz,vs,by rw[au];rfl,RowsOk.mono y mup,by rw[au];rfl⟩
def fh (s p:Nat)(pt:Nat->Rat):List (List Str):=chunks s p (((List.range (s*p)).map pt).map qtx)
abbrev nC (B:Bk)(RO:Nat->List RowQ):Lp.Sys:=bN (bs B*bp B) (dD (cU B RO))
inductive BuiO (B:Bk) (RO:Nat->List RowQ) (D:Mem):Value->Prop where
|yes (pt:Nat->Rat) (v:Value):(nC B RO).At pt->Lp.CmD (bs B*bp B) 20 pt->(∀j,QB 20 (pt j))->FieldsIn D v (fh (bs B) (bp B) pt)->BuiO B RO D (.tuple #[v,.agg ⟨[.slice none 0 0]⟩,.bool true,.int .i64 0])
|no (du:Nat->Rat) (vd:Value):Lp.InfR (nC B RO) 20 du->Sl D 1 vd (((List.range (cU B RO).length).map du).map aM)->BuiO B RO D (.tuple #[.slice none 0 0,.agg ⟨[vd]⟩,.bool false,.int .i64 0])
theorem IL {p:Lp.Sys}{D:Mem}(h:FeaO p D u):∃(A:Option Addr)(n c:Nat)(A2:Option Addr)(n2 c2:Nat)(a:Bool),u=.tuple #[.slice A n c,.agg ⟨[.slice A2 n2 c2]⟩,.bool a,i_ 0] /\
  ((a=true/\A2=none/\n2=0/\c2=0/\∃pt,p.At pt/\Lp.CmD p.n 20 pt/\(∀j,QB 20 (pt j))/\Sl D 1 (.slice A n c) (((List.range p.n).map pt).map aM)) ∨
  (a=false/\∃du,Lp.InfR p 20 du/\Sl D 1 (.slice A2 n2 c2) (((List.range p.m).map du).map aM))):=by
 cases h with
|yes pt g b d e h1 =>
  obtain⟨A,c,rfl,_⟩:=id h1;exact⟨_,_,_,_,_,_,true,U,.inl ⟨U,U,U,U,pt,b,d,e,h1⟩⟩
|no du i f h1 =>
  obtain⟨A,c,rfl,_⟩:=id h1;exact⟨_,_,_,_,_,_,false,U,.inr ⟨U,du,f,h1⟩⟩
theorem AX (l:List Rat):l.map aM=(l.map qtx).map dC:=by
 rw[Th];rfl
theorem ta (n:Nat):∀x∈List.replicate n (0:Rat),QB 22 x:=λx a=>by rw[(List.mem_replicate.1 a).2];exact QB_zero.le dc_
theorem yF (a:∀j,QB 20 (pt j)):sz s p (((List.range (s*p)).map pt).map qtx)=0:=by
 unfold sz;rw[aK al,SA.2 λx b=>?_]
 .rfl
 obtain⟨q,c,rfl⟩:=Sn.1 b;obtain⟨j,_,rfl⟩:=Sn.1 c;exact bx ((a j).le dc_)
theorem xZ (a:∀j,QB 20 (pt j)):∀x∈((List.range (s*p)).map pt).map qtx,x.length<=999998:=λx b=>by
 obtain⟨q,c,rfl⟩:=Sn.1 b;obtain⟨j,_,rfl⟩:=Sn.1 c;exact Su (aV (a j) dc_) dc_
theorem Iw (C:Mem)(d:Tabs C)(k:Value)(B:Bk)(l:List Rat)(b:Nat->List RowQ)(c:BookIn C k B)(h:Calm B l b) :
  Pur cx.P 26 [k] C λu D=>BuiO B b D u:=by
 have n:=c;have A:=h.rich.bookz d c;have aa:=h.n12;have e:=cH B.obs.length;have E:=h.rowsQ e;have F:=h.q22 e;have H:=h.lim e;obtain⟨v1,v2,tv,cv,ov,rfl,h1,h2,h3,h4,h5⟩:=id c.ex;have ab:=mx_
 refine V7 func26 43 U3 λw0=>V3 λR a=>Wi U6 λb1=>V2 U6<|Wg U5 λb3=>C6 2 [1,3] a U<|G.freeze 1 U λ_ _ o=>Wt [(1,3)] U λR a=>V1 (bkT o 5) U8<|D.call (iH _ d.m_ _ B l b n.m_ h) U (.inr dc_) U6 (Sp _) fl_ (λac _ ad _ I=>?_);obtain⟨Ar,cr,bo,vs,rfl,q,rfl⟩:=I;refine V4 3 U<|Wg U5 λb6=>Wa (j:=0) U12<|C6 1 [1,3,5,6] a U<|U0 2 [1,3,5,6,14] U<|G.cd (λr=>?_) λr=>?_
 .exact absurd r dc_
 refine G.freezeArr 1 (aA vs (cU B b)) U2 (co _ _) (by rw[bG q.1]) (λ_ _ J=>?_);rw[gw];refine G.freezeArr 1 ((List.replicate (bs B*bp B) (0:Rat)).map aM) U2 bK al λ_ _ K=>G.freeze 0 U (λL _ M=>?_);have N:=jW (RowsOk.m_ q) (J.mono mup:Sl L 2 _ _);refine V3 λR a=>V1 (bkT M 3) U8<|Ws (oZ _ d.m_ (bs B*bp B) _ _ (dD (cU B b)) (List.replicate (bs B*bp B) 0) N.m_ K.m_ E (ta _) F om_ al H) U7 fl_ (λae _ _ O=>?_);obtain⟨Q,S,T,V,nd,cd,t,rfl,v⟩:=IL O;refine V4 6 U<|Wa (j:=0) U12<|C6 2 [1,3,4,5,7] a U<|U1 5 U λR a=>Wy U8<|V5 [1,3,5,7,29] a U<|G.cd (λf=>?_) λf=>?_
 .have g:t=false:=by simpa using f
  subst g;obtain⟨du,W,w⟩:∃du,Lp.InfR (nC B b) 20 du/\Sl _ 1 (.slice V nd cd) (((List.range (nC B b).m).map du).map aM):=by
   rcases v with⟨h,_⟩|⟨_,h⟩
   .cases h
   exact h
  refine Wn [0,1,2,3,4,5] [] U kr_ λR c a=>V9 ag U9<|V4 2 U<|Wa (j:=0) U12<|V4 2 U<|V5 [2,3,4,5] a U ?_;clear a c R;refine Wd (Xx ag U7 ?_);refine⟨U,.no du _ W ?_⟩;rw[show(nC B b).m=(cU B b).length from au _]at w;exact w.mono mup
 have g:t=true:=by simpa using f
 subst g;obtain⟨pt,X,Y,i,x⟩:∃pt,(nC B b).At pt/\Lp.CmD (bs B*bp B) 20 pt/\(∀j,QB 20 (pt j))/\Sl _ 1 (.slice Q S T) (((List.range (bs B*bp B)).map pt).map aM):=by
  rcases v with⟨_,_,_,_,h⟩|⟨h,_⟩
  .exact h
  cases h
 rw[AX]at x;have y:=yF (s:=bs B) (p:=bp B) i;refine V3 λR a=>V1 (bkT o 5) U8<|V2 U6<|Ws (yJ _ d.m_ _ _ B (((List.range (bs B*bp B)).map pt).map qtx) n.m_ A.m_ om_ x.m_ (xZ i) am) U7 fl_ (λaf _ _ Z=>?_);obtain⟨fv,rfl,z⟩:=Z;rw[y,aK rfl]at z;rw[y];refine C6 5 [2,3,5] a U<|U1 1 U λR a=>Wm ([.slice none 0 0]) U8<|V4 4 U<|Wa (j:=0) U12<|C6 2 [2,3,4,5] a U<|Wd (Xx ag U7 ?_);exact⟨U,.yes pt _ X Y i z.m_⟩
open Go Go.Jog Go.Shelf
set_option maxRecDepth 100000
def rF (e:Nat × Nat):List Value:=[.int .i64 e.1,.int .i64 e.2]
def Pz (x y:Nat × Nat):Int:=M2 [x.1,x.2] [y.1,y.2]
theorem vY {x y:Nat × Nat}:Pz x y<0 ↔ ltP x y:=by
 unfold Pz ltP;simp only[M2];split
 .exact⟨λ_=>.inl ‹_›,λ_=>by decide⟩
 split
 .exact⟨λh=>absurd h dc_,λh=>by omega⟩
 split
 .exact⟨λ_=>.inr ⟨by omega,‹_›⟩,λ_=>by decide⟩
 split
 .exact⟨λh=>absurd h dc_,λh=>by omega⟩
 exact⟨λh=>absurd h dc_,λh=>by omega⟩
theorem Mc:Sort.SWO (ltOf Pz) where
 irrefl x:=by unfold ltOf;exact SM (λh=>Ay x (vY.1 h))
 trans x y z h1 h2:=by
  unfold ltOf at *;simp only[Sr] at *;rw[vY] at *;unfold ltP at *;omega
 ntrans x y z h1 h2:=by
  unfold ltOf at *;simp only[SS] at *;rw[vY] at *;unfold ltP at *;omega
def DH (ks:List fE)(s:fE):Bool:=decide (s.1<s.2) || !(decide (oI s∈ks))
def mj (s:fE):Nat × Nat:=((min s.1 s.2).toNat,(max s.1 s.2).toNat)
def kW (ks:List fE)(seen:List Nat):List (Nat × Nat):=((seen.map λj=>ks.getD j (0,0)).filter (DH ks)).map mj
theorem EG {seen:List Nat}{s:fE}(h:ks[j]?=some s):kW ks (seen++[j])=kW ks seen++if DH ks s then [mj s] else []:=by
 unfold kW;rw[SV,TM,SV];congr 1;rw[S1,T3,ak,h,List.filter_cons];split <;> simp_all
theorem IP {s:fE}(a:0<=s.1)(b:0<=s.2):rF (mj s)=[i_ (min s.1 s.2),i_ (max s.1 s.2)]:=by
 unfold rF mj;rw[show(((min s.1 s.2).toNat:Nat):Int)=min s.1 s.2 by omega,show(((max s.1 s.2).toNat:Nat):Int)=max s.1 s.2 by omega]
theorem uF (h:∀t∈tris,oh n t):∀s∈bR tris,0<=s.1/\0<=s.2/\s.1.toNat<n/\s.2.toNat<n:=by
 intro s hs;obtain⟨t,ht,hs⟩:=List.mem_flatMap.1 hs;obtain⟨h1,h2,h3⟩:=h t ht;simp only[qo,Sw,Tp,UG]at hs;rcases hs with rfl|rfl|rfl <;> simp[oJ,FZ] <;> omega
structure EdgL (tris:List Tri)(es:List (Nat × Nat)):Prop where
 up:es.Pairwise ltP
 mem:∀e,e∈es ↔ e.1<e.2/\(((e.1:Int),(e.2:Int))∈bR tris∨((e.2:Int),(e.1:Int))∈bR tris)
theorem EdgL.same {a:List (Nat × Nat)}(h:EdgL tris es)(k:EdgL tris a):es=a :=
 FL Ay Le h.up k.up λe=>(h.mem e).trans (k.mem e).symm
theorem EdgL.ok (h:EdgL tris es)(a:∀t∈tris,oh n t)(s:Nat):EdgeOk s n es:=⟨λe b=>by
 obtain⟨h1,h2⟩:=(h.mem e).1 b;rcases h2 with h2|h2
 .have:=uF a _ h2;simp only[Ue]at this;omega
 have:=uF a _ h2;simp only[Ue]at this;omega⟩
theorem EdgL.le (h:EdgL tris es)(a:∀t∈tris,oh n t)(b:n<=6):es.length<=15/\(n<=4->es.length<=6):=KV b h.up (h.ok a 0).lt
theorem OO {s t:fE}(a:0<=s.1)(b:0<=s.2)(c:0<=t.1)(d:0<=t.2)(h:mj s=mj t):s=t∨t=oI s:=by
 obtain⟨e,f⟩:=s;obtain⟨g,i⟩:=t;unfold mj at h;simp only[Ux,oI] at *;omega
theorem Pg {l:List (Nat × Nat)}(c:ks.Perm (bR tris))(o:(bR tris).Nodup)(d:∀s∈bR tris,0<=s.1/\0<=s.2)
  (p:l.Perm ((ks.filter (DH (bR tris))).map mj)) (q:es.Perm l) (b:es.Pairwise λx y=>ltOf Pz y x=false):EdgL tris es:=by
 have k:=q.trans p;have r:ks.Nodup:=c.nodup_iff.2 o;have f:∀s∈ks.filter (DH (bR tris)),s∈bR tris/\DH (bR tris) s=true:=λs b=>by
  obtain⟨h1,h2⟩:=TP.1 b;exact⟨c.mem_iff.1 h1,h2⟩
 have u:((ks.filter (DH (bR tris))).map mj).Nodup:=by
  rw[List.Nodup,List.pairwise_map];refine(r.filter _).imp_of_mem fun {s t} b ht g v=>?_;obtain⟨a,k1⟩:=f s b;obtain⟨m,k2⟩:=f t ht;obtain⟨i,a2⟩:=d s a;obtain⟨w,z⟩:=d t m;rcases OO i a2 w z v with e|e
  .exact g e
  subst e;unfold DH at k1 k2;have j:oI (oI s)=s:=rfl;simp only[j,a,m,decide_true,Bool.not_true,Bool.or_false,Sr]at k1 k2;simp only[oI]at k2;omega
 have g:es.Nodup:=k.nodup_iff.2 u;refine⟨?_,λe=>?_⟩
 .refine(List.Pairwise.and g b).imp fun {x y} ⟨h1,h2⟩=>?_;unfold ltOf at h2;have h3:¬ ltP y x:=λh=>absurd (vY.2 h) (Si h2);unfold ltP at h3⊢;obtain⟨x1,x2⟩:=x;obtain⟨y1,y2⟩:=y;simp only[ne_eq,Ux] at *;omega
 rw[k.mem_iff];constructor
 .intro h;obtain⟨s,b,rfl⟩:=Sn.1 h;obtain⟨a,k1⟩:=f s b;obtain⟨i,a2⟩:=d s a;have n:s.1≠s.2:=λe=>by
   unfold DH at k1;have j:oI s=s:=by obtain⟨x,y⟩:=s;simp only[oI] at *;rw[e]
   rw[j]at k1;simp only[a,decide_true,Bool.not_true,Bool.or_false,Sr]at k1;omega
  obtain⟨x,y⟩:=s;unfold mj;simp only at i a2 n a⊢;rcases Int.lt_or_gt_of_ne n with h|h
  .refine⟨by omega,.inl ?_⟩;rw[show(((min x y).toNat:Nat):Int)=x by omega,show(((max x y).toNat:Nat):Int)=y by omega];exact a
  refine⟨by omega,.inr ?_⟩;rw[show(((min x y).toNat:Nat):Int)=y by omega,show(((max x y).toNat:Nat):Int)=x by omega];exact a
 rintro ⟨h1,h2⟩;have A:mj ((e.1:Int),(e.2:Int))=e:=by
  obtain⟨x,y⟩:=e;unfold mj;simp only[Ux] at *;omega
 have B:mj ((e.2:Int),(e.1:Int))=e:=by
  obtain⟨x,y⟩:=e;unfold mj;simp only[Ux] at *;omega
 by_cases h3:((e.1:Int),(e.2:Int))∈bR tris
 .refine Sn.2 ⟨_,TP.2 ⟨c.mem_iff.2 h3, ?_⟩,A⟩;unfold DH;rw[SB (by show(e.1:Int)<e.2;omega)];rfl
 have h4:=h2.resolve_left h3;refine Sn.2 ⟨_,TP.2 ⟨c.mem_iff.2 h4, ?_⟩,B⟩;unfold DH;rw[show oI ((e.2:Int),(e.1:Int))=((e.1:Int),(e.2:Int)) from rfl,SM h3,Bool.not_false,Bool.or_true]
theorem yw (C:Mem)(a:Int):Gives cx.P 274 [i_ a] C (.bool false):=by
 exact V7 func274 6 U3 λw0=>U0 1 [0] U<|U0 4 [2] U<|V6 U2<|⟨by simp,U⟩
theorem Bf (C:Mem)(a b:Int):Gives cx.P 216 [i_ a,i_ b] C (i_ (Nn a b)):=by
 refine V7 func216 20 U3 λw0=>U0 1 [0,1] U<|U1 1 U λR d=>Wb (yw _ _) U7<|C6 1 [0,1,5] d U<|U1 1 U λR d=>Wb (yw _ _) U7<|C6 1 [0,1,5,6] d U<|U0 1 [0,1,6,11] U<|G.cd (λf=>?_) λf=>?_
 .cases f
 refine U0 1 [0,1,13] U<|G.cd (λg=>?_) λg=>?_
 .cases g
 refine U0 3 [0,1,16] U<|G.cd (λc=>?_) λc=>?_
 .refine U0 1 [4] U<|V6 U2 ?_;simp only[Sr]at c;exact⟨by rw[Nn,aK c],U⟩
 refine U0 3 [19] U<|G.cd (λe=>?_) λe=>?_
 .refine U0 1 [4] U<|V6 U2 ?_;simp only[Sr,SS]at c e;exact⟨by rw[Nn,aF c,aF om_],U⟩
 refine U0 1 [4] U<|V6 U2 ?_;simp only[SS]at c e;exact⟨by rw[Nn,aF c,aK om_],U⟩
theorem Bg (C:Mem)(v w:Value)(a b:List Nat)(l:Sl C 1 v (a.map aW))(n:Sl C 1 w (b.map aW))(L:a.length<=1000000)(_M:b.length<=1000000) :
  Gives cx.P 148 [v,w] C (i_ (M2 a b)):=by
 obtain⟨A,c,rfl,_⟩:=id l;obtain⟨B,d,rfl,_⟩:=id n;simp only[au]at l n⊢;refine V7 func148 36 U3 λw0=>U0 1 [0,1] U<|U0 3 [0,1,9,10,11] U<|G.loop (λfr N z D=>∃(k:Nat),(k<=a.length/\k<=b.length/\M2 (a.drop k) (b.drop k)=M2 a b)/\fr=[(0,[],.slice A a.length c),(1,[],.slice B b.length d),(9,[],.slice A a.length c),(10,[],i_ a.length),(11,[],i_ k)]/\z=[]/\D=a.length-k) (hn_ [0,1,9,10,11] U) ⟨0,⟨Sm _,Sm _,U⟩,U,U,U⟩ (λfr O Q m _ E=>?_);obtain⟨k,⟨S,T,g⟩,rfl,rfl,rfl⟩:=E;refine U0 1 [0,1,9,10,11,12] U<|G.cd (λo=>?_) λo=>?_
 .have h:k<a.length:=by simpa using o
  obtain⟨x,t⟩:∃x,a[k]?=some x:=⟨a[k],ah h⟩;have F:(a.map aW)[k]?=some (aW x):=by rw[Sh,t];rfl
  have p:a.drop k=x::a.drop (k+1):=by rw[SN h,(aT.1 t).2]
  refine U1 1 U λR f=>Wf l.m_ U10 om_ F fl_ λV H=>V1 H U8<|C6 2 [0,1,5,6,9,10,11] f U<|U0 4 [0,1,5,6,9,10,11,19] U<|G.cd (λq=>?_) λq=>?_
  .have i:b.length<=k:=by simpa using q
   have j:b.drop k=[]:=TZ i;exact U0 1 [4] U<|V6 U2<|⟨by rw[<- g,p,j];rfl,U⟩
  have i:k<b.length:=by
   have:¬ b.length<=k:=by simpa using q
   omega
  obtain⟨y,hy⟩:∃y,b[k]?=some y:=⟨b[k],ah i⟩;have I:(b.map aW)[k]?=some (aW y):=by rw[Sh,hy];rfl
  have j:b.drop k=y::b.drop (k+1):=by rw[SN i,(aT.1 hy).2]
  refine U1 2 U λR f=>Wf n.m_ U10 om_ I fl_ λW J=>V1 J U8<|C6 1 [0,1,6,7,9,10,11] f U<|U1 2 U λR f=>Wb (Bf _ _ _) U7<|C6 1 [0,1,8,9,10,11] f U<|U0 2 [0,1,8,9,10,11,28] U<|G.cd (λr=>?_) λr=>?_
  .have e:Nn x y≠0:=by simpa using r
   refine U0 2 [4] U<|V6 U2<|⟨?_,U⟩;rw[<- g,p,j];simp only[M2];unfold Nn at e⊢;by_cases h1:x<y
   .have h3:(x:Int)<y:=by omega
    rw[aK h1,aK h3]
   have h3:¬ (x:Int)<y:=by omega
   rw[aF h1,aF h3];rw[aF h3]at e;by_cases h2:y<x
   .have h4:¬ (x:Int)=y:=by omega
    rw[aK h2,aF h4]
   have h4:(x:Int)=y:=by omega
   rw[aK h4]at e;exact absurd U e
  have e:Nn x y=0:=by simpa using r
  have K:x=y:=by
   unfold Nn at e;split at e
   .cases e
   split at e
   .omega
   cases e
  refine V3 λR f=>V8 _ U U6<|C6 1 [0,1,9,10,11] f U<|We (m':=a.length-(k+1)) om_ mup (hn_ [0,1,9,10,11] U) ⟨k+1,⟨by omega,by omega,by rw[<- g,p,j,K];simp[M2]⟩,U,U,U⟩
 have h:k=a.length:=by
  have:¬ k<a.length:=by simpa using o
  omega
 subst h;rw[Ty]at g;refine U0 5 [35] U<|G.cd (λs=>?_) λs=>?_
 .have u:a.length<b.length:=by simpa using s
  refine U0 1 [4] U<|V6 U2<|⟨?_,U⟩;rw[<- g,SN u];rfl
 have u:¬ a.length<b.length:=by simpa using s
 refine U0 1 [4] U<|V6 U2<|⟨?_,U⟩;rw[<- g,TZ om_];rfl
theorem LN (C:Mem)(x y:Nat × Nat):Gives cx.P 147 [.agg ⟨rF x⟩,.agg ⟨rF y⟩] C (i_ (Pz x y)):=by
 refine V7 func147 8 U3 λw0=>V3 λR a=>Wi U6 λm=>Wi U6 λn=>C6 1 [2,3] a U<|G.freeze 1 U λ_ _ f=>G.freeze 0 U (λd _ g=>?_);have e:∀{b:Nat}(z:Nat × Nat){t:TypeId},d b=some (.cells ⟨rF z⟩ t (0,0))->Sl d 1 (s_ b 2 2) (([z.1,z.2]:List Nat).map aW):=λz t h=>Sl.ofBlock (rows:=([z.1,z.2]:List Nat).map aW) (c:=2) h (by intro r hr;obtain⟨y,_,rfl⟩:=Sn.1 hr;rfl) (λj v i=>by simpa [rF,aW] using i) (Sg _) dc_;have k:=e x (Mem.get f mup);have l:=e y (Mem.get g mup);exact Wn [0,1,2,3] [(2,1)] U kr_ λR o a=>Xn 0 2 2 U12 (λ_=>⟨.inl ⟨U,U⟩,.inl ⟨U,U⟩,.inl ⟨U,U⟩,by omega,by omega,Sg _⟩) U2<|Xn 0 2 2 U12 (λ_=>⟨.inl ⟨U,U⟩,.inl ⟨U,U⟩,.inl ⟨U,U⟩,by omega,by omega,Sg _⟩) U2<|Wo (λ_=>(Bg _ _ _ [x.1,x.2] [y.1,y.2] k.m_ l.m_ (by show 2<=1000000;decide) (by show 2<=1000000;decide))) U9<|C6 1 [4] a U<|V6 U2<|⟨U,U⟩
theorem Ke (C:Mem)(v:Value)(l:List (Nat × Nat))(d:l.length<=1000000):Jog.Fn cx.P 146 [v,.func (.func 147) #[] #[]] C [.arr v 163 2 l.length (l.map rF).flatten]
  λu _e b=>∃a:List (Nat × Nat),u=.tuple #[]/\b=[.arr v 163 2 l.length (a.map rF).flatten]/\a.Perm l/\a.Pairwise (λx y=>ltOf Pz y x=false) :=
 zN (P:=cx.P) (T:=tab) Tryz.sortE cx.hT rfl rfl rF fl_ (λx=>rfl) Pz Mc 147 [] C (λx y c _=>LN c x y) v 163 l om_ kr_ kr_
abbrev sE (A:Option Addr)(n c:Nat):Value:=.slice A n c
theorem LM (l:List (Nat × Nat)):∀r∈l.map rF,r.length=2:=λr hr=>by obtain⟨y,_,rfl⟩:=Sn.1 hr;rfl
theorem xr (b:List fE)(a:List Nat):(kW b a).length<=a.length:=by
 unfold kW;rw[au];refine Su (TV _ _) ?_;rw[au];exact Sg _
theorem pj (C:Mem)(hT:Tabs C)(N:Value)(B:List Pt)(f:List Tri)(O:MeshIn C N B f)(E:Good B f) :
  Pur cx.P 76 [N] C λu D=>∃es v,u=.tuple #[v,i_ 0]/\EdgL f es/\Sl D 2 v (es.map rF):=by
 have n:=E.ok;have ai:=O;obtain⟨v1,v2,rfl,h1,h2⟩:=id O.ex;have aA:=mx_
 have x:=uF n.ins;have aj:=nE f;have aB:=n.lt;refine V7 func76 63 U3 λw0=>V3 λR c=>Wi U6 λb1=>C6 2 [1] c U<|G.freeze 0 U λ_ _ Q=>V3 λR c=>V1 (bkT Q 2) U8<|Wb (ic _ hT.m_ _ B f ai.m_ E) U7<|C6 1 [1,4] c U<|U0 2 [1,4,14] U<|G.cd (λS=>?_) λS=>?_
 .exact absurd S dc_
 refine V3 λR c=>V1 (bkT Q 2) U8<|Wz (yf _ _ _ f E.ne h2.m_ (tw n.sides)) U7 (λaC _ _ ak=>?_);obtain⟨b,rfl,g⟩:=ak;obtain⟨m,T⟩:∃m,yg f f.length=m:=⟨_,rfl⟩;have y:m.map (·.1)=bR f:=by
  have:=fT n.sides f.length (Sg _);rw[Ss,T]at this;exact this
 rw[T]at g;obtain⟨ks,z⟩:∃ks,bR f=ks:=⟨_,rfl⟩;rw[z]at y x aj;have V:ks.length=m.length:=by rw[<- y];simp
 have W:∀s:fE,(ef m (s.2,s.1)).isSome=decide (oI s∈ks):=λs=>by
  have:=Dh (m:=m) (s:=s);rw[y]at this;rw[this];unfold jJ;rw[Bool.not_not]
 refine C6 5 [5] c U<|U0 1 [5,7] U<|U1 1 U λR c=>XO kI2.enc (Mem.get g mup) U U U U U U U fl_ λA=>V5 [5,7,22] c U<|G.nilArr 163 2<|G.loop (λfr C' F μ=>∃(seen:List Nat)(o:Option Addr)(n1 r:Nat),(seen.Nodup/\(∀j∈seen,j<ks.length))/\fr=[(5,[],.map (some b)),(7,[],.slice o n1 r),(22,[],p_ A)]/\F=[.arr (sE o n1 r) 163 2 (kW ks seen).length ((kW ks seen).map rF).flatten,.obj A (bk b m.length seen)]/\μ=ks.length-seen.length) (hn_ [5,7,22] U) ⟨[],none,0,0,⟨List.nodup_nil,by simp⟩,U,U,U⟩ (λfr aD aE m _ hI=>?_);obtain⟨seen,o,n1,r,⟨H,I⟩,rfl,rfl,rfl⟩:=hI;refine V3 λR c=>XR kI2.enc (q:=1) (Mem.get g mup) U U U U U U fl_ λX aF k Y=>C6 1 [5,7,22,24] c U<|G.cd (λt=>?_) λt=>?_
 .obtain⟨aG,j,Z,al,rfl⟩:X=true/\∃j,j<m.length/\j ∉ seen/\k=seen++[j]:=by
   rcases Y with⟨h1,_⟩|h1
   .rw[h1]at t;cases t
   exact h1
  rw[<- V]at Z;obtain⟨⟨s,bv⟩,hs⟩:∃p,m[j]?=some p:=⟨m[j]'om_,ah om_⟩;have aa:ks[j]?=some s:=by rw[<- y,Sh,hs];rfl
  have J:(seen++[j]).Nodup:=by
   rw[TX];exact⟨H,by simp,λa ha b g e=>by rw[SD.1 g]at e;subst e;exact al ha⟩
  have K:∀i∈seen++[j],i<ks.length:=λi w=>by
   rcases Sx.1 w with h|h
   .exact I i h
   rw[SD.1 h];exact Z
  have am:(seen++[j]).length<=ks.length:=by
   have:=List.Nodup.length_le_of_subset J (l₂:=List.range ks.length) (λi w=>SE.2 (K i w));simpa using this
  have aH:(seen++[j]).length=seen.length+1:=by simp
  have l:=EG aa (seen:=seen);obtain⟨an,ao,_⟩:=x s (aJ aa);have ap:=xr ks seen;refine V3 λR c=>XP kI2.enc (Mem.get g mup) hs ag U U U U U U U<|V2 U6<|Wg U5 λb8=>Wa (j:=0) U12<|V5 [5,7,8,22] c U<|U1 1 U λR c=>Wp (1) U9 k_ U2<|V9 ag U9<|Wp (0) U9 k_ U2<|V9 ag U9<|Wm [i_ s.2,i_ s.1] U8<|XV kI2 (λ_=>(Mem.get g mup)) U U U U U U U U U (my _ (ef m (s.2,s.1))) U U<|C6 5 [5,7,8,10,22] c U<|V3 λR c=>Wp (0) U9 k_ U2<|V9 ag U9<|Wp (1) U9 k_ U2<|V9 ag U9<|V4 4 U<|Wy U8<|V5 [5,7,8,22,45] c U<|G.cd (λL=>?_) λL=>?_
  .have M:DH ks s=true:=by
    unfold DH;rw[<- W];exact L
   rw[M,aK rfl]at l;have aI:(kW ks (seen++[j])).length=(kW ks seen).length+1:=by rw[l];simp
   refine U1 1 U λR c=>Wp (0) U9 k_ U2<|V9 ag U9<|Wp (1) U9 k_ U2<|V9 ag U9<|D.min (min s.1 s.2) U6 U U2<|Wp (0) U9 k_ U2<|V9 ag U9<|Wp (1) U9 k_ U2<|V9 ag U9<|D.max (max s.1 s.2) U6 U U2<|Wm [i_ (min s.1 s.2),i_ (max s.1 s.2)] U8<|Wq [[i_ (min s.1 s.2),i_ (max s.1 s.2)]] U12 λaL _ _ aq=>WB (j:=2) U11 aq.m_ U ax (by simp only[Sk];omega) fl_ λab ac ad=>C6 1 [5,7,22] c U<|WH 1 U<|Wk (L':=[.arr (sE ab ac ad) 163 2 (kW ks (seen++[j])).length ((kW ks (seen++[j])).map rF).flatten,.obj A (bk b m.length (seen++[j]))]) (by rw[l,SV,SI,<- IP an ao];simp)<|We (m':=ks.length-(seen++[j]).length) om_ mup (hn_ [5,7,22] U) ⟨seen++[j],ab,ac,ad,⟨J,K⟩,U,U,U⟩
  have M:DH ks s=false:=by
   unfold DH;rw[<- W];exact L
  rw[M]at l;simp only[Tg,TS,SF]at l;refine WH 0 U<|G.perm (L':=[.arr (sE o n1 r) 163 2 (kW ks (seen++[j])).length ((kW ks (seen++[j])).map rF).flatten,.obj A (bk b m.length (seen++[j]))]) (by rw[l];exact List.Perm.swap _ _ _)<|We (m':=ks.length-(seen++[j]).length) om_ mup (hn_ [5,7,22] U) ⟨seen++[j],o,n1,r,⟨J,K⟩,U,U,U⟩
 obtain⟨aM,rfl,ae⟩:X=false/\k=seen/\∀j,j<m.length->j∈seen:=by
  rcases Y with h1|⟨h1,_⟩
  .exact h1
  rw[h1]at t;cases t
 rw[<- V]at ae;have hp:=qu (d:=((0:Int),(0:Int))) H I ae;have ap:=xr ks k;have am:k.length<=ks.length:=by
  have:=List.Nodup.length_le_of_subset H (l₂:=List.range ks.length) (λi w=>SE.2 (I i w));simpa using this
 refine WH 0 U<|Wt [(1,3)] U λR c=>V2 U6<|D.call (Ke _ _ (kW ks k) om_) U (.inr dc_) U6 (Sp _) fl_ λaN _ aO _ ar=>V5 [7] c U ?_;obtain⟨es,rfl,rfl,af,av⟩:=ar;have aw:EdgL f es:=Pg (ks:=k.map λj=>ks.getD j (0,0)) (by rw[z];exact hp) n.sides (λs hs=>by rw[z]at hs;exact⟨(x s hs).1,(x s hs).2.1⟩) (by rw[z];exact Sp _) af av;have ay:es.length=(kW ks k).length:=af.length_eq;refine U0 3 [2,3] U<|G.freezeArr 0 (es.map rF) U2 (LM es) (by rw[au,ay]) λCf aP az=>Wd (G.dropAll (Wu U3 ?_));exact⟨U,es,_,U,aw,az⟩
theorem Om {q:Rat}(h:q.den=1):q=(q.num:Rat):=Rat.ext rfl h
def wlB (D:Int)(q:Rat):Bool:=decide ((q*(D:Rat)).den=1) && decide ((q*(D:Rat)).num.natAbs<=999999999)
theorem Gf {D:Int}{q:Rat}(h:wlB D q=true):Wl D q:=by
 unfold wlB at h;simp only[Sz,Sr]at h;exact⟨_,Om h.1,h.2⟩
theorem KA (D:Int)(a:D≠0)(c:D.natAbs<=999999999)(h:(r.f.all (wlB D) && wlB D r.b)=true):RowI r:=by
 simp only[Sz,SA]at h;exact⟨D,a,c,λq d=>Gf (h.1 q d),Gf h.2⟩
def xP (i:Nat):Pt:=if i<2 then (3,0) else if i=2 then (0,0) else (6,0)
def xD (i:Nat):Rat:=if i=1 then 5 else if i=3 then 1 else 4
def xX (i:Nat):Str:=if i=1 then [53] else if i=3 then [49] else [52]
def xN (i:Nat):Str:=if i % 2=0 then [97] else [98]
def xO (i:Nat):Obs:=⟨2,xN i,qtx (xP i).1,qtx (xP i).2,xX i,[66],[65],[],[],[]⟩
def xT (i:Nat):Obs:=⟨2,xN i,if i<2 then [51] else if i=2 then [48] else [54],[48],xX i,[66],[65],[],[],[]⟩
def xB (l:List Nat):Bk:=⟨[(0,0),(6,0),(0,4)],[(0,1,2)],[[49,48],[49,48],[49,48]],[⟨[65],0,none⟩,⟨[66],0,none⟩],l.map xO⟩
def xFs:List Rat:=[10,10,10]
theorem Hi:qtx 3=[51]:=iv (z:=3) ap
theorem MT:qtx 4=[52]:=iv (z:=4) ap
theorem QI:qtx 5=[53]:=iv (z:=5) ap
theorem KH:qtx 6=[54]:=iv (z:=6) ap
theorem KJ:qtx 1=[49]:=iv (z:=1) ap
theorem QH:qtx 10=[49,48]:=iv (z:=10) ap
theorem xX_e (i:Nat):qtx (xD i)=xX i:=by
 unfold xD xX;split
 .exact QI
 split
 .exact KJ
 exact MT
theorem JM (i:Nat):xO i=xT i:=by
 unfold xO xT xP;split
 .simp only[Hi,qtx_zero]
 split <;> simp only[qtx_zero,KH]
theorem MA:∀i<4,QB 22 (xD i)/\QB 22 (xP i).1/\QB 22 (xP i).2/\QB 22 (10-xD i)/\QP 23 (xP i):=by decide +kernel
theorem ND (i:Nat)(a:i<4):dt (xX i)=xD i:=On (xD i) (xX_e i) (MA i a).1
theorem RL (i:Nat)(a:i<4):aS (xX i)=true:=by rw[<- xX_e];exact bx (MA i a).1
theorem x_pt (i:Nat)(a:i<4):ptO (xO i)=xP i:=by
 unfold ptO;show(dt (qtx (xP i).1),dt (qtx (xP i).2))=xP i;rw[da (bx (MA i a).2.1),da (bx (MA i a).2.2.1)]
theorem JU:∀i<4,lj (xB []).pts (xB []).tris (xP i)=[0]:=by decide +kernel
theorem x_sh:∀i<4,eg (xT i)=0:=by decide +kernel
theorem P6:∀i<4,Gm (xB []).col (xT i)=false/\ordB (xB []).col (xT i)=false/\JT (xT i)=false/\0<=ib (isU (xT i).upper) (xB []).col 0:=by decide +kernel
theorem RI:∀i<4,decide (xD i<0)=false:=by decide +kernel
theorem x_ov (i:Nat)(a:i<4):gm (xB []).pts (xB []).tris (xB []).col (xO i)=0:=by
 obtain⟨h1,h2,h3,_⟩:=P6 i a;unfold gm;rw[aF (by rw[JM i,x_sh i a];decide),aF (by unfold L3;rw[x_pt i a,JU i a];decide),aF (by rw[JM i,h1];decide),aF (by rw[JM i,h2];decide),aF (by
  unfold depB;rw[show(xO i).depth=xX i from rfl,ND i a,RI i a,Bool.and_false];decide),aF (by rw[JM i,h3];decide)]
theorem x_on:∀i<4,onQ (xB []).pts xFs (0,1,2) (xP i)=10:=by decide +kernel
theorem P5 (i:Nat)(a:i<4):FY (xB []).pts (xB []).tris xFs (xP i)=.tuple #[ae (qtx 10),i_ 0]:=by
 unfold FY;rw[JU i a];show E0 (onQ (xB []).pts xFs (0,1,2) (xP i))=_;rw[x_on i a];unfold E0;rw[aK (bx ap)]
theorem x_w3:∀i<4,∀j<3,QB 22 (wgt (xB []).pts (0,1,2) (xP i) j):=by decide +kernel
theorem x_w (i:Nat)(a:i<4)(j:Nat):QB 22 (wgt (xB []).pts (0,1,2) (xP i) j):=by
 rw[NG];exact x_w3 i a _ (S5 _ dc_)
theorem x_sl:∀j,QP 22 (slf (xB []).pts (0,1,2) j):=by
 intro j;unfold slf;rw[J4];rcases(by omega:min j 2=0∨min j 2=1∨min j 2=2) with h|h|h <;> rw[h] <;> decide +kernel
theorem Qa:Good (xB []).pts (xB []).tris:=(Ix ap dc_ dc_ dc_).1
def xW (i:Nat):List Rat:=if i<2 then [1/2,1/2,0] else if i=2 then [1,0,0] else [0,1,0]
def xR (i:Nat):List RowQ:=[⟨xW i,10-xD i⟩,⟨(xW i).map (-1*·), -(10-xD i)⟩]
theorem NA:∀i<4,((cR (xB []).col (xT i)).flatMap λk=>[1, -1].map (iq (bs (xB [])) (bp (xB [])) k (atT (0,1,2) (wgt (xB []).pts (0,1,2) (xP i))) (10-xD i)))=xR i:=by decide +kernel
theorem My (l:List Nat)(i:Nat)(a:i<4):rowsO (xB l) (xO i) (xP i) (0,1,2) 10=xR i:=by
 unfold rowsO;rw[aF (by show ¬ ((2:Int)=1);decide),aK (by rfl)];unfold lK;rw[show(xO i).depth=xX i from rfl,ND i a,JM i];exact NA i a
theorem P8:∀i<4,∀r∈xR i,PY r:=by unfold PY;decide +kernel
theorem Mz (i:Nat)(a:i<4):∀r∈xR i,RowI r:=by
 have:∀i<4,∀r∈xR i,(r.f.all (wlB 2) && wlB 2 r.b)=true:=by decide +kernel
 exact λr hr=>KA 2 dc_ dc_ (this i a r hr)
theorem RH (i:Nat)(a:i<4):ObsR (xO i):=by
 have:∀i<4,(xT i).name.length<=9/\(xT i).x.length<=9/\(xT i).y.length<=9/\(xT i).depth.length<=9:=by decide +kernel
 obtain⟨h1,h2,h3,h4⟩:=this i a;rw[JM i];exact⟨by omega,by omega,by omega,by omega,(by decide:1<=999998),(by decide:1<=999998),(by decide:0<=999998),(by decide:0<=999998),(by decide:0<=999998)⟩
theorem NF {o:Obs}(h:(xB l).obs[k]?=some o):∃i,l[k]?=some i/\o=xO i:=by
 have a:(l.map xO)[k]?=some o:=h;rw[Sh]at a;cases b:l[k]? with
|none=>rw[b]at a;cases a
|some i=>rw[b]at a;exact⟨i,rfl,(TO a).symm⟩
structure XOk (l:List Nat):Prop where
 lt:∀i∈l,i<4
 nd:(l.map xN).Nodup
 len:l.length<=4
theorem MB {l:List Nat}(b:XOk l):∀n,n<=l.length->wx (xB l) n=0
|0,_=>rfl
|n+1,m=>by
  have d:=MB b n om_;show(if wx (xB l) n≠0 then wx (xB l) n else obZ (xB l) ((xB l).obs.take n) ((xB l).obs.getD n K5))=0;rw[aF (by rw[d];decide)];have c:l[n]?=some l[n]:=ah om_;have f:(xB l).obs.getD n K5=xO l[n]:=M1 (by
   show(l.map xO)[n]?=_;rw[Sh,c];rfl)
  rw[f];unfold obZ;rw[aF (by rw[show gm (xB l).pts (xB l).tris (xB l).col (xO l[n])=0 from x_ov _ (b.lt _ (Td _))];decide),aF λhm=>?_];obtain⟨o,g,e⟩:=Sn.1 hm;obtain⟨j,a⟩:=TR g;rw[Tb]at a;split at a
  .rename_i p;obtain⟨i,h,rfl⟩:=NF a;have k:xN i=xN l[n]:=e;have h1:(l.map xN)[j]?=some (xN l[n]):=by rw[Sh,h];exact congrArg some k
   have h2:(l.map xN)[n]?=some (xN l[n]):=by rw[Sh,c];rfl
   have:=(List.getElem?_inj (by rw[au];omega) b.nd).1 (h1.trans h2.symm);omega
  cases a
theorem pH (l:List Nat):(xB l).obs.length=l.length:=by simp[xB]
theorem RN (a:XOk l):iV (xB l)=0:=by
 unfold iV;have:=a.len;rw[aF (by show ¬ (oB (xB []).pts.length (xB []).terr≠0);decide +kernel),aF (by show ¬ (sH (xB []).col≠0);decide +kernel),aF (by rw[pH];omega),pH];exact MB a _ (Sg _)
theorem RP (b:XOk l):BookR (xB l):=by
 refine⟨by show ∀x∈(xB []).terr,_;decide, ?_,by show(xB []).col.length<=_;decide,λo c=>?_⟩
 .intro x a;simp only[xB,Sw,Tp,UG]at a;rcases a with rfl|rfl
  .exact⟨by decide +kernel,λq h=>by simp at h,by decide⟩
  exact⟨by decide +kernel,λq h=>by simp at h,by decide⟩
 obtain⟨k,d⟩:=TR c;obtain⟨i,e,rfl⟩:=NF d;exact RH i (b.lt i (aJ e))
theorem Qc (l:List Nat)(i:Nat)(a:i<4):Fine (xB l) xFs (xO i) (xP i) 0 (0,1,2) 10:=by
 obtain⟨f,b,c,d,e⟩:=MA i a;refine⟨⟨U,U,e,⟨bx b,bx c⟩,λ_=>RL i a⟩,⟨[],JU i a⟩,U,P5 i a,by decide +kernel, ?_,x_w i a, ?_,x_sl,λ_ h=>absurd U h, ?_⟩
 .unfold lK;rw[aK (by rfl),show(xO i).depth=xX i from rfl,ND i a];exact d
 .exact(P6 i a).2.2.2
 rw[My l i a];exact P8 i a
theorem P7 (l:List Nat):Terr (xB l) xFs:=⟨by simp[xB,xFs,QH],rfl,by decide +kernel⟩
def xRO (l:List Nat)(k:Nat):List RowQ:=xR (l.getD k 0)
theorem zC (b:XOk l):Calm (xB l) xFs (xRO l):=by
 have c:∀k,k<l.length->l.getD k 0<4:=λk d=>by
  rw[ak,ah d];exact b.lt _ (Td _)
 have h4:=b.len;refine⟨⟨Qa,RP b,RN b,P7 l,(by decide:3<=60),λk o e=>?_⟩,(by decide:3<=12),λr hr=>?_,λi a=>Mz _ (c i (by rw[pH]at a;exact a)), ?_,λi a=>(by show 2<=8;decide),by rw[pH];omega⟩
 .obtain⟨i,a,rfl⟩:=NF e;have h1:=b.lt i (aJ a);refine⟨_,_,_,_,Qc l i h1, ?_⟩;rw[My l i h1,xRO,ak,a];rfl
 .have:bJ (xB l)=[]:=rfl;rw[this]at hr;cases hr
 have:bJ (xB l)=[]:=rfl;rw[this];decide
theorem ok0:XOk [0]:=⟨by decide,by decide,by decide⟩
theorem ok01:XOk [0,1]:=⟨by decide,by decide,by decide⟩
theorem ok23:XOk [2,3]:=⟨by decide,by decide,by decide⟩
theorem rows0:cU (xB [0]) (xRO [0])=xR 0:=by rw[cU,jX,pH];rfl
theorem Qx:cU (xB [0,1]) (xRO [0,1])=xR 0++xR 1:=by rw[cU,jX,pH];rfl
theorem Qw:cU (xB [2,3]) (xRO [2,3])=xR 2++xR 3:=by rw[cU,jX,pH];rfl
theorem RJ:Lp.Val (bN 3 (dD (xR 0))) (λj=>([1/2,1/2,0]:List Rat).getD j 0) 1 6:=by
 refine .inl ⟨U,⟨λ_=>6,gj.2 ap,by decide +kernel⟩,λy hy=>?_⟩;have h1:=gj.1 hy ⟨[-1/2, -1/2,0], -6⟩ ap;show _<=Lp.sumN _ 3;simp only[Lp.sumN,ak,List.getElem?_cons_zero,T7,TD]at h1⊢;grind
theorem P9:Lp.Val (bN 3 (dD (xR 0))) (λj=>([-1/2, -1/2,0]:List Rat).getD j 0) 1 (-6):=by
 refine .inl ⟨U,⟨λ_=>6,gj.2 ap,by decide +kernel⟩,λy hy=>?_⟩;have h1:=gj.1 hy ⟨[1/2,1/2,0],6⟩ ap;show _<=Lp.sumN _ 3;simp only[Lp.sumN,ak,List.getElem?_cons_zero,T7,TD]at h1⊢;grind
theorem x_no:¬ (bN 3 (dD (xR 0++xR 1))).Hold:=by
 rintro ⟨y,hy⟩;have h1:=gj.1 hy ⟨[-1/2, -1/2,0], -6⟩ ap;have h2:=gj.1 hy ⟨[1/2,1/2,0],5⟩ ap;simp only[Lp.sumN,ak,List.getElem?_cons_zero,T7,TD]at h1 h2;grind
def es3:List (Nat × Nat):=[(0,1),(0,2),(1,2)]
theorem Q9:EdgL [(0,1,2)] es3:=by
 refine⟨by simp[es3,ltP],λe=>?_⟩;rw[show bR [(0,1,2)]=[(0,1),(1,2),(2,0)] from rfl];obtain⟨x,y⟩:=e;simp only[es3,Sw,Tp,UG,Ux];omega
theorem Q8:EdgeOk 1 3 es3:=⟨by decide⟩
theorem Qb:Lp.Val (bN (1*3+1*es3.length) (dD (sj (xR 2++xR 3) (1*3) 3 es3 (1*es3.length)))) (λj=>(kH (1*3) (1*es3.length)).getD j 0) 1 6:=by
 refine .inl ⟨U,⟨λj=>([6,9,6,3,0,3]:List Rat).getD j 0,gj.2 ap,by decide +kernel⟩,λy hy=>?_⟩;obtain⟨h0,h2⟩:=(CL Q8 ap).1 hy;have h1:=gj.1 h0 ⟨[1,0,0],6⟩ ap;have h3:=gj.1 h0 ⟨[0, -1,0], -9⟩ ap;have k0:=zo.1 (h2 0 dc_);have k1:=zo.1 (h2 1 dc_);have k2:=zo.1 (h2 2 dc_);rw[show Fu 3 es3 y 0=y 0-y 1 from rfl]at k0;rw[show Fu 3 es3 y 1=y 0-y 2 from rfl]at k1;rw[show Fu 3 es3 y 2=y 1-y 2 from rfl]at k2;rw[show Lp.sumN (λj=>(kH (1*3) (1*es3.length)).getD j 0*y j) (bN (1*3+1*es3.length) (dD (sj (xR 2++xR 3) (1*3) 3 es3 (1*es3.length)))).n=_ from vc (h:=1*3) (more:=1*es3.length)];show _<=Lp.sumN (λk=>y (3+k)) 3;simp only[Uv,Lp.sumN,ak,List.getElem?_cons_zero,T7,TD,TW,Nat.reduceAdd]at h1 h3 k0 k1 k2⊢;grind
abbrev tq (q:Rat):Value:=ae (qtx q)
theorem pS (l:List Rat):(l.map aM).flatten=l.map tq:=eE tq l
theorem ip {l:List Rat}(h:i<l.length):aB (l.map tq) [tq x] i=(l.set i x).map tq:=by
 rw[List.set_eq_take_append_cons_drop,aK h];unfold aB;simp[List.map_drop]
theorem G9 (n:Nat):List.replicate n (ae [48])=(List.replicate n (0:Rat)).map tq:=by rw[gw,pS]
def Eo (n a:Nat)(t:Tri)(w:Nat->Rat):Nat->List Rat
|0=>List.replicate n 0
|j+1=>(Eo n a t w j).set (a+pR t j) (w j)
theorem lR (n a:Nat)(t:Tri)(w:Nat->Rat):∀j,(Eo n a t w j).length=n
|0=>SG
|j+1=>by rw[Eo,Tc,lR n a t w j]
theorem JX (C:Mem)(k:Tabs C)(e:Value)(B:Bk)(M:List Rat)(N:Nat->List RowQ)(s:Nat)(p:Pt)(i:Nat)(r:List Nat)(t:Tri)(b:BookIn C e B)(h:Calm B M N)(O:s<bs B)(x:QP 23 p)(y:PtR p)
  (Q:lj B.pts B.tris p=i::r) (l:B.tris[i]?=some t) (S:∀j,QB 22 (wgt B.pts t p j)) :
  Pur cx.P 59 [e,i_ s,ptV p] C λu D=>∃v,u=.tuple #[v,i_ 0]/\Sl D 1 v ((Eo (bs B*bp B) (s*bp B) t (wgt B.pts t p) 3).map aM):=by
 have T:=b;have o:=h.rich.good;have V:=h.rich.bookz k b;have W:=h.n12;have X:=o.ok.ins t (aJ l);have q:∀D:Mem,C.le D->Gives cx.P 92 [e] D (.tuple #[i_ (bs B*bp B:Nat),i_ 0]):=λD Y=>by
  have h:=Bd D e B 0 (V.mono Y) om_;rw[aK rfl]at h;exact h
 obtain⟨z,A,tv,cv,ov,rfl,h1,h2,h3,h4,h5⟩:=id b.ex;have hm:MeshIn C (.agg ⟨[z,A]⟩) B.pts B.tris:=⟨z,A,rfl,h1,h2⟩;obtain⟨A1,c1,rfl,Z,_⟩:=id h1;obtain⟨A2,c2,rfl,aa,_⟩:=id h2;have ab:(B.pts.map gK).length=bp B:=au _;have ac:(B.tris.map jG).length=B.tris.length:=au _;simp only[ab,ac]at h1 Z h2 aa hm T q⊢;have ap:=mx_
 obtain⟨n,E⟩:∃n,bs B*bp B=n:=⟨_,rfl⟩;have c:∀j,s*bp B+pR t j<n:=λj=>by rw[<- E];exact Do O (fK X j)
 rw[E]at q W⊢;have aq:=c 0;have ar:=c 1;have av:=c 2;refine V7 func59 78 U3 λw0=>?_;refine V3 λR a=>?_;refine Wi U6 (λb3=>?_);refine Wi U6 (λb5=>?_);refine C6 2 [1,3,5] a U ?_;clear a R;refine G.freeze 1 U (λ_ _ d=>?_);refine G.freeze 0 U (λ_ _ F=>?_);refine V3 λR a=>?_;refine V1 (bkT d 5) U8 ?_;refine Wb (q _ mup) U7 ?_;refine C6 5 [1,3,5,8,9] a U ?_;clear a R;refine U0 2 [1,3,5,8,9,21] U ?_;refine G.cd (λH=>?_) λH=>?_
 .exact absurd H dc_
 refine U1 1 U λR a=>?_;refine V1 (bkT d 2) U8 ?_;refine V1 (bkT F 2) U8 ?_;refine Wz (mB _ k.m_ _ B.pts B.tris p hm.m_ o x y) U7 (λaw _ _ ad=>?_);obtain⟨wv,rfl,g⟩:=ad;rw[Q]at g;obtain⟨Aw,cw,rfl,_⟩:=id g;refine C6 5 [1,3,5,8,9,10] a U ?_;clear a R;refine U0 2 [1,3,5,8,9,10,31] U ?_;refine G.cd (λI=>?_) λI=>?_
 .exact absurd I dc_
 refine U0 3 [1,3,5,8,10,35] U ?_;refine G.cd (λJ=>?_) λJ=>?_
 .exact absurd (RD J) am
 refine Wn [0,1,2,3,4,5,6,7,8,9,10,11,12] [(6,1)] U kr_ (λR b a=>?_);refine V2 U6 ?_;refine V1 (bkT d 2) U8 ?_;refine V2 U6 ?_;refine Wf g.m_ U10 om_ (rfl:(List.map aW (i::r))[0]?=some (aW i)) fl_ (λax ae=>?_);refine V1 ae U8 ?_;refine V1 (bkT F 2) U8 ?_;refine WC (λ_=>(xp _ k.m_ _ B.pts B.tris p i t hm.m_ o x y l S)) U9 ?_;refine V4 3 U ?_;refine Wg U5 (λaf=>?_);refine Wa (j:=0) U12 ?_;refine V2 U6 ?_;refine V5 [1,3,8,9,10,11] a U ?_;clear a b R;refine U0 2 [1,3,8,9,10,11,47] U ?_;refine G.cd (λK=>?_) λK=>?_
 .exact absurd K dc_
 refine Wt [(1,3)] U (λR a=>?_);refine V2 U6 ?_;refine D.call (mJ _ n om_) U (.inr dc_) U6 (Sp _) fl_ (λay _ az _ ag=>?_);refine C6 1 [1,3,10,11,12] a U ?_;clear a R;obtain⟨bz,rfl,rfl⟩:=ag;refine G.freeze 1 U (λ_ _ ah=>?_);refine Wn [0,1,2,3,4,5,6,7,8] [] U kr_ (λR b a=>?_);refine V4 2 U ?_;refine V1 (bkT d 1) U8 ?_;refine V2 U6 ?_;refine Wf g.m_ U10 om_ (rfl:(List.map aW (i::r))[0]?=some (aW i)) fl_ (λaA ai=>?_);refine V1 ai U8 ?_;refine Wf h2.m_ U10 om_ (by rw[Sh,l];rfl:(B.tris.map jG)[i]?=some (jG t)) fl_ (λaB aj=>?_);refine V1 aj U8 ?_;refine V2 U6 ?_;refine V5 [1,3,11,12,58,59] a U ?_;clear a b R;refine Wk (L':=[.arr (s_ bz n n) 32 1 n ((Eo n (s*bp B) t (wgt B.pts t p) 0).map tq)]) (by rw[G9];rfl) ?_;refine G.loop (λfr C' w μ=>∃(j:Nat),(j<=3)/\fr=[(1,[],i_ s),(3,[],p_ b3),(11,[],p_ af),(12,[],s_ bz n n),(58,[],.agg ⟨jG t⟩),(59,[],i_ j)]/\w=[.arr (s_ bz n n) 32 1 n ((Eo n (s*bp B) t (wgt B.pts t p) j).map tq)]/\μ=3-j) (hn_ [1,3,11,12,58,59] U) ⟨0,Sm _,U,U,U⟩ (λfr ak aC m _ hI=>?_);obtain⟨j,hj,rfl,rfl,rfl⟩:=hI;refine U0 1 [1,3,11,12,58,59,60] U ?_;refine G.cd (λh60=>?_) λh60=>?_
 .have L:j<3:=by
   have:=RD h60;omega
  have al:=MC (f:=wgt B.pts t p) (Mem.get (D:=ak) ah mup) L;have aD:=c j;refine U1 1 U λR a=>?_;refine W7 U11 (λ_=>⟨by omega,by omega,zE t (j:=j) L⟩) U2 ?_;refine C6 2 [1,3,11,12,13,14,58,59] a U ?_;clear a R;refine Wn [0,1,2,3,4,5,6,7,8,9,10,11,12,13] [(11,0)] U kr_ (λR b a=>?_);refine V4 4 U ?_;refine V1 (bkT d 1) U8 ?_;refine V2 U6 ?_;refine V8 (((s*bp B:Nat):Int)) (SK _ _) U6 ?_;refine V2 U6 ?_;refine Wx (((s*bp B+pR t j:Nat):Int)) U4 om_ om_ om_ U2 ?_;refine V2 U6 ?_;refine Wp (j) U9 (λ_=>⟨by omega,by omega,by show j=0+(j:Int).toNat*1;omega⟩) U2 ?_;refine WF (λ_=>(al.mono b)) U9 ?_;refine Ww ((s*bp B+pR t j)) U10 (λ_=>⟨by omega,by omega,(T0 _).symm⟩) U2 ?_;refine WA (j:=0) U11 (by rw[au,lR];have:=c j;simp;omega) ?_;refine V5 [1,3,11,12,58,59] a U ?_;clear a b R;refine V3 λR a=>?_;refine V8 _ U U6 ?_;refine C6 1 [1,3,11,12,58,59] a U ?_;clear a R;refine Wk (L':=[.arr (s_ bz n n) 32 1 n ((Eo n (s*bp B) t (wgt B.pts t p) (j+1)).map tq)]) (by rw[ip (by rw[lR];exact c j)];rfl) ?_;refine We (m':=3-(j+1)) om_ mup (hn_ [1,3,11,12,58,59] U) ⟨j+1,by omega,U,U,U⟩
 have an:j=3:=by
  have:=Si h60;omega
 subst an;refine U0 3 [6,7] U ?_;rw[<- pS];refine G.freezeArr 0 ((Eo n (s*bp B) t (wgt B.pts t p) 3).map aM) U2 bK (by rw[au,lR]) (λCf aE ao=>?_);refine Wd (G.dropAll (Wu U3 ?_));exact⟨U,_,U,ao⟩
theorem xh {A B:List Value}{x:Value}(h:A.length=j):aB (A++x::B) [v] j=A++v::B:=by
 subst h;unfold aB;rw[List.take_left,Sk];have:List.drop (A.length+1) (A++x::B)=B:=by rw[Vf];simp
 rw[this];simp
theorem Hr (C:Mem)(G:Tabs C)(n:Nat)(l d:Value)(b:List (List Rat × Rat))(a:List Rat)(H:RowsT C l (b.map dp))(I:RowsQ n b)(J:∀x∈a,QB 22 x)(K:∀r∈b,(∀x∈r.1,QB 22 x)/\QB 22 r.2)(M:n<=60)(z:a.length=n)(N:Lp.Lim (bN n b) (λj=>a.getD j 0) 20) :
  Jog.Fn cx.P 21 [.agg ⟨[i_ n,l,d]⟩] C [.arr d 32 1 n (a.map tq)] λu _ g=>(∃(kd:Int)(v:Rat)(i:Str)(o:Option Addr)(n1 p:Nat)(A2:Option Addr)(n2 c2:Nat)(q:Option Addr)(t w:Nat),
   u=.tuple #[.agg ⟨[i_ kd,ae i,.slice o n1 p,.slice A2 n2 c2,.slice q t w]⟩,i_ 0]/\(kd=1->i=qtx v)/\Lp.Val (bN n b) (λj=>a.getD j 0) kd v/\QB 20 v)/\g=[.arr d 32 1 n (a.map tq)]:=by
 have h1:=Xs (P:=cx.P) (f:=21) (args:=[.agg ⟨[i_ n,l,d]⟩]) (C:=C) (L:=[]) (v:=d) (e:=32) (s:=1) (m:=n) (rows:=a.map aM)
  (post:=λu g=>g=[]/\∃(kd:Int)(v:Rat)(i:Str)(o:Option Addr)(n1 p:Nat)(A2:Option Addr)(n2 c2:Nat)(q:Option Addr)(t w:Nat),
   u=.tuple #[.agg ⟨[i_ kd,ae i,.slice o n1 p,.slice A2 n2 c2,.slice q t w]⟩,i_ 0]/\(kd=1->i=qtx v)/\Lp.Val (bN n b) (λj=>a.getD j 0) kd v/\QB 20 v) kr_ bK (by rw[au,z]) λD B hs=>by
  refine Fn.mono (Hs D (G.mono B) n l d b a (H.mono B) hs I J K M z N) λu E g _ ⟨h0,r,h1,h2⟩=>⟨h0, ?_⟩;subst h1;cases h2 with
 |opt val pt du O Q F k y =>
   obtain⟨A,c,rfl,_⟩:=id k;obtain⟨A2,c2,rfl,_⟩:=id y;exact⟨1,val,_,_,_,_,_,_,_,_,_,_,U,λ_=>rfl,F.val,F.qv⟩
 |inf du Q R k =>
   obtain⟨A,c,rfl,_⟩:=id k;exact⟨2,0,_,_,_,_,_,_,_,_,_,_,U,λh=>absurd h dc_,R.val 0,QB_zero.le dc_⟩
 |unb pt ra O T S k y =>
   obtain⟨A,c,rfl,_⟩:=id k;obtain⟨A2,c2,rfl,_⟩:=id y;exact⟨3,0,_,_,_,_,_,_,_,_,_,_,U,λh=>absurd h dc_,S.val 0,QB_zero.le dc_⟩
 rw[pS]at h1;exact Fn.mono h1 λu E V _ ⟨g,h2,h3,h4⟩=>⟨h4,by rw[h2,h3]⟩
def qq (k:Nat):Rat:=if k=0 then 1 else -1
def F3 (kd:Int)(v:Rat):Str:=if kd=1 then qtx (1*v) else []
def oM (kd:Int)(v:Rat):Str:=if kd=1 then qtx (-1*v) else []
def sgL (c:List Rat)(k:Nat):List Rat:=c.map (qq k*·)
def Nv (p:Lp.Sys)(c:List Rat)(u:Value):Prop:=∃(kd1:Int)(v1:Rat)(kd2:Int)(v2:Rat),(QB 20 v1/\QB 20 v2)/\Lp.Val p (λj=>(sgL c 0).getD j 0) kd1 v1/\(kd1≠2->Lp.Val p (λj=>(sgL c 1).getD j 0) kd2 v2) /\
 ((kd1=2/\u=.tuple #[ae [],ae [],.int .i64 22])∨(kd1≠2/\u=.tuple #[ae (F3 kd1 v1),ae (oM kd2 v2),.int .i64 0]))
theorem J1 {p:Lp.Sys}{f:Nat->Rat}{c d:Int}{v w:Rat}(h:Lp.Val p cc c v)(k:Lp.Val p f d w)(g:c≠2):d≠2:=by
 intro e;have b:¬ p.Hold:=by
  rcases k with⟨a,_⟩|⟨_,b⟩|⟨a,_⟩
  .rw[a]at e;cases e
  .exact b
  rw[a]at e;cases e
 rcases h with⟨_,⟨y,hy,_⟩,_⟩|⟨a,_⟩|⟨_,hh,_⟩
 .exact b ⟨y,hy⟩
 .exact g a
 exact b hh
theorem zX:qtx (-1)=[45,49]:=iv (z:=-1) ap
theorem RT:[[ae [49]],[ae [45,49]]]=([1, -1]:List Rat).map aM:=by
 show _=[[ae (qtx 1)],[ae (qtx (-1))]];rw[KJ,zX]
theorem GP (a:k<2):([1, -1]:List Rat)[k]?=some (qq k):=by
 rcases(by omega:k=0∨k=1) with rfl|rfl <;> rfl
theorem xq (k:Nat):QB 22 (qq k):=by
 unfold qq;split
 .decide +kernel
 decide +kernel
abbrev sO2 (A:Option Addr)(n c:Nat):Value:=.slice A n c
abbrev zai:=λA a b=>Ent.arr (sO2 (some ⟨A,0,none⟩) a a) 32 1 a b
theorem Iq (C:Mem)(H:Tabs C)(Q:Value)(B:Bk)(M:List Rat)(o:Nat->List RowQ)(s:Nat)(p:Pt)(i:Nat)(r:List Nat)(t:Tri)(x0:Str)(v:BookIn C Q B)(h:Calm B M o)(hs:s<bs B)(hq:QP 23 p)(hr:PtR p)
  (hl:lj B.pts B.tris p=i::r) (ht:B.tris[i]?=some t) (S:∀j,QB 22 (wgt B.pts t p j)) (hv:FY B.pts B.tris M p=.tuple #[ae x0,i_ 0])
  (T:∀k,k<2->Lp.Lim (nC B o) (λj=>(sgL (Eo (bs B*bp B) (s*bp B) t (wgt B.pts t p) 3) k).getD j 0) 20) :
  Pur cx.P 14 [Q,i_ s,ptV p] C λu _=>Nv (nC B o) (Eo (bs B*bp B) (s*bp B) t (wgt B.pts t p) 3) u:=by
 have aG:=v;have hG:=h.rich.good;have aH:=h.n12;have hS:=cH B.obs.length;have ao:=h.rowsQ hS;have aI:=h.q22 hS;have V:=h.rich.terr;obtain⟨b,Z⟩:∃b,Eo (bs B*bp B) (s*bp B) t (wgt B.pts t p) 3=b:=⟨_,rfl⟩;have J:b.length=bs B*bp B:=by rw[<- Z];exact lR _ _ _ _ _
 have aa:∀x∈b,QB 22 x:=λx c=>by
  rw[<- Z]at c;simp only[Eo]at c;rcases TH c with c|rfl
  .rcases TH c with c|rfl
   .rcases TH c with c|rfl
    .rw[(List.mem_replicate.1 c).2];exact QB_zero.le dc_
    exact S 0
   exact S 1
  exact S 2
 have ab:=λ(D:Mem)(z:C.le D)=>JX D (H.mono z) Q B M o s p i r t (v.mono z) h hs hq hr hl ht S;rw[Z]at ab T⊢;have ac:=λ(D:Mem)(z:C.le D)=>iH D (H.mono z) Q B M o (v.mono z) h;unfold nC at T⊢;obtain⟨n,hn⟩:∃n,bs B*bp B=n:=⟨_,rfl⟩;rw[hn]at J aH ao ac T⊢;obtain⟨v1,v2,tv,cv,ov,rfl,h1,h2,h3,h4,h5⟩:=id v.ex;have hm:MeshIn C (.agg ⟨[v1,v2]⟩) B.pts B.tris:=⟨v1,v2,rfl,h1,h2⟩;rw[V.e,<- nT]at h3;have ap:=λ(D:Mem)(z:C.le D)=>BY D (H.mono z) (.agg ⟨[v1,v2]⟩) tv B.pts B.tris M 22 dc_ dc_ (hm.mono z) hG (h3.mono z) V.l V.q (MG V) p hq hr;rw[hv]at ap;obtain⟨A4,c4,rfl,aK,_⟩:=id h4;have aL:(B.col.map pi).length=bs B+1:=by rw[au];have:=h.rich.scol.1;omega
 simp only[aL]at h4 aK aG ab ac⊢;have a0:=mx_
 refine V7 func14 110 U3 λw0=>V3 λR a=>Wi U6 λb3=>Wi U6 λb5=>C6 3 [1,3,5] a U<|G.freeze 1 U λ_ _ N=>G.freeze 0 U λ_ _ aq=>Wt [(1,3)] U λR a=>V1 (bkT N 5) U8<|D.call (ac _ mup) U (.inr dc_) U6 (Sp _) fl_ (λa1 aN a2 _ aO=>?_);obtain⟨Ar,cr,A,vs,rfl,ar,rfl⟩:=aO;refine V4 3 U<|Wg U5 λb9=>Wa (j:=0) U12<|C6 1 [1,3,5,8,9] a U<|U0 2 [1,3,5,8,9,26] U<|G.cd (λav=>?_) λav=>?_
 .exact absurd av dc_
 refine U1 5 U λR a=>Wv U6 (λ_=>PtrTo.blockT (Mem.get N mup) _ 1) U3<|V2 U6<|V8 _ U U6<|V2 U6<|Wy U8<|V5 [1,3,5,9,37] a U<|G.cd (λaw=>?_) λaw=>?_
 .exact absurd aw am
 refine U1 1 U λR a=>V1 (bkT N 2) U8<|V2 U6<|V1 (bkT N 1) U8<|V1 (bkT aq 2) U8<|Wb (ap _ mup) U7<|C6 5 [1,3,5,9,11] a U<|U0 2 [1,3,5,9,11,48] U<|G.cd (λax=>?_) λax=>?_
 .exact absurd ax dc_
 refine V3 λR a=>V1 (bkT N 5) U8<|V2 U6<|V1 (bkT aq 2) U8<|Wz (ab _ mup) U7 (λa3 _ _ aP=>?_);obtain⟨uv,rfl,ad⟩:=aP;obtain⟨Au,cu,rfl,_⟩:=id ad;simp only[au,J]at ad⊢;refine C6 5 [8,9,12] a U<|U0 2 [8,9,12,58] U<|G.cd (λay=>?_) λay=>?_
 .exact absurd ay dc_
 refine V3 λR a=>Wg U5 λf=>V5 [9,12,13] a U<|G.freezeArr 2 (aA vs (cU B o)) U2 (co _ _) (by rw[bG ar.1]) λ_ _ aQ=>G.freeze 1 U (λaR _ az=>?_);have aS:=jW (RowsOk.m_ ar) (aQ.mono mup:Sl aR 2 _ _);refine V3 λR a=>WR [[ae [49]],[ae [45,49]]] U12 fl_ λaB _ _ aC=>C6 2 [9,12,13,60,61,62] a U ?_;clear a R;rw[RT]at aC;refine G.perm (L':=[zai A n (List.replicate n (ae [48])),.obj f (.cells ⟨[ae (if 0<0 then F3 0 0 else []),ae (if 1<0 then oM 0 0 else [])]⟩ 144 (0,0))]) (pkL [1,0] U)<|G.loop (λfr C' g μ=>∃(k:Nat)(xs:List Value)(d:Int)(w1:Rat)(F:Int)(E:Rat),(k<=2/\xs.length=n/\(QB 20 w1/\QB 20 E)/\(0<k->Lp.Val (bN n (dD (cU B o))) (λj=>(sgL b 0).getD j 0) d w1/\d≠2)/\(1<k->Lp.Val (bN n (dD (cU B o))) (λj=>(sgL b 1).getD j 0) F E))/\fr=[(9,[],p_ b9),(12,[],.slice Au n cu),(13,[],p_ f),(60,[],s_ aB 2 2),(61,[],i_ 2),(62,[],i_ k)]/\g=[zai A n xs,.obj f (.cells ⟨[ae (if 0<k then F3 d w1 else []),ae (if 1<k then oM F E else [])]⟩ 144 (0,0))]/\μ=2-k) (hn_ [9,12,13,60,61,62] U) ⟨0,List.replicate n (ae [48]),0,0,0,0,⟨Sm _,SG,⟨QB_zero.le dc_,QB_zero.le dc_⟩,λh=>absurd h om_,λh=>absurd h om_⟩,U,U,U⟩ (λfr a4 a5 m _ hI=>?_);obtain⟨k,xs,d,w1,F,E,⟨hk,a6,ag,K,aT⟩,rfl,rfl,rfl⟩:=hI;refine U0 1 [9,12,13,60,61,62,63] U<|G.cd (λai=>?_) λai=>?_
 .have W:k<2:=by
   have:=RD ai;omega
  refine U1 1 U λR a=>Wf aC.m_ U10 om_ (by rw[Sh,GP W];rfl:(([1, -1]:List Rat).map aM)[k]?=some (aM (qq k))) fl_ λa7 aU=>V1 aU U8<|C6 2 [9,12,13,14,15,60,61,62] a U<|U0 3 [9,12,13,14,15,60,61,62,67,68,69] U<|Wk (L':=[.arr (sO2 (some ⟨A,0,none⟩) n n) 32 1 n (((b.take 0).map λx=>tq (qq k*x))++xs.drop 0),.obj f (.cells ⟨[ae (if 0<k then F3 d w1 else []),ae (if 1<k then oM F E else [])]⟩ 144 (0,0))]) al<|G.loop (λfr C' g μ=>∃(j:Nat),(j<=n)/\fr=[(9,[],p_ b9),(12,[],.slice Au n cu),(13,[],p_ f),(14,[],i_ k),(15,[],ae (qtx (qq k))),(60,[],s_ aB 2 2),(61,[],i_ 2),(62,[],i_ k),(67,[],.slice Au n cu),(68,[],i_ n),(69,[],i_ j)]/\g=[.arr (sO2 (some ⟨A,0,none⟩) n n) 32 1 n (((b.take j).map λx=>tq (qq k*x))++xs.drop j),.obj f (.cells ⟨[ae (if 0<k then F3 d w1 else []),ae (if 1<k then oM F E else [])]⟩ 144 (0,0))]/\μ=n-j) (hn_ [9,12,13,14,15,60,61,62,67,68,69] U) ⟨0,Sm _,U,U,U⟩ (λfr a8 a9 m _ hI=>?_);obtain⟨j,hj,rfl,rfl,rfl⟩:=hI;refine U0 1 [9,12,13,14,15,60,61,62,67,68,69,70] U<|G.cd (λaj=>?_) λaj=>?_
  .have aD:j<n:=by
    have:=RD aj;omega
   obtain⟨x,c⟩:∃x,b[j]?=some x:=⟨b[j]'om_,ah om_⟩;have aV:xs.drop j=xs[j]'om_::xs.drop (j+1):=SN om_;have aE:((b.take j).map λx=>tq (qq k*x)).length=j:=by rw[au,Sy];omega
   refine U1 1 U λR a=>Wf ad.m_ U10 om_ (by rw[Sh,c];rfl:(b.map aM)[j]?=some (aM x)) fl_ λba aW=>V1 aW U8<|C6 2 [9,12,13,14,15,16,17,60,61,62,67,68,69] a U<|Wn [0,1,2,3,4,5,6,7] [(5,1),(1,0)] U kr_ λR v a=>V2 U6<|WF (λ_=>((bkT az 2).mono v)) U9<|V4 3 U<|Wo (λ_=>(cX _ H.m_ (qq k) x 22 dc_ dc_ (xq k) (aa x (aJ c)))) U9<|Ww (j) U10 (λ_=>⟨by omega,by omega,(T0 _).symm⟩) U2<|WA (j:=0) U11 (by rw[So,aE,Uj];simp;omega)<|V5 [9,12,13,14,15,60,61,62,67,68,69] a U<|V3 λR a=>V8 _ U U6<|C6 1 [9,12,13,14,15,60,61,62,67,68,69] a U<|Wk (L':=[.arr (sO2 (some ⟨A,0,none⟩) n n) 32 1 n (((b.take (j+1)).map λx=>tq (qq k*x))++xs.drop (j+1)),.obj f (.cells ⟨[ae (if 0<k then F3 d w1 else []),ae (if 1<k then oM F E else [])]⟩ 144 (0,0))]) (by rw[aV,xh aE,SH,c];simp) ?_;refine We (m':=n-(j+1)) om_ mup (hn_ [9,12,13,14,15,60,61,62,67,68,69] U) ⟨j+1,om_,U,U,U⟩
  have aD:j=n:=by
   have:=Si aj;omega
  subst aD;refine Wk (L':=[zai A j ((sgL b k).map tq),.obj f (.cells ⟨[ae (if 0<k then F3 d w1 else []),ae (if 1<k then oM F E else [])]⟩ 144 (0,0))]) (by rw[SL om_,TZ om_,SF];unfold sgL;rw[Th];rfl)<|Wt [(1,3)] U λR a=>V1 (bkT az 3) U8 ?_;refine D.call (Hr _ H.m_ j _ _ (dD (cU B o)) (sgL b k) aS.m_ ao (λy hy=>by
   obtain⟨x,c,rfl⟩:=Sn.1 hy;unfold qq;split
   .rw[Rat.one_mul];exact aa x c
   rw[show(-1:Rat)*x=-x by grind];exact Lp.qb_neg (aa x c)) aI om_ (by unfold sgL;rw[au];exact J) (T k W)) rfl (.inr dc_) U6 (Sp _) fl_ (λbb _ bc _ aX=>?_)
  obtain⟨⟨kd,w,vt,A1,n1,bd,A2,n2,be,A3,n3,bf,rfl,aY,L,I⟩,rfl⟩:=aX;refine V4 3 U<|Wg U5 λbg=>Wa (j:=0) U12<|C6 1 [9,12,13,14,15,18,19,60,61,62] a U<|G.freeze 0 U λaN _ X=>U0 3 [9,12,13,14,15,18,19,60,61,62,87] U<|G.cd (λaF=>?_) λaF=>?_
  .exact absurd aF dc_
  refine U1 1 U λR a=>V1 (bkT X 1) U8<|C6 2 [9,12,13,14,15,18,60,61,62,91] a U<|G.cd (λak=>?_) λak=>?_
  .have O:kd=2:=by simpa using ak
   have aZ:k=0:=by
    rcases Tx k with h|h
    .exact h
    exact absurd O (J1 (K h).1 L (K h).2)
   subst aZ;refine U0 3 [6,7,8] U<|Wd (G.dropAll (WP U4 ?_));exact⟨U,kd,w,0,0,⟨I,QB_zero.le dc_⟩,L,λh=>absurd O h,.inl ⟨O,U⟩⟩
  have O:kd≠2:=by simpa using ak
  refine U1 1 U λR a=>V1 (bkT X 1) U8<|C6 2 [9,12,13,14,15,18,60,61,62,95] a U<|G.cd (λan=>?_) λan=>?_
  .have Y:kd=1:=by simpa using an
   obtain rfl:=aY Y;subst Y;rcases(by omega:k=0∨k=1) with rfl|rfl
   .refine U1 3 U λR a=>V1 (bkT X 1) U8<|Wc (cX _ H.m_ (qq 0) w 22 dc_ dc_ (xq 0) (I.le dc_)) U7 fl_<|Wp (0) U9 k_ U2<|Wa (j:=1) U12<|V5 [9,12,13,60,61,62] a U<|V3 λR a=>V8 _ U U6<|C6 1 [9,12,13,60,61,62] a U<|G.perm (L':=[zai A j ((sgL b 0).map tq),.obj f (.cells ⟨[ae (if 0<1 then F3 1 w else []),ae (if 1<1 then oM 0 0 else [])]⟩ 144 (0,0))]) (pkL [1,0] U) ?_;refine We (m':=1) om_ mup (hn_ [9,12,13,60,61,62] U) ⟨1,(sgL b 0).map tq,1,w,0,0,⟨by decide,by unfold sgL;simp[J],⟨I,QB_zero.le dc_⟩,λ_=>⟨L,by decide⟩,λh=>absurd h dc_⟩,U,U,U⟩
   refine U1 3 U λR a=>V1 (bkT X 1) U8<|Wc (cX _ H.m_ (qq 1) w 22 dc_ dc_ (xq 1) (I.le dc_)) U7 fl_<|Wp (1) U9 k_ U2<|Wa (j:=1) U12<|V5 [9,12,13,60,61,62] a U<|V3 λR a=>V8 _ U U6<|C6 1 [9,12,13,60,61,62] a U<|G.perm (L':=[zai A j ((sgL b 1).map tq),.obj f (.cells ⟨[ae (if 0<2 then F3 d w1 else []),ae (if 1<2 then oM 1 w else [])]⟩ 144 (0,0))]) (pkL [1,0] U) ?_;refine We (m':=0) om_ mup (hn_ [9,12,13,60,61,62] U) ⟨2,(sgL b 1).map tq,d,w1,1,w,⟨by decide,by unfold sgL;simp[J],⟨ag.1,I⟩,λ_=>K dc_,λ_=>L⟩,U,U,U⟩
  have Y:kd≠1:=by simpa using an
  refine V3 λR a=>V8 _ U U6<|C6 1 [9,12,13,60,61,62] a U ?_;clear a R;refine Wk (L':=[zai A j ((sgL b k).map tq),.obj f (.cells ⟨[ae (if 0<k+1 then F3 (if k=0 then kd else d) (if k=0 then w else w1) else []),ae (if 1<k+1 then oM (if k=0 then 0 else kd) (if k=0 then 0 else w) else [])]⟩ 144 (0,0))]) (by rcases(by omega:k=0∨k=1) with rfl|rfl <;> simp[F3,oM,Y]) ?_;refine We (m':=2-(k+1)) om_ mup (hn_ [9,12,13,60,61,62] U) ⟨k+1,(sgL b k).map tq,if k=0 then kd else d,if k=0 then w else w1,if k=0 then 0 else kd,if k=0 then 0 else w,⟨by omega,by unfold sgL;simp[J],⟨(by split <;> first|exact I|exact ag.1),(by split <;> first|exact QB_zero.le dc_|exact I)⟩,λ_=>by
   rcases(by omega:k=0∨k=1) with rfl|rfl
   .exact⟨L,O⟩
   .exact K dc_,λh=>by
   obtain rfl:k=1:=by omega
   exact L⟩,U,U,U⟩
 have W:k=2:=by
  have:=Si ai;omega
 subst W;refine Wn [0,1,2,3,4,5,6] [] U kr_ λR v a=>Wp (0) U9 k_ U2<|V9 af U9<|Wp (1) U9 k_ U2<|V9 af U9<|V4 3 U<|V5 [6,7,8] a U<|Wd (G.dropAll (WP U4 ?_));exact⟨U,d,w1,F,E,ag,(K dc_).1,λ_=>aT dc_,.inr ⟨(K dc_).2,U⟩⟩
theorem Pf (n:Nat)(q:Rat):List.replicate n (ae (qtx q))=((List.replicate n q).map aM).flatten:=by
 rw[US];induction n with
|zero=>rfl
|succ n a=>rw[Tm,Tm,Tu,<- a];rfl
theorem Hb (C:Mem)(v:Value)(n:Nat)(q:Rat)(s:Str)(a:qtx q=s)(c:Sl C 1 v [[ae s]])(d:n<=1000000):Pur cx.P 64 [v,i_ n] C λu D=>∃b,u=s_ b n n/\Sl D 1 u ((List.replicate n q).map aM) :=
 XF (jZ C v n s c d) λu e f ⟨b,h1,h2⟩=>.inr ⟨u,32,1,(List.replicate n q).map aM,by rw[h2,<- Pf,a];simp,bK,λD _ h=>⟨b,h1,h⟩⟩
theorem F8 (C:Mem)(n:Nat)(h:n<=100000):Pur cx.P 77 [i_ n] C λu D=>∃b,u=s_ b n n/\Sl D 1 u ((List.replicate n (0:Rat)).map aM) :=
 XF (mJ C n h) λu a c ⟨b,h1,h2⟩=>.inr ⟨u,32,1,(List.replicate n 0).map aM,by rw[h2,<- gw];simp,bK,λD _ h=>⟨b,h1,h⟩⟩
def Dp (rows:List RowQ)(more i:Nat):List RowQ:=(rows.take i).map (cj more)++rows.drop i
theorem K7 (a:List RowQ)(b i:Nat):(Dp a b i).length=a.length:=by
 unfold Dp;rw[So,au,<- So,Tf]
theorem OU (h:rows[i]?=some r):(Dp rows more i)[i]?=some r/\Dp rows more (i+1)=(Dp rows more i).set i (cj more r):=by
 have b:=(aT.1 h).1;have a:((rows.take i).map (cj more)).length=i:=by rw[au,Sy];omega
 have hd:rows.drop i=r::rows.drop (i+1):=by rw[SN b,(aT.1 h).2]
 unfold Dp;constructor
 .rw[SR om_,a,Vh,hd];rfl
 rw[SH,h,SV,hd,List.set_append_right _ _ om_,a,Vh];simp
theorem xE {l:List RowQ}(d:us.length=l.length)(c:l[i]?=some r)(e:r'.b=r.b) :
  aB (aA us l).flatten [w] (i*2)=(aA (us.set i w) (l.set i r')).flatten:=by
 have f:=(aT.1 c).1;obtain⟨u0,g⟩:∃u0,us[i]?=some u0:=⟨us[i]'om_,ah om_⟩;have h:us=us.take i++u0::us.drop (i+1):=by
  conv=>lhs;rw[<- Tf i us,SN om_,(aT.1 g).2]
 have j:l=l.take i++r::l.drop (i+1):=by
  conv=>lhs;rw[<- Tf i l,SN om_,(aT.1 c).2]
 have a:(us.take i).length=(l.take i).length:=by rw[Sy,Sy,d]
 have k:aA us l=aA (us.take i) (l.take i)++[u0,ae (qtx r.b)]::aA (us.drop (i+1)) (l.drop (i+1)):=by
  conv=>lhs;rw[h,j]
  unfold aA;rw[List.zipWith_append a];rfl
 have m:aA (us.set i w) (l.set i r')=aA (us.take i) (l.take i)++[w,ae (qtx r.b)]::aA (us.drop (i+1)) (l.drop (i+1)):=by
  rw[List.set_eq_take_append_cons_drop,aK om_,List.set_eq_take_append_cons_drop,aK f];unfold aA;rw[List.zipWith_append a,<- e];rfl
 have n:(aA (us.take i) (l.take i)).flatten.length=i*2:=by
  rw[aP (co _ _),bG a,Sy,Tj om_]
 rw[k,m,SI,SI,Tu,Tu];exact xh (A:=(aA (us.take i) (l.take i)).flatten) (x:=u0) (B:=ae (qtx r.b)::(aA (us.drop (i+1)) (l.drop (i+1))).flatten) n
theorem EM {l:List RowQ}(h:RowsOk C us l)(b:Sl C 1 w (r'.f.map eH)):RowsOk C (us.set i w) (l.set i r'):=by
 refine⟨by rw[Tc,Tc];exact h.1,λj v r a hr=>?_⟩;rw[List.getElem?_set]at a hr;by_cases e:i=j
 .subst e;rw[aK rfl]at a hr;split at a
  .split at hr
   .cases a;cases hr;exact b
   cases hr
  cases a
 rw[aF e]at a hr;exact h.2 j v r a hr
theorem eX {l:List RowQ}(h:RowsOk C us l)(e:Sl C 1 w (r.f.map eH)):RowsOk C (us++[w]) (l++[r]):=by
 refine⟨by rw[So,So,h.1];rfl,λj v x a b=>?_⟩;have:=h.1;rcases SP j us.length with c|c
 .rw[Ta c]at a;rw[Ta om_]at b;exact h.2 j v x a b
 rw[SR c]at a;rw[SR om_]at b;cases d:j-us.length with
|zero =>
  rw[d]at a;rw[show j-l.length=0 by omega]at b;cases a;cases b;exact e
|succ k=>rw[d]at a;cases a
theorem xF {l:List RowQ}(d:us.length=l.length)(a:l[i]?=some r)(e:us[i]?=some w):((aA us l).flatten.drop (i*2)).take 2=[w,ae (qtx r.b)]:=by
 have k:=(aT.1 a).1;have f:us=us.take i++w::us.drop (i+1):=by
  conv=>lhs;rw[<- Tf i us,SN om_,(aT.1 e).2]
 have g:l=l.take i++r::l.drop (i+1):=by
  conv=>lhs;rw[<- Tf i l,SN om_,(aT.1 a).2]
 have c:(us.take i).length=(l.take i).length:=by rw[Sy,Sy,d]
 have h:aA us l=aA (us.take i) (l.take i)++[w,ae (qtx r.b)]::aA (us.drop (i+1)) (l.drop (i+1)):=by
  conv=>lhs;rw[f,g]
  unfold aA;rw[List.zipWith_append c];rfl
 have j:(aA (us.take i) (l.take i)).flatten.length=i*2:=by
  rw[aP (co _ _),bG c,Sy,Tj om_]
 rw[h,SI,Tu,<- j,List.drop_left];rfl
theorem lD (l:List Rat):((l.map aM).all λr=>r.all kR)=true:=by
 rw[SA];intro r hr;obtain⟨q,_,rfl⟩:=Sn.1 hr;rfl
theorem CN {q:Nat}(a:q<2):(rgK n h p es k).take (q+1)=(rgK n h p es k).take q++[⟨rgF n h p es.length k (edg es k) (qq q),0⟩]:=by
 rcases(by omega:q=0∨q=1) with rfl|rfl <;> rfl
def PN (D:Mem)(n:Nat)(rows:List RowQ)(ob:List Rat)(u:Value):Prop:=∃(A1:Option Addr)(n1 c1:Nat)(A2:Option Addr)(n2 c2:Nat),u=.agg ⟨[.int .i64 n,.slice A1 n1 c1,.slice A2 n2 c2]⟩/\RowsT D (.slice A1 n1 c1) ((dD rows).map dp)/\Sl D 1 (.slice A2 n2 c2) (ob.map aM)
abbrev sR7 (A:Option Addr)(n c:Nat):Value:=.slice A n c
abbrev sF7 (A:Option Addr)(n c:Nat):Value:=.slice A n c
theorem CK (C:Mem)(hT:Tabs C)(S:Value)(B:Bk)(fs:List Rat)(F:Nat->List RowQ)(d:BookIn C S B)(h:Calm B fs F)(aO:bp B<=6)(aQ:bs B<=2) :
  Pur cx.P 22 [S] C λu D=>∃es x,u=.tuple #[x,i_ 0]/\EdgL B.tris es/\PN D (bs B*bp B+bs B*es.length) (sj (cU B F) (bs B*bp B) (bp B) es (bs B*es.length)) (kH (bs B*bp B) (bs B*es.length)) x:=by
 have aR:=d;have T:=h.rich.good;have aS:=h.n12;have aT:=h.cnt (cH B.obs.length);have M:=λ(D:Mem)(hD:C.le D)=>iH D (hT.mono hD) S B fs F (d.mono hD) h;obtain⟨v1,v2,tv,cv,ov,rfl,h1,h2,h3,h4,h5⟩:=id d.ex;have hm:MeshIn C (.agg ⟨[v1,v2]⟩) B.pts B.tris:=⟨v1,v2,rfl,h1,h2⟩;obtain⟨s,t,rfl,aU,_⟩:=id h1;obtain⟨A4,c4,rfl,aW,_⟩:=id h4;have aX:(B.pts.map gK).length=bp B:=au _;have aY:(B.col.map pi).length=bs B+1:=by rw[au];have:=h.rich.scol.1;omega
 simp only[aX,aY]at h1 aU h4 aW hm aR M⊢;have bC:=mx_
 obtain⟨n,hn⟩:∃n,bs B*bp B=n:=⟨_,rfl⟩;obtain⟨rows,V⟩:∃rows,cU B F=rows:=⟨_,rfl⟩;rw[show oK B F (List.range B.obs.length)=rows from V]at aT;rw[hn]at M aS⊢;rw[V]at M⊢;have aZ:∀r∈rows,r.f.length<=12:=λr hr=>by
  have h1:=(h.rowsQ (cH B.obs.length)).l (r.f,r.b) (Sn.2 ⟨r,by rw[<- V]at hr;exact hr,rfl⟩);have h2:r.f.length=bs B*bp B:=h1;omega
 refine V7 func22 153 U3 λw0=>?_;refine V3 λR c=>?_;refine Wi U6 (λb1=>?_);refine Wg U5 (λv=>?_);refine C6 1 [1,2] c U ?_;clear c R;refine G.freeze 1 U (λ_ _ N=>?_);refine Wt [(1,3)] U (λR c=>?_);refine V1 (bkT N 5) U8 ?_;refine D.call (M _ mup) U (.inr dc_) U6 (Sp _) fl_ (λbD _ bE _ a0=>?_);obtain⟨E,z,bo,vs,rfl,a1,rfl⟩:=a0;refine V4 3 U ?_;refine Wg U5 (λy=>?_);refine Wa (j:=0) U12 ?_;refine C6 1 [1,2,4,5] c U ?_;clear c R;refine U0 2 [1,2,4,5,24] U ?_;refine G.cd (λav=>?_) λav=>?_
 .exact absurd av dc_
 refine U1 1 U λR c=>?_;refine V1 (bkT N 2) U8 ?_;refine Wz (pj _ hT.m_ _ B.pts B.tris hm.m_ T) U7 (λbF _ _ a2=>?_);obtain⟨es,ev,rfl,W,X⟩:=a2;obtain⟨Y,Z,rfl,a3,_⟩:=id X;simp only[au]at X a3⊢;obtain⟨a4,bH⟩:=W.le T.ok.ins aO;obtain⟨a,H⟩:∃a,bs B*es.length=a:=⟨_,rfl⟩;have bI:a<=30:=by rw[<- H];exact TA aQ a4
 refine C6 5 [1,2,4,5,6] c U ?_;clear c R;refine U0 2 [1,2,4,5,6,34] U ?_;refine G.cd (λaw=>?_) λaw=>?_
 .exact absurd aw dc_
 refine Wn [0,1,2,3,4,5,6,7] [] U kr_ (λR d c=>?_);refine V2 U6 ?_;refine V9 ag U9 ?_;refine V4 2 U ?_;refine V1 (bkT N 1) U8 ?_;refine V4 3 U ?_;refine V5 [1,2,4,6,7,8] c U ?_;clear c d R;refine U1 1 U λR c=>?_;refine V1 (bkT N 1) U8 ?_;refine V2 U6 ?_;refine Wx (((bs B:Nat):Int)) U4 om_ om_ om_ U2 ?_;refine V4 2 U ?_;refine Wx (((a:Nat):Int)) U4 (by rw[<- H,SK]) om_ om_ U2 ?_;refine C6 1 [2,4,6,7,8,9] c U ?_;clear c R;refine U1 1 U λR c=>?_;refine V9 ag U9 ?_;refine V2 U6 ?_;refine Wx (((n+a:Nat):Int)) U4 om_ om_ om_ U2 ?_;refine V2 U6 ?_;refine Wa (j:=0) U12 ?_;refine V5 [2,4,6,7,8,9] c U ?_;clear c R;refine U1 1 U λR c=>?_;refine V9 ag U9 ?_;refine V4 3 U ?_;refine V9 ag U9 ?_;refine V4 2 U ?_;refine V8 _ U U6 ?_;refine V8 _ U U6 ?_;refine V2 U6 ?_;refine Wy U8 ?_;refine V5 [2,4,6,7,8,9,66] c U ?_;clear c R;refine G.cd (λay=>?_) λay=>?_
 .exact absurd ay am
 refine Wn [0,1,3,2,4,5,6,7] [] U kr_ (λR d c=>?_);refine V2 U6 ?_;refine V9 ag U9 ?_;refine V2 U6 ?_;refine Wq [[ae [49]]] U12 (λbJ _ _ a5=>?_);refine Ws (Hb _ _ a 1 [49] KJ a5.m_ om_) U7 fl_ (λbL _ _ a6=>?_);obtain⟨bM,rfl,a7⟩:=a6;refine WB (j:=2) U11 a7.m_ (lD _) (by simp only[au,SG,maxLen];omega) (by simp only[au,SG];omega) fl_ (λe o p=>?_);refine V2 U6 ?_;refine Wa (j:=1) U12 ?_;refine V5 [2,4,6,7,8,9] c U ?_;clear c d R;refine U1 1 U λR c=>?_;refine V9 ag U9 ?_;refine C6 2 [2,4,6,7,8,9,76,77,78] c U ?_;clear c R;have a8:List.replicate n (ae [48])++((List.replicate a (1:Rat)).map aM).flatten=((kH n a).map aM).flatten:=by
  rw[gw];unfold kH;rw[SV,SI]
 have a9:n+((List.replicate a (1:Rat)).map aM).length=n+a:=by simp
 refine G.perm (L':=[.arr (sR7 E rows.length z) 140 2 (rows.length) (aA vs (Dp rows a 0)).flatten,.arr (sF7 e o p) 32 1 (n+a) ((kH n a).map aM).flatten,.obj y (.cells ⟨[i_ (n+a:Nat),.slice E rows.length z,.slice e o p]⟩ 74 (0,0)),.obj v (.cells ⟨[i_ 0,.slice none 0 0,.slice none 0 0]⟩ 74 (0,0))]) (by rw[show Dp rows a 0=rows from U,<- a8,<- a9];(exact pkL [2,1,0,0] U)) ?_;refine G.loop (λfr I A J=>∃(i:Nat)(us:List Value),(i<=rows.length/\RowsOk I us (Dp rows a i))/\fr=[(2,[],p_ v),(4,[],p_ y),(6,[],.slice Y es.length Z),(7,[],i_ n),(8,[],i_ (bp B:Nat)),(9,[],i_ a),(76,[],.slice E rows.length z),(77,[],i_ rows.length),(78,[],i_ i)]/\A=[.arr (sR7 E rows.length z) 140 2 rows.length (aA us (Dp rows a i)).flatten,.arr (sF7 e o p) 32 1 (n+a) ((kH n a).map aM).flatten,.obj y (.cells ⟨[i_ (n+a:Nat),.slice E rows.length z,.slice e o p]⟩ 74 (0,0)),.obj v (.cells ⟨[i_ 0,.slice none 0 0,.slice none 0 0]⟩ 74 (0,0))]/\J=rows.length-i) (hn_ [2,4,6,7,8,9,76,77,78] U) ⟨0,vs,⟨Sm _,by rw[show Dp rows a 0=rows from rfl];exact RowsOk.mono a1 mup⟩,U,U,U⟩ (λfr bN bO m _ K=>?_);obtain⟨i,us,⟨hi,L⟩,rfl,rfl,rfl⟩:=K;refine XG ag (λA0 c0 ba bb=>?_);refine U0 1 [2,4,6,7,8,9,76,77,78,79] U ?_;refine G.cd (λaa=>?_) λaa=>?_
 .have ab:i<rows.length:=by
   have:=RD aa;omega
  obtain⟨rfl,rfl⟩:E=A0/\z=c0:=by cases ba;exact⟨rfl,rfl⟩
  obtain⟨g,rfl⟩:=bb om_;obtain⟨r,az⟩:∃r,rows[i]?=some r:=⟨rows[i],ah ab⟩;obtain⟨ad,aB⟩:=OU (more:=a) az;have bP:=K7 rows a i;have af:=L.1;obtain⟨w,aC⟩:∃w,us[i]?=some w:=⟨us[i]'om_,ah om_⟩;have aD:=L.2 i w r aC ad;obtain⟨Aw,cw,rfl,_⟩:=id aD;have bQ:r.f.length<=12:=aZ r (aJ az);refine U1 1 U λR c=>?_;refine Ww ((i*2)) U10 w_ U2 ?_;refine WJ ag U6 (λ_=>(by rw[show((TI.size _:Nat))=2 from U,xF af ad aC];rfl)) U2 ?_;refine Wg U5 (λbR=>?_);refine V2 U6 ?_;refine Wa (j:=0) U12 ?_;refine V5 [2,4,6,7,8,9,10,11,76,77,78] c U ?_;clear c R;refine G.freeze 0 U (λ_ _ bc=>?_);refine XH 2 U [0,1,2,3,4,6,5,7,8,9,10,11] [(5,3),(1,0),(4,0)] U kr_ (λbS R bT bd d c=>?_);refine V2 U6 ?_;refine WF (λ_=>(PtrTo.block bd _).mono d) U9 ?_;refine V4 2 U ?_;refine WF (λ_=>((bkT bc 1).mono d)) U9 ?_;refine V2 U6 ?_;refine D.call (DX _ _ r.f aD.m_ om_) U (.inr dc_) U6 (Sp _) fl_ (λbU _ bV _ be=>?_);obtain⟨Ac,nc,cc,rfl,rfl⟩:=be;refine Ws (F8 _ a om_) U7 fl_ (λbW _ _ bf=>?_);obtain⟨bz,rfl,hz⟩:=bf;refine WB (j:=0) U11 hz.m_ (lD _) (by simp only[au,SG,maxLen];omega) (by simp only[au,SG];omega) fl_ (λaE aF aG=>?_);refine Ww ((i*2)) U10 w_ U2 ?_;refine V2 U6 ?_;refine WA (j:=1) U11 (by rw[aP (co _ _),bG af];simp;omega) ?_;refine WV [(2,[],_),(4,[],_),(6,[],_),(7,[],_),(8,[],_),(9,[],_),(76,[],_),(77,[],_),(78,[],_)] ⟨U,U,U,U,U,U,U,U,U,trivial⟩ (c _ _ _ U (λbX bY=>?_));clear c d R;rw[<- SI,<- SV,xE af ad (r':=cj a r) rfl,<- aB];refine G.freezeArr 2 ((r.f++List.replicate a (0:Rat)).map aM) U2 bK al (λCf bg ai=>?_);refine G.perm (L':=[.arr (sR7 (some ⟨g,0,none⟩) rows.length z) 140 2 (rows.length) (aA (us.set i (.slice aE aF aG)) (Dp rows a (i+1))).flatten,.arr (sF7 e o p) 32 1 (n+a) ((kH n a).map aM).flatten,.obj y (.cells ⟨[i_ (n+a:Nat),s_ g rows.length z,.slice e o p]⟩ 74 (0,0)),.obj v (.cells ⟨[i_ 0,.slice none 0 0,.slice none 0 0]⟩ 74 (0,0))]) (pkL [1,1,0] U) ?_;refine V3 λR c=>?_;refine V8 _ U U6 ?_;refine C6 1 [2,4,6,7,8,9,76,77,78] c U ?_;clear c R;refine We (m':=rows.length-(i+1)) om_ mup (hn_ [2,4,6,7,8,9,76,77,78] U) ⟨i+1,us.set i (.slice aE aF aG),⟨by omega,by rw[aB];exact EM (RowsOk.m_ L) ai⟩,U,U,U⟩
 have ab:i=rows.length:=by
  have:=Si aa;omega
 subst ab;refine U0 2 [2,4,6,7,8,95,96] U ?_;rw[show Dp rows a rows.length=rows.map (cj a)++rgL (n+a) n (bp B) es 0 by unfold Dp;rw[Ss,Ty];rfl]at L⊢;refine G.loop (λfr I A J=>∃(k:Nat)(s:Option Addr)(n1 t:Nat)(us:List Value),(k<=a/\RowsOk I us (rows.map (cj a)++rgL (n+a) n (bp B) es k))/\fr=[(2,[],p_ v),(4,[],p_ y),(6,[],.slice Y es.length Z),(7,[],i_ n),(8,[],i_ (bp B:Nat)),(95,[],i_ a),(96,[],i_ k)]/\A=[.arr (sR7 s n1 t) 140 2 (rows.length+2*k) (aA us (rows.map (cj a)++rgL (n+a) n (bp B) es k)).flatten,.arr (sF7 e o p) 32 1 (n+a) ((kH n a).map aM).flatten,.obj y (.cells ⟨[i_ (n+a:Nat),.slice s n1 t,.slice e o p]⟩ 74 (0,0)),.obj v (.cells ⟨[i_ 0,.slice none 0 0,.slice none 0 0]⟩ 74 (0,0))]/\J=a-k) (hn_ [2,4,6,7,8,95,96] U) ⟨0,E,rows.length,z,us,⟨Sm _,RowsOk.mono L mup⟩,U,U,U⟩ (λfr bZ b0 m _ K=>?_);obtain⟨k,s,n1,t,us,⟨hk,aj⟩,rfl,rfl,rfl⟩:=K;refine U0 1 [2,4,6,7,8,95,96,97] U ?_;refine G.cd (λan=>?_) λan=>?_
 .have b3:k<a:=by
   have:=RD an;omega
  have aH:k<bs B*es.length:=by omega
  obtain⟨bh,b5⟩:=AY aH;obtain⟨bi,bj,b6⟩:=DG (W.ok (n:=bp B) T.ok.ins (bs B)) aH;rw[hn]at bi bj;have bk:0<es.length:=List.length_pos_of_mem bh;have aI:=S5 k bk;have bl:(es.map rF)[k % es.length]?=some (rF (edg es k)):=by
   rw[Sh,ah aI];unfold edg;rw[ak,ah aI];rfl
  refine U0 2 [2,4,6,7,8,12,95,96] U ?_;refine Wn [0,1,2,3,4,5,6,7,8,9,10,11,12,13] [] U kr_ (λR d c=>?_);refine V4 3 U ?_;refine WZ (k) (es.length) U6 om_ (.inl ⟨U,by omega⟩) U2 ?_;refine V4 4 U ?_;refine WT (k) (es.length) U6 om_ U2 ?_;refine Wf X.m_ U10 om_ bl fl_ (λb7 bm=>?_);refine V1 bm U8 ?_;refine Wg U5 (λbn=>?_);refine V2 U6 ?_;refine Wa (j:=0) U12 ?_;refine V5 [2,4,6,7,8,12,13,14,95,96] c U ?_;clear c d R;refine G.freeze 0 U (λ_ _ aK=>?_);refine V3 λR c=>?_;refine WR [[ae [49]],[ae [45,49]]] U12 fl_ (λbq _ _ aL=>?_);refine C6 2 [2,4,6,7,8,12,13,14,95,96,110,111,112] c U ?_;clear c R;rw[RT]at aL;refine Wk (L':=[.arr (sR7 s n1 t) 140 2 (rows.length+2*k+0) (aA us (rows.map (cj a)++(rgL (n+a) n (bp B) es k++(rgK (n+a) n (bp B) es k).take 0))).flatten,.arr (sF7 e o p) 32 1 (n+a) ((kH n a).map aM).flatten,.obj y (.cells ⟨[i_ (n+a:Nat),.slice s n1 t,.slice e o p]⟩ 74 (0,0)),.obj v (.cells ⟨[i_ 0,.slice none 0 0,.slice none 0 0]⟩ 74 (0,0))]) (by rw[List.take_zero,SF];rfl) ?_;refine G.loop (λfr I A J=>∃(q:Nat)(s:Option Addr)(n1 t:Nat)(us:List Value),(q<=2/\RowsOk I us (rows.map (cj a)++(rgL (n+a) n (bp B) es k++(rgK (n+a) n (bp B) es k).take q)))/\fr=[(2,[],p_ v),(4,[],p_ y),(6,[],.slice Y es.length Z),(7,[],i_ n),(8,[],i_ (bp B:Nat)),(12,[],i_ k),(13,[],i_ (k / es.length:Nat)),(14,[],p_ bn),(95,[],i_ a),(96,[],i_ k),(110,[],s_ bq 2 2),(111,[],i_ 2),(112,[],i_ q)]/\A=[.arr (sR7 s n1 t) 140 2 (rows.length+2*k+q) (aA us (rows.map (cj a)++(rgL (n+a) n (bp B) es k++(rgK (n+a) n (bp B) es k).take q))).flatten,.arr (sF7 e o p) 32 1 (n+a) ((kH n a).map aM).flatten,.obj y (.cells ⟨[i_ (n+a:Nat),.slice s n1 t,.slice e o p]⟩ 74 (0,0)),.obj v (.cells ⟨[i_ 0,.slice none 0 0,.slice none 0 0]⟩ 74 (0,0))]/\J=2-q) (hn_ [2,4,6,7,8,12,13,14,95,96,110,111,112] U) ⟨0,s,n1,t,us,⟨Sm _,by rw[List.take_zero,SF];exact RowsOk.mono aj mup⟩,U,U,U⟩ (λfr b8 b9 m _ K=>?_);obtain⟨q,s,n1,t,us,⟨ca,O⟩,rfl,rfl,rfl⟩:=K;refine U0 1 [2,4,6,7,8,12,13,14,95,96,110,111,112,113] U ?_;refine G.cd (λao=>?_) λao=>?_
  .have Q:q<2:=by
    have:=RD ao;omega
   refine V3 λR c=>?_;refine Wf aL.m_ U10 om_ (by rw[Sh,GP Q];rfl:(([1, -1]:List Rat).map aM)[q]?=some (aM (qq q))) fl_ (λcb br=>?_);refine V1 br U8 ?_;refine C6 1 [2,4,6,7,8,12,13,14,16,95,96,110,111,112] c U ?_;clear c R;refine Wt [(2,3)] U (λR c=>?_);refine V2 U6 ?_;refine V9 ac U9 ?_;refine D.call (mJ _ (n+a) om_) U (.inr dc_) U6 (Sp _) fl_ (λcf _ cg _ bt=>?_);obtain⟨bz,rfl,rfl⟩:=bt;rw[G9];have bu:(Value.string ⟨#[45,49]⟩)=tq (-1):=by show ae [45,49]=ae (qtx (-1));rw[zX]
   refine C6 1 [2,4,6,7,8,12,13,14,16,17,95,96,110,111,112] c U ?_;clear c R;refine Wn [0,1,2,3,4,5,6,7,8,9,10,11,12,13,14,15,16,17,18,19,20,21,22,23,24,25,26] [(20,1),(5,0),(12,0)] U kr_ (λR d c=>?_);refine V4 3 U ?_;refine V8 (((k / es.length*bp B:Nat):Int)) (SK _ _) U6 ?_;refine Wp (0) U9 k_ U2 ?_;refine WF (λ_=>((bkT aK 1).mono d)) U9 ?_;refine Wx (((k / es.length*bp B+(edg es k).1:Nat):Int)) U4 om_ om_ om_ U2 ?_;refine V4 3 U ?_;refine V8 (((k / es.length*bp B:Nat):Int)) (SK _ _) U6 ?_;refine Wp (1) U9 k_ U2 ?_;refine WF (λ_=>((bkT aK 1).mono d)) U9 ?_;refine Wx (((k / es.length*bp B+(edg es k).2:Nat):Int)) U4 om_ om_ om_ U2 ?_;refine V4 3 U ?_;refine Wx (((n+k:Nat):Int)) U4 om_ om_ om_ U2 ?_;refine V4 2 U ?_;refine Wo (λ_=>(fq _ (qq q) (Su (aV (xq q) dc_) dc_))) U9 ?_;refine Ww ((k / es.length*bp B+(edg es k).1)) U10 (λ_=>⟨by omega,by omega,(T0 _).symm⟩) U2 ?_;refine WA (j:=0) U11 am ?_;rw[ip am];refine Ww ((k / es.length*bp B+(edg es k).2)) U10 (λ_=>⟨by omega,by omega,(T0 _).symm⟩) U2 ?_;refine WA (j:=0) U11 am ?_;rw[ip am];refine Ww ((n+k)) U10 (λ_=>⟨by omega,by omega,(T0 _).symm⟩) U2 ?_;refine WA (j:=0) U11 am ?_;refine V5 [2,4,6,7,8,12,13,14,17,95,96,110,111,112] c U ?_;clear c d R;rw[bu,ip am,<- pS];refine G.freezeArr 0 ((rgF (n+a) n (bp B) es.length k (edg es k) (qq q)).map aM) U2 bK (by rw[au,uL]) (λ_ _ bw=>?_);refine U1 1 U λR c=>?_;refine V9 ac U9 ?_;refine V2 U6 ?_;refine Wm [s_ bz (n+a) (n+a),ae [48]] U8 ?_;refine Wq [[s_ bz (n+a) (n+a),ae [48]]] U12 (λch _ _ bx=>?_);refine WB (j:=0) U11 bx.m_ U ax (by simp only[Sk];omega) fl_ (λap aq ar=>?_);refine V2 U6 ?_;refine Wa (j:=2) U12 ?_;refine V5 [2,4,6,7,8,12,13,14,95,96,110,111,112] c U ?_;clear c R;refine V3 λR c=>?_;refine V8 _ U U6 ?_;refine C6 1 [2,4,6,7,8,12,13,14,95,96,110,111,112] c U ?_;clear c R;have aN:rows.map (cj a)++(rgL (n+a) n (bp B) es k++(rgK (n+a) n (bp B) es k).take (q+1))=(rows.map (cj a)++(rgL (n+a) n (bp B) es k++(rgK (n+a) n (bp B) es k).take q))++[⟨rgF (n+a) n (bp B) es.length k (edg es k) (qq q),0⟩]:=by rw[CN Q];simp only[SX]
   have bA:(aA us (rows.map (cj a)++(rgL (n+a) n (bp B) es k++(rgK (n+a) n (bp B) es k).take q))).flatten++[[s_ bz (n+a) (n+a),ae [48]]].flatten=(aA (us++[s_ bz (n+a) (n+a)]) (rows.map (cj a)++(rgL (n+a) n (bp B) es k++(rgK (n+a) n (bp B) es k).take (q+1)))).flatten:=by
    rw[aN,ck O.1,SI,qtx0]
   refine G.perm (L':=[.arr (sR7 ap aq ar) 140 2 (rows.length+2*k+(q+1)) (aA (us++[s_ bz (n+a) (n+a)]) (rows.map (cj a)++(rgL (n+a) n (bp B) es k++(rgK (n+a) n (bp B) es k).take (q+1)))).flatten,.arr (sF7 e o p) 32 1 (n+a) ((kH n a).map aM).flatten,.obj y (.cells ⟨[i_ (n+a:Nat),.slice ap aq ar,.slice e o p]⟩ 74 (0,0)),.obj v (.cells ⟨[i_ 0,.slice none 0 0,.slice none 0 0]⟩ 74 (0,0))]) (by rw[<- bA];(exact pkL [1,1,0,0] U)) ?_;refine We (m':=2-(q+1)) om_ mup (hn_ [2,4,6,7,8,12,13,14,95,96,110,111,112] U) ⟨q+1,ap,aq,ar,us++[s_ bz (n+a) (n+a)],⟨by omega,by rw[aN];exact eX (RowsOk.m_ O) bw.m_⟩,U,U,U⟩
  have Q:q=2:=by
   have:=Si ao;omega
  subst Q;refine V3 λR c=>?_;refine V8 _ U U6 ?_;refine C6 1 [2,4,6,7,8,95,96] c U ?_;clear c R;rw[show(rgK (n+a) n (bp B) es k).take 2=rgK (n+a) n (bp B) es k from rfl,<- uJ]at O⊢;refine We (m':=a-(k+1)) om_ mup (hn_ [2,4,6,7,8,95,96] U) ⟨k+1,s,n1,t,us,⟨by omega,RowsOk.mono O mup⟩,U,U,U⟩
 obtain rfl:a=k:=by
  have:=Si an;omega
 refine V3 λR c=>?_;refine V9 ac U9 ?_;refine Wa (j:=3) U12 ?_;refine C6 1 [2,3] c U ?_;clear c R;refine G.freezeArr 1 (aA us (rows.map (cj a)++rgL (n+a) n (bp B) es a)) U2 (co _ _) (by rw[bG aj.1,So,au,uK]) (λCf bg ai=>?_);refine G.freezeArr 1 ((kH n a).map aM) U2 bK (by rw[au,lZ]) (λCg ci bB=>?_);refine Wd (Xy ag U U U U U ?_);refine⟨U,es,_,U,W,_,_,_,_,_,_,by rw[H];rfl, ?_, ?_⟩
 .rw[H];exact jW (RowsOk.m_ aj) ai.m_
 rw[H];exact bB
theorem EC {p:Lp.Sys}{D:Mem}(h:SolO p cc D u):∃(kd:Int)(val:Str)(a:Option Addr)(n1 b:Nat)(A2:Option Addr)(n2 c2:Nat)(c:Option Addr)(d e:Nat),u=.agg ⟨[i_ kd,ae val,.slice a n1 b,.slice A2 n2 c2,.slice c d e]⟩ /\
  ((kd=1/\∃v pt du,val=qtx v/\Lp.OptR p cc 20 v pt du/\n1=p.n/\Sl D 1 (.slice a n1 b) (((List.range p.n).map pt).map aM)/\Sl D 1 (.slice A2 n2 c2) (((List.range p.m).map du).map aM))∨(kd≠1/\(¬ p.Hold∨∃pt ra,Lp.UnbR p cc 20 pt ra))):=by
 cases h with
|opt v pt du f g i h1 h2 =>
  obtain⟨a,b,rfl,_⟩:=id h1;obtain⟨A2,c2,rfl,_⟩:=id h2;exact⟨_,_,_,_,_,_,_,_,_,_,_,U,.inl ⟨U,v,pt,du,U,i,by simp,h1,h2⟩⟩
|inf du g j h1 =>
  obtain⟨A2,c2,rfl,_⟩:=id h1;exact⟨_,_,_,_,_,_,_,_,_,_,_,U,.inr ⟨by decide,.inl j.not⟩⟩
|unb pt ra f l k h1 h2 =>
  obtain⟨a,b,rfl,_⟩:=id h1;obtain⟨A2,c2,rfl,_⟩:=id h2;exact⟨_,_,_,_,_,_,_,_,_,_,_,U,.inr ⟨by decide,.inr ⟨pt,ra,k⟩⟩⟩
abbrev F0 (B:Bk)(RO:Nat->List RowQ)(es:List (Nat × Nat)):Lp.Sys:=bN (bs B*bp B+bs B*es.length) (dD (sj (cU B RO) (bs B*bp B) (bp B) es (bs B*es.length)))
abbrev PX (B:Bk)(es:List (Nat × Nat))(j:Nat):Rat:=(kH (bs B*bp B) (bs B*es.length)).getD j 0
inductive FlatO (B:Bk) (RO:Nat->List RowQ) (es:List (Nat × Nat)) (D:Mem):Value->Prop where
|opt (v:Rat) (pt du:Nat->Rat) (fv dv:Value):Lp.OptR (F0 B RO es) (PX B es) 20 v pt du->FieldsIn D fv (fh (bs B) (bp B) pt)->Sl D 1 dv (((List.range (F0 B RO es).m).map du).map aM)->FlatO B RO es D (.tuple #[.agg ⟨[fv,ae (qtx v),dv]⟩,.int .i64 0])
|inf:¬ (F0 B RO es).Hold->FlatO B RO es D (.tuple #[.agg ⟨[.slice none 0 0,ae [],.slice none 0 0]⟩,.int .i64 22])
theorem Calm.rl {B:Bk}{a:List Rat}(h:Calm B a RO):∀r∈cU B RO,r.f.length=bs B*bp B:=λr hr=>(h.rowsQ (cH B.obs.length)).l (r.f,r.b) (Sn.2 ⟨r,hr,rfl⟩)
theorem MO (h:∀r∈rows,r.f.length=s*p):∀r∈sj rows (s*p) p es (s*es.length),r.f.length=s*p+s*es.length:=by
 intro r hr;rcases Sx.1 hr with hr|hr
 .obtain⟨x,a,rfl⟩:=Sn.1 hr;show(x.f++List.replicate _ 0).length=_;rw[So,SG,h x a]
 obtain⟨k,_,hr⟩:=List.mem_flatMap.1 hr;rcases Sw.1 hr with rfl|hr
 .exact uL _ _ _ _ _ _ _
 rw[SD.1 hr];exact uL _ _ _ _ _ _ _
theorem lY (h:∀r∈rows,RowI r):∀r∈dD rows,(∀x∈r.1,QB 22 x)/\QB 22 r.2 :=
 lX (P:=λr=>(∀x∈r.1,QB 22 x)/\QB 22 r.2) λr hr=>⟨λx a=>((h r hr).q.1 x a).le dc_,(h r hr).q.2.le dc_⟩
theorem ML (h:∀r∈rows,RowI r)(a:∀r∈rows,r.f.length=n)(b:rows.length<=150):RowsQ n (dD rows) :=
 ⟨lX (P:=λr=>r.1.length=n) a,λr hr=>⟨λx c=>((lY h r hr).1 x c).le dc_,(lY h r hr).2.le dc_⟩,by rw[dD,au];exact b⟩
theorem zV (h b:Nat):∀x∈kH h b,QB 22 x:=λx a=>by
 rcases Sx.1 a with a|a
 .rw[(List.mem_replicate.1 a).2];exact QB_zero.le dc_
 rw[(List.mem_replicate.1 a).2];decide +kernel
theorem EQ (h:n<=m):(((List.range m).map pt).map qtx).take n=((List.range n).map pt).map qtx:=by
 rw[<- Us,<- Us,List.take_range,Tj h]
theorem Dy (C:Mem)(e:Tabs C)(f:Value)(B:Bk)(y:List Rat)(b:Nat->List RowQ)(c:BookIn C f B)(h:Calm B y b)(z:bp B<=6)(A:bs B<=2)(W:∀es,EdgL B.tris es->bs B*bp B+bs B*es.length<=12) :
  Pur cx.P 42 [f] C λu D=>∃es,EdgL B.tris es/\FlatO B b es D u:=by
 have E:=c;have F:=h.rich.good;have H:=h.rich.bookz e c;have X:=h.cnt (cH B.obs.length);have az:=h.n12;have Y:∀D:Mem,C.le D->Gives cx.P 92 [f] D (.tuple #[i_ (bs B*bp B:Nat),i_ 0]):=λD Z=>by
  have h:=Bd D f B 0 (H.mono Z) om_;rw[aK rfl]at h;exact h
 obtain⟨v1,v2,tv,cv,ov,rfl,h1,h2,h3,h4,h5⟩:=id c.ex;have aA:=mx_
 refine V7 func42 59 U3 λw0=>V3 λR a=>Wi U6 λb1=>Wg U5 λb2=>C6 1 [1,2] a U<|G.freeze 1 U λ_ _ o=>V3 λR a=>V1 (bkT o 5) U8<|Wz (CK _ e.m_ _ B y b E.m_ h z A) U7 (λaB _ _ aa=>?_);obtain⟨es,x,rfl,d,A1,n1,c1,A2,n2,c2,rfl,ab,ac⟩:=aa;have ad:=W es d;have af:=MO (es:=es) h.rl;have I:=Oc (s:=bs B) (p:=bp B) (es:=es) (h.rowI (cH B.obs.length));obtain⟨ah,_⟩:=d.le F.ok.ins z;have aC:bs B*es.length<=30:=TA A ah;have ai:(sj (cU B b) (bs B*bp B) (bp B) es (bs B*es.length)).length<=150:=by
  rw[CM];have:(cU B b).length<=120:=X;omega
 have aj:=d.ok (n:=bp B) F.ok.ins (bs B);refine V4 3 U<|Wg U5 λb4=>Wa (j:=0) U12<|C6 1 [1,2,4,5] a U<|U0 2 [1,2,4,5,15] U<|G.cd (λJ=>?_) λJ=>?_
 .exact absurd J dc_
 refine G.freeze 0 U λ_ _ ak=>V3 λR a=>V1 (bkT ak 3) U8<|Ws (Hs _ e.m_ (bs B*bp B+bs B*es.length) _ _ (dD (sj (cU B b) (bs B*bp B) (bp B) es (bs B*es.length))) (kH (bs B*bp B) (bs B*es.length)) ab.m_ ac.m_ (ML I af ai) (zV _ _) (lY I) om_ (lZ _ _) (Oa ad (h.rowI (cH B.obs.length)))) U7 fl_ (λaD _ _ an=>?_);obtain⟨rr,rfl,ao⟩:=an;obtain⟨kd,val,Ap,K,g,L,nd,cd,Ar,nr,cr,rfl,M⟩:=EC ao;refine V4 3 U<|Wg U5 λb6=>Wa (j:=0) U12<|C6 1 [1,2,5,6] a U<|G.freeze 0 U λ_ _ i=>U0 2 [1,2,5,6,24] U<|G.cd (λN=>?_) λN=>?_
 .exact absurd N dc_
 refine U1 1 U λR a=>V1 (bkT i 1) U8<|C6 1 [1,2,6,29] a U<|G.cd (λq=>?_) λq=>?_
 .have r:kd≠1:=by simpa using q
  have ap:¬ (F0 B b es).Hold:=by
   rcases M with⟨h,_⟩|⟨_,h|⟨pt,ra,hu⟩⟩
   .exact absurd h r
   .exact h
   exact(N8 aj h.rl hu).elim
  refine V3 λR a=>Wm ([.slice none 0 0,ae [],.slice none 0 0]) U8<|Wa (j:=0) U12<|C6 1 [2,3] a U<|Wd (Xy ag U U U U U ?_);exact⟨U,es,d,.inf ap⟩
 have r:kd=1:=by simpa using q
 obtain⟨v,pt,du,rfl,t,rfl,w,aq⟩:∃v pt du,val=qtx v/\Lp.OptR (F0 B b es) (PX B es) 20 v pt du/\K=bs B*bp B+bs B*es.length/\Sl _ 1 (.slice Ap K g) (((List.range (bs B*bp B+bs B*es.length)).map pt).map aM)/\Sl _ 1 (.slice L nd cd) (((List.range (F0 B b es).m).map du).map aM):=by
  rcases M with⟨_,h⟩|⟨h,_⟩
  .exact h
  exact absurd r h
 have O:=yF (s:=bs B) (p:=bp B) t.qp;have ar:bs B*bp B<=bs B*bp B+bs B*es.length:=Nat.le_add_right _ _;rw[AX]at w;have aE:bs B*bp B+bs B*es.length<=g:=by
  obtain⟨A',c',Q,av,_⟩:=id w;simp only[Value.slice.injEq]at Q;obtain⟨_,aF,aG⟩:=Q;simp only[au,Tn]at av;omega
 have S:=w.sub (l:=0) (h:=bs B*bp B) (m:=g) (Sm _) al om_ (Sg _);rw[Tt,<- Us,EQ ar]at S;refine V3 λR a=>V1 (bkT o 5) U8<|Wb (Y _ mup) U7<|C6 5 [1,2,5,6,7] a U<|U0 2 [1,2,5,6,7,37] U<|G.cd (λT=>?_) λT=>?_
 .exact absurd T dc_
 refine Wn [0,1,2,3,4,5,6,7,8,9,10] [] U kr_ λR c a=>V1 (bkT o 5) U8<|V2 U6<|V1 (bkT i 1) U8<|V2 U6<|WN 0 (bs B*bp B) g U12 (λ_=>⟨.inl ⟨U,U⟩,.inr ⟨_,U⟩,.inl ⟨U,U⟩,by omega,by omega,Sg _⟩) U2<|Ws (yJ _ e.m_ _ _ B (((List.range (bs B*bp B)).map pt).map qtx) E.m_ H.m_ om_ S.m_ (xZ t.qp) am) U7 fl_ (λaH _ _ aw=>?_);obtain⟨fv,rfl,k⟩:=aw;rw[O,aK rfl]at k;rw[O];obtain⟨ax,aI,aJ,ay⟩:=id k;obtain⟨Af,cf,rfl,_⟩:=id ay;rw[au]at k⊢;refine V4 5 U<|V5 [2,5,6,8] a U<|U0 2 [2,5,6,8,50] U<|G.cd (λV=>?_) λV=>?_
 .exact absurd V dc_
 refine U1 2 U λR a=>V1 (bkT i 1) U8<|V2 U6<|V1 (bkT i 1) U8<|Wm [.slice Af ax.length cf,ae (qtx v),.slice L nd cd] U8<|Wa (j:=0) U12<|C6 1 [2,3] a U<|Wd (Xy ag U U U U U ?_);exact⟨U,es,d,.opt v pt du _ _ t k.m_ aq.m_⟩
end Go.Proofs.YtfjcldheldflbaaGreatDoor
