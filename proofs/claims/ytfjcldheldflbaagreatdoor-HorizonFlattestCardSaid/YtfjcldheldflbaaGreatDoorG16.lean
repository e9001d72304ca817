import Derived.Test.YtfjcldheldflbaaGreatDoorG15
set_option maxHeartbeats 4000000
namespace Go.Proofs.YtfjcldheldflbaaGreatDoor
open Go.Proofs.Tryz
open Go Go.Jog
set_option maxRecDepth 100000
variable {S:Sht}{du:Nat->Rat}{es:List (Nat × Nat)}{j k:Nat}{l:List Sgt}{m n:Nat}{o:Obs}{pt:Nat->Rat}{q:Rat}{rs:List (List Rat × Rat)}{v:Rat}
theorem Nt (h:q.num<0):abR q=-q:=aK ((qS q).1 h)
theorem Nu (h:¬ q.num<0):abR q=q:=aF λh2=>h ((qS q).2 h2)
theorem Oo (C:Mem)(q:Rat)(f:(qtx q).length<=1000000):Gives cx.P 163 [ae (qtx q)] C (ae (qtx (abR q))):=by
 have g:=tj q;obtain⟨c,r,e,d⟩:=kb q;refine V7 func163 9 U3 λw0=>U0 1 [0] U<|U1 1 U λR b=>WE U8 (λ_=>⟨by omega,by rw[e];rfl⟩) U2<|C6 1 [0,5] b U<|G.cd (λh5=>?_) λh5=>?_
 .have a:q.num<0:=by rw[d]at h5;exact RD h5
  refine U1 1 U λR b=>WQ 1 (qtx q).length U9 (λ_=>⟨.inr ⟨_,U⟩,.inl ⟨U,U⟩,.inl ⟨U,U⟩,by omega,Sg _,Sg _⟩) U2<|C6 1 [2] b U<|V6 U2<|⟨?_,U⟩;rw[Ss,Nt a,gH a];rfl
 have a:¬ q.num<0:=by rw[d]at h5;exact Si h5
 refine U0 2 [2] U<|V6 U2<|⟨?_,U⟩;rw[Nu a]
theorem PH (C:Mem)(q:Rat)(c:(qtx q).length<=1000000):Gives cx.P 100 [ae (qtx q)] C (ae (qtx (abR q))):=by
 have d:decide (er q.num<0)=decide (q.num<0):=by
  unfold er;split
  .rename_i h;rw[SB h];rfl
  rename_i h;rw[SM h];split <;> rfl
 refine V7 func100 9 U3 λw0=>U0 1 [0] U<|U1 1 U λR a=>Wb (CC _ q c) U7<|C6 1 [0,5] a U<|G.cd (λh5=>?_) λh5=>?_
 .have b:q.num<0:=by
   have h:decide (er q.num<0)=true:=h5;rw[d]at h;exact RD h
  exact U1 1 U λR a=>Wb (Aj _ q c) U7<|C6 1 [2] a U<|V6 U2<|⟨by rw[Nt b],U⟩
 have b:¬ q.num<0:=by
  have h:decide (er q.num<0)=false:=h5;rw[d]at h;exact Si h
 exact U0 2 [2] U<|V6 U2<|⟨by rw[Nu b],U⟩
def IZ (es:List (Nat × Nat))(f:List Rat)(i:Nat):Rat:=f.getD (es.getD i (0,0)).1 0-f.getD (es.getD i (0,0)).2 0
def rfP (es:List (Nat × Nat))(f:List Rat):Nat->Rat
|0=>0
|i+1=>rfP es f i+abR (IZ es f i)
def rfA (es:List (Nat × Nat))(fl:List (List Rat)):Nat->Rat
|0=>0
|j+1=>rfA es fl j+rfP es (fl.getD j []) es.length
structure RufQ (es:List (Nat × Nat))(fl:List (List Rat)):Prop where
 e:∀f∈fl,∀x∈f,QB 22 x
 d:∀j i,j<fl.length->i<es.length->QB 22 (IZ es (fl.getD j []) i)
 s:∀j i,j<fl.length->i<=es.length->QB 22 (rfA es fl j+rfP es (fl.getD j []) i)
theorem Ns (h:QB k q):QB k (abR q):=by
 unfold abR;split
 .exact eO h
 exact h
theorem Ip (C:Mem)(o:Tabs C)(H I J:Value)(l:List Pt)(n:List Tri)(b:List (List Rat))(hm:MeshIn C (.agg ⟨[H,I]⟩) l n)(K:Good l n)(L:FieldsIn C J (txs b))(aa:∀f∈b,f.length=l.length)(hn:b.length<=1000)(a:List (Nat × Nat))(M:EdgL n a)(p:RufQ a b) :
  Gives cx.P 104 [.agg ⟨[H,I]⟩,J] C (.tuple #[ae (qtx (rfA a b b.length)),i_ 0]):=by
 have hM:=K.ok;obtain⟨vs,ab,ac,q⟩:=id L;obtain⟨N,O,rfl,ad,_⟩:=id q;have af:(txs b).length=b.length:=by simp[txs]
 have ag:vs.length=b.length:=by rw[ab,af]
 simp only[au,ag]at q ad L⊢;have aA:=mx_
 refine V7 func104 48 U3 λw0=>V3 λR c=>Wi U6 λb2=>C6 2 [1,2] c U<|G.freeze 0 U λ_ _ ai=>V3 λR c=>V1 (bkT ai 2) U8<|Wz (pj _ o.m_ _ l n hm.m_ K) U7 (λaB _ _ aj=>?_);obtain⟨aC,ev,rfl,al,r⟩:=aj;obtain rfl:=M.same al;obtain⟨t,u,rfl,am,_⟩:=id r;simp only[au]at r am⊢;have an:=M.ok hM.ins 1;refine C6 5 [1,6,7] c U<|U0 1 [1,6,7,8] U<|U0 3 [6,7,8,18,19,20] U ?_;rw[<- qtx0];refine G.loop (λfr C' v x=>∃(j:Nat),(j<=b.length)/\fr=[(6,[],.slice t a.length u),(7,[],i_ 0),(8,[],ae (qtx (rfA a b j))),(18,[],.slice N b.length O),(19,[],i_ (b.length:Nat)),(20,[],i_ j)]/\v=[]/\x=b.length-j) (hn_ [6,7,8,18,19,20] U) ⟨0,Sm _,U,U,U⟩ (λfr aD aE m _ y=>?_);obtain⟨j,hj,rfl,rfl,rfl⟩:=y;refine U0 1 [6,7,8,18,19,20,21] U<|G.cd (λz=>?_) λz=>?_
 .have g:j<b.length:=by
   have:=RD z;omega
  obtain⟨f,A⟩:∃f,b[j]?=some f:=⟨b[j]'g,ah g⟩;obtain⟨w,Q⟩:∃w,vs[j]?=some w:=⟨vs[j]'om_,ah om_⟩;have S:=aJ A;have T:b.getD j []=f:=by rw[ak,A];rfl
  have B:=ac j w (f.map qtx) Q (by unfold txs;rw[Sh,A];rfl);obtain⟨Aw,cw,rfl,aF,_⟩:=id B;have V:=p.s j;have W:=p.d j;rw[T]at V W;refine V3 λR c=>Wf q.m_ U10 om_ (by rw[Sh,Q];rfl:(vs.map λw=>[w])[j]?=some [_]) fl_ λaG ao=>V1 ao U8<|C6 1 [6,7,8,10,18,19,20] c U<|U0 3 [6,7,8,10,18,19,20,24,25,26] U ?_;rw[show rfA a b j=rfA a b j+rfP a f 0 from(Rat.add_zero _).symm];refine G.loop (λfr C' v x=>∃(i:Nat),(i<=a.length)/\fr=[(6,[],.slice t a.length u),(7,[],i_ 0),(8,[],ae (qtx (rfA a b j+rfP a f i))),(10,[],.slice Aw ((f.map qtx).map dC).length cw),(18,[],.slice N b.length O),(19,[],i_ (b.length:Nat)),(20,[],i_ j),(24,[],.slice t a.length u),(25,[],i_ (a.length:Nat)),(26,[],i_ i)]/\v=[]/\x=a.length-i) (hn_ [6,7,8,10,18,19,20,24,25,26] U) ⟨0,Sm _,U,U,U⟩ (λfr aH aI m _ y=>?_);obtain⟨i,hi,rfl,rfl,rfl⟩:=y;refine U0 1 [6,7,8,10,18,19,20,24,25,26,27] U<|G.cd (λD=>?_) λD=>?_
  .have h:i<a.length:=by
    have:=RD D;omega
   obtain⟨e,E⟩:∃e,a[i]?=some e:=⟨a[i]'h,ah h⟩;have ap:a.getD i (0,0)=e:=by rw[ak,E];rfl
   obtain⟨aq,ar⟩:e.1<f.length/\e.2<f.length:=by
    have:=an.lt e (aJ E);rw[aa f S];omega
   have av:(f.map qtx)[e.1]?=some (qtx (f.getD e.1 0)):=by rw[Sh,ak,ah aq];rfl
   have aw:(f.map qtx)[e.2]?=some (qtx (f.getD e.2 0)):=by rw[Sh,ak,ah ar];rfl
   have X:IZ a f i=f.getD e.1 0-f.getD e.2 0:=by unfold IZ;rw[ap]
   have Y:∀k,QB 22 (f.getD k 0):=λk=>iJ (P:=QB 22) (p.e f S) (QB_zero.le dc_);have F:=W i g h;rw[X]at F;refine V3 λR c=>Wf r.m_ U10 om_ (by rw[Sh,E];rfl:(a.map rF)[i]?=some (rF e)) fl_ λaK ax=>V1 ax U8<|Wg U5 λaL=>Wa (j:=0) U12<|V5 [6,7,8,10,12,18,19,20,24,25,26] c U<|G.freeze 0 U λ_ _ Z=>Wn [0,1,2,3,4,5,6,7,8,9,10,11,12,13,14] [(11,1),(12,1),(13,1)] U kr_ λR hB c=>V4 2 U<|Wp (0) U9 k_ U2<|V1 (bkT Z 1) U8<|Wf B.m_ U10 om_ (by rw[Sh,av];rfl:((f.map qtx).map dC)[e.1]?=some (dC (qtx (f.getD e.1 0)))) fl_ λaM ay=>V1 ay U8<|V2 U6<|Wp (1) U9 k_ U2<|V1 (bkT Z 1) U8<|Wf B.m_ U10 om_ (by rw[Sh,aw];rfl:((f.map qtx).map dC)[e.2]?=some (dC (qtx (f.getD e.2 0)))) fl_ λaN az=>V1 az U8<|Wo (λ_=>(dY _ o.m_ (f.getD e.1 0) (f.getD e.2 0) 22 dc_ dc_ (Y _) (Y _))) U9<|Wo (λ_=>(Oo _ (f.getD e.1 0-f.getD e.2 0) (Su (aV F dc_) dc_))) U9<|Wo (λ_=>(fQ _ o.m_ (rfA a b j+rfP a f i) (abR (f.getD e.1 0-f.getD e.2 0)) 22 dc_ dc_ (V i g om_) (Ns F))) U9<|C6 1 [6,7,8,10,18,19,20,24,25,26] c U<|V3 λR c=>V8 _ U U6<|C6 1 [6,7,8,10,18,19,20,24,25,26] c U ?_;rw[show rfA a b j+rfP a f i+abR (f.getD e.1 0-f.getD e.2 0)=rfA a b j+rfP a f (i+1) by rw[rfP,X,Rat.add_assoc]];refine We (m':=a.length-(i+1)) om_ mup (hn_ [6,7,8,10,18,19,20,24,25,26] U) ⟨i+1,by omega,U,U,U⟩
  have h:i=a.length:=by
   have:=Si D;omega
  subst h;refine V3 λR c=>V8 _ U U6<|C6 1 [6,7,8,18,19,20] c U ?_;rw[show rfA a b j+rfP a f a.length=rfA a b (j+1) by rw[rfA,T]];refine We (m':=b.length-(j+1)) om_ mup (hn_ [6,7,8,18,19,20] U) ⟨j+1,by omega,U,U,U⟩
 have g:j=b.length:=by
  have:=Si z;omega
 subst g;refine U0 4 [4,5] U<|Wd (G.dropAll (Wu U3 ?_));exact⟨U,U⟩
theorem Gu (p:Nat)(a:Nat->Rat):zJ 1 p a=[(List.range p).map a]:=by
 unfold zJ;simp only[List.range_one,S1,T3,Nat.zero_mul,Tt,Tw,Uv];rw[SL al]
theorem Gw (p:Nat)(a:Nat->Rat):fh 1 p a=txs [(List.range p).map a]:=by
 rw[<- zI,Gu];rfl
theorem G8 (a:List (Nat × Nat))(f:List Rat):∀i,rfP a f i=Lp.sumN (λk=>abR (IZ a f k)) i
|0=>rfl
|i+1=>by rw[rfP,G8 a f i];rfl
theorem Og (a:List (Nat × Nat))(f:List Rat):rfA a [f] 1=rfP a f a.length:=by
 show 0+rfP a f a.length=_;rw[Rat.zero_add]
theorem KC {p:Nat}(h:EdgeOk 1 p es):QA p es pt (1*es.length)=rfA es [(List.range p).map pt] 1:=by
 rw[Og,G8,Uv];unfold QA;refine Lp.sumN_congr λk b=>?_;have c:edg es k=es.getD k (0,0):=by unfold edg;rw[UO b]
 have hm:es.getD k (0,0)∈es:=by rw[ak,ah b];exact Td b
 obtain⟨h1,h2⟩:=h.lt _ hm;have g:∀a,a<p->((List.range p).map pt).getD a 0=pt a:=λa d=>by
  rw[ak,Sh,SU d];rfl
 unfold Fu IZ;rw[c,Uo b,Nat.zero_mul,Tw,Tw,g _ om_,g _ h2]
def CmL (k:Nat)(f:List Rat):Prop:=∃d:Int,d≠0/\d.natAbs<B9 ^ k/\∀x∈f,∃z:Int,x*(d:Rat)=z/\z.natAbs<B9 ^ k
theorem PJ {d z:Int}(h:q*(d:Rat)=z):∃y:Int,abR q*(d:Rat)=y/\y.natAbs=z.natAbs:=by
 unfold abR;split
 .exact⟨-z,by rw[Rat.intCast_neg,<- h];grind,by omega⟩
 exact⟨z,h,U⟩
theorem N3 {f:List Rat}(h:CmL 21 f)(s:es.length<=15):RufQ es [f]:=by
 obtain⟨d,t,db,k⟩:=h;have c:∀{q:Rat}{z:Int},q*(d:Rat)=z->z.natAbs<=100*B9 ^ 21->QB 22 q:=fun {q z} e u=>Lp.Quo.qb (K:=100*B9 ^ 21) ⟨z,d,t,e,u,Su (VT db) (Nat.le_mul_of_pos_left _ dc_)⟩ ap;have o:0<B9 ^ 21:=by decide +kernel
 generalize B9 ^ 21=M at db k c o;have p:∀a,∃z:Int,f.getD a 0*(d:Rat)=z/\z.natAbs<M:=λa=>iJ (P:=λx=>∃z:Int,x*(d:Rat)=z/\z.natAbs<M) k ⟨0,by rw[Rat.zero_mul];rfl,by simpa using o⟩;have hd:∀i,∃z:Int,IZ es f i*(d:Rat)=z/\z.natAbs<=2*M:=λi=>by
  obtain⟨v,A,G⟩:=p (es.getD i (0,0)).1;obtain⟨B,l,H⟩:=p (es.getD i (0,0)).2;refine⟨v-B, ?_,by omega⟩;unfold IZ;rw[UD,<- A,<- l];grind
 have hs:∀i,∃z:Int,rfP es f i*(d:Rat)=z/\z.natAbs<=i*(2*M):=by
  intro i;induction i with
 |zero=>exact⟨0,by show(0:Rat)*_=_;rw[Rat.zero_mul];rfl,Sm _⟩
 |succ i C =>
   obtain⟨z,e,b⟩:=C;obtain⟨y,ey,I⟩:=hd i;obtain⟨w,D,J⟩:=PJ ey;refine⟨z+w, ?_, ?_⟩
   .show(rfP es f i+abR (IZ es f i))*_=_;rw[VP,<- e,<- D];grind
   rw[Nat.succ_mul];omega
 refine⟨λg E x r=>?_,λj i m _=>?_,λj i m F=>?_⟩
 .rw[SD.1 E]at r;obtain⟨z,e,b⟩:=k x r;exact c e om_
 .have n:j=0:=by simpa using m
  subst n;obtain⟨z,e,b⟩:=hd i;exact c e om_
 have n:j=0:=by simpa using m
 subst n;obtain⟨z,e,b⟩:=hs i;have l:rfA es [f] 0+rfP es (([f]:List (List Rat)).getD 0 []) i=rfP es f i:=by show 0+rfP es f i=_;rw[Rat.zero_add]
 rw[l];have:=SY (2*M) (Su F s);exact c e om_
theorem Rh (h:Lp.CmD n k pt)(f:m<=n):CmL k ((List.range m).map pt):=by
 obtain⟨d,a,db,b⟩:=h;refine⟨d,a,db,λx c=>?_⟩;obtain⟨j,e,rfl⟩:=Sn.1 c;exact b j (by have:=SE.1 e;omega)
theorem Ri (h:Lp.CmD n 20 pt)(f:m<=n):Lp.CmD m 21 pt:=by
 obtain⟨d,a,db,c⟩:=h;have g:B9 ^ 20<=B9 ^ 21:=by decide +kernel
 refine⟨d,a,by omega,λj i=>?_⟩;obtain⟨z,e,b⟩:=c j om_;exact⟨z,e,by omega⟩
abbrev rsR (B:Bk)(RO:Nat->List RowQ)(es:List (Nat × Nat)):List (List Rat × Rat):=dD (sj (cU B RO) (bs B*bp B) (bp B) es (bs B*es.length))
abbrev obR (B:Bk)(es:List (Nat × Nat)):List Rat:=kH (bs B*bp B) (bs B*es.length)
abbrev nR (B:Bk)(es:List (Nat × Nat)):Nat:=bs B*bp B+bs B*es.length
noncomputable def J0 (B:Bk)(RO:Nat->List RowQ)(es:List (Nat × Nat))(ls:List (List Str))(pt:Nat->Rat)(tot:Str)(d:List Str)(ds:List Rat):Int :=
 if oQ (bs B) (bp B) ls≠0 then oQ (bs B) (bp B) ls else if aS tot=false then 2 else if atB (nC B RO) pt=false then 23 else
 if zB (nR B es) (rsR B RO es) d ds (obR B es)≠0 then zB (nR B es) (rsR B RO es) d ds (obR B es) else
 if JR (nR B es) (rsR B RO es) d ds (obR B es)=tot/\qtx (rfA es [(List.range (bp B)).map pt] 1)=tot then 0 else 23
def PL (B:Bk)(ls:List (List Str))(pt:Nat->Rat):Prop:=oQ (bs B) (bp B) ls=0->ls=fh (bs B) (bp B) pt/\Lp.CmD (bs B*bp B) 21 pt/\∀j,QB 22 (pt j)
theorem E5 (C:Mem)(o:Tabs C)(H I w3 w4 w5 J:Value)(l:List Pt)(n:List Tri)(b:List (List Rat))(hm:MeshIn C (.agg ⟨[H,I]⟩) l n)(K:Good l n)(L:FieldsIn C J (txs b))(aa:∀f∈b,f.length=l.length)(hn:b.length<=1000)(a:List (Nat × Nat))(M:EdgL n a)(p:RufQ a b) :
  Gives cx.P 44 [.agg ⟨[H,I,w3,w4,w5]⟩,J] C (ae (qtx (rfA a b b.length))):=by
 have hM:=K.ok;obtain⟨vs,ab,ac,q⟩:=id L;obtain⟨N,O,rfl,ad,_⟩:=id q;have af:(txs b).length=b.length:=by simp[txs]
 have ag:vs.length=b.length:=by rw[ab,af]
 simp only[au,ag]at q ad L⊢;have aA:=mx_
 refine V7 func44 47 U3 λw0=>V3 λR c=>Wi U6 λb2=>C6 1 [1,2] c U<|G.freeze 0 U λ_ _ ai=>U1 1 U λR c=>V1 (bkT ai 2) U8<|Wz (pj _ o.m_ _ l n hm.m_ K) U7 (λaB _ _ aj=>?_);obtain⟨aC,ev,rfl,al,r⟩:=aj;obtain rfl:=M.same al;obtain⟨t,u,rfl,am,_⟩:=id r;simp only[au]at r am⊢;have an:=M.ok hM.ins 1;refine C6 5 [1,5] c U<|U0 1 [1,5,7] U<|U0 3 [5,7,18,19,20] U ?_;rw[<- qtx0];refine G.loop (λfr C' v x=>∃(j:Nat),(j<=b.length)/\fr=[(5,[],.slice t a.length u),(7,[],ae (qtx (rfA a b j))),(18,[],.slice N b.length O),(19,[],i_ (b.length:Nat)),(20,[],i_ j)]/\v=[]/\x=b.length-j) (hn_ [5,7,18,19,20] U) ⟨0,Sm _,U,U,U⟩ (λfr aD aE m _ y=>?_);obtain⟨j,hj,rfl,rfl,rfl⟩:=y;refine U0 1 [5,7,18,19,20,21] U<|G.cd (λz=>?_) λz=>?_
 .have g:j<b.length:=by
   have:=RD z;omega
  obtain⟨f,A⟩:∃f,b[j]?=some f:=⟨b[j]'g,ah g⟩;obtain⟨w,Q⟩:∃w,vs[j]?=some w:=⟨vs[j]'om_,ah om_⟩;have S:=aJ A;have T:b.getD j []=f:=by rw[ak,A];rfl
  have B:=ac j w (f.map qtx) Q (by unfold txs;rw[Sh,A];rfl);obtain⟨Aw,cw,rfl,aF,_⟩:=id B;have V:=p.s j;have W:=p.d j;rw[T]at V W;refine V3 λR c=>Wf q.m_ U10 om_ (by rw[Sh,Q];rfl:(vs.map λw=>[w])[j]?=some [_]) fl_ λaG ao=>V1 ao U8<|C6 1 [5,7,9,18,19,20] c U<|U0 3 [5,7,9,18,19,20,24,25,26] U ?_;rw[show rfA a b j=rfA a b j+rfP a f 0 from(Rat.add_zero _).symm];refine G.loop (λfr C' v x=>∃(i:Nat),(i<=a.length)/\fr=[(5,[],.slice t a.length u),(7,[],ae (qtx (rfA a b j+rfP a f i))),(9,[],.slice Aw ((f.map qtx).map dC).length cw),(18,[],.slice N b.length O),(19,[],i_ (b.length:Nat)),(20,[],i_ j),(24,[],.slice t a.length u),(25,[],i_ (a.length:Nat)),(26,[],i_ i)]/\v=[]/\x=a.length-i) (hn_ [5,7,9,18,19,20,24,25,26] U) ⟨0,Sm _,U,U,U⟩ (λfr aH aI m _ y=>?_);obtain⟨i,hi,rfl,rfl,rfl⟩:=y;refine U0 1 [5,7,9,18,19,20,24,25,26,27] U<|G.cd (λD=>?_) λD=>?_
  .have h:i<a.length:=by
    have:=RD D;omega
   obtain⟨e,E⟩:∃e,a[i]?=some e:=⟨a[i]'h,ah h⟩;have ap:a.getD i (0,0)=e:=by rw[ak,E];rfl
   obtain⟨aq,ar⟩:e.1<f.length/\e.2<f.length:=by
    have:=an.lt e (aJ E);rw[aa f S];omega
   have av:(f.map qtx)[e.1]?=some (qtx (f.getD e.1 0)):=by rw[Sh,ak,ah aq];rfl
   have aw:(f.map qtx)[e.2]?=some (qtx (f.getD e.2 0)):=by rw[Sh,ak,ah ar];rfl
   have X:IZ a f i=f.getD e.1 0-f.getD e.2 0:=by unfold IZ;rw[ap]
   have Y:∀k,QB 22 (f.getD k 0):=λk=>iJ (P:=QB 22) (p.e f S) (QB_zero.le dc_);have F:=W i g h;rw[X]at F;refine V3 λR c=>Wf r.m_ U10 om_ (by rw[Sh,E];rfl:(a.map rF)[i]?=some (rF e)) fl_ λaK ax=>V1 ax U8<|Wg U5 λaL=>Wa (j:=0) U12<|V5 [5,7,9,11,18,19,20,24,25,26] c U<|G.freeze 0 U λ_ _ Z=>Wn [0,1,2,3,4,5,6,7,8,9,10,11,12,13,14] [(11,1),(12,1),(13,1)] U kr_ λR hB c=>V4 2 U<|Wp (0) U9 k_ U2<|V1 (bkT Z 1) U8<|Wf B.m_ U10 om_ (by rw[Sh,av];rfl:((f.map qtx).map dC)[e.1]?=some (dC (qtx (f.getD e.1 0)))) fl_ λaM ay=>V1 ay U8<|V2 U6<|Wp (1) U9 k_ U2<|V1 (bkT Z 1) U8<|Wf B.m_ U10 om_ (by rw[Sh,aw];rfl:((f.map qtx).map dC)[e.2]?=some (dC (qtx (f.getD e.2 0)))) fl_ λaN az=>V1 az U8<|Wo (λ_=>(CI _ o.m_ (f.getD e.1 0) (f.getD e.2 0) 22 dc_ dc_ (Y _) (Y _))) U9<|Wo (λ_=>(PH _ (f.getD e.1 0-f.getD e.2 0) (Su (aV F dc_) dc_))) U9<|Wo (λ_=>(uO _ o.m_ (rfA a b j+rfP a f i) (abR (f.getD e.1 0-f.getD e.2 0)) 22 dc_ dc_ (V i g om_) (Ns F))) U9<|C6 1 [5,7,9,18,19,20,24,25,26] c U<|V3 λR c=>V8 _ U U6<|C6 1 [5,7,9,18,19,20,24,25,26] c U ?_;rw[show rfA a b j+rfP a f i+abR (f.getD e.1 0-f.getD e.2 0)=rfA a b j+rfP a f (i+1) by rw[rfP,X,Rat.add_assoc]];refine We (m':=a.length-(i+1)) om_ mup (hn_ [5,7,9,18,19,20,24,25,26] U) ⟨i+1,by omega,U,U,U⟩
  have h:i=a.length:=by
   have:=Si D;omega
  subst h;refine V3 λR c=>V8 _ U U6<|C6 1 [5,7,18,19,20] c U ?_;rw[show rfA a b j+rfP a f a.length=rfA a b (j+1) by rw[rfA,T]];refine We (m':=b.length-(j+1)) om_ mup (hn_ [5,7,18,19,20] U) ⟨j+1,by omega,U,U,U⟩
 have g:j=b.length:=by
  have:=Si z;omega
 subst g;exact U0 2 [4] U<|V6 U2<|⟨U,U⟩
theorem Il (C:Mem)(v:Value)(l:List Str)(x:Str)(d:Sl C 1 v (l.map dC))(r:l.length<=1000000) :
  Pur cx.P 157 [v,ae x] C λu _=>∃z:Int,u=i_ z/\decide (0<=z)=decide (x∈l):=by
 obtain⟨A,c,rfl,_⟩:=id d;simp only[au]at d⊢;refine V7 func157 19 U3 λw0=>U0 1 [0,1] U<|U0 3 [0,1,7,8] U<|G.loop (λfr s n o=>∃(k:Nat),(k<=l.length/\∀y∈l.take k,x≠y)/\fr=[(0,[],.slice A l.length c),(1,[],ae x),(7,[],i_ l.length),(8,[],i_ k)]/\n=[]/\o=l.length-k) (hn_ [0,1,7,8] U) ⟨0,⟨Sm _,λy hy=>by simp at hy⟩,U,U,U⟩ (λfr t w m _ p=>?_);obtain⟨k,⟨B,e⟩,rfl,rfl,rfl⟩:=p;refine U0 1 [0,1,7,8,9] U<|G.cd (λf=>?_) λf=>?_
 .have a:k<l.length:=by
   have:=RD f;omega
  refine U0 2 [0,1,5,7,8] U<|U1 3 U λR g=>Wf d.m_ U10 om_ (by rw[Sh,ah a];rfl:(l.map dC)[k]?=some (dC l[k])) fl_ λD q=>V1 q U8<|C6 1 [0,1,5,7,8,16] g U<|G.cd (λi=>?_) λi=>?_
  .have j:x=l[k]:=by simpa using i
   exact U0 2 [4] U<|V6 U2<|⟨U,_,U,by rw[SB (by omega:(0:Int)<=(k:Int)),SB (by rw[j];exact Td a)]⟩
  have j:¬ x=l[k]:=by simpa using i
  refine V3 λR g=>V8 _ U U6<|C6 1 [0,1,7,8] g U<|We (m':=l.length-(k+1)) om_ mup (hn_ [0,1,7,8] U) ⟨k+1,⟨by omega,λy hy=>by
   rw[List.take_succ_eq_append_getElem a]at hy;rcases Sx.1 hy with b|b
   .exact e y b
   simp only[SD]at b;subst b;exact j⟩,U,U,U⟩
 have a:k=l.length:=by
  have:=Si f;omega
 subst a;rw[Ss]at e;exact U0 1 [4] U<|V6 U2<|⟨U,_,U,by rw[SM (by decide:¬ (0:Int)<=-1),SM (λh=>e x h U)]⟩
theorem oD (C:Mem)(v:Value)(l:List Str)(x:Str)(a:Sl C 1 v (l.map dC))(b:l.length<=1000000):Gives cx.P 98 [v,ae x] C (.bool (decide (x∈l))):=by
 refine V7 func98 9 U3 λw0=>U0 1 [0,1] U<|U1 2 U λR c=>Wz (Il _ _ l x a.m_ b) U7 (λf _ _ d=>?_);obtain⟨z,rfl,e⟩:=d;exact C6 2 [4] c U<|V6 U2<|⟨by rw[<- e],U⟩
def rH (us:List Str)(o:Obs):Bool:=!decide (o.upper∈us) || (decide (o.lower≠[]) && !decide (o.lower∈us))
theorem GG (C:Mem)(o:Obs)(a:List Str)(h:Value)(i:Nat)(b:Sl C 1 h (a.map dC))(j:a.length<=1000)(d:C i=some (.cells ⟨[h]⟩ 181 (0,0))) :
  Gives cx.P 97 [.agg ⟨gD o⟩,p_ i] C (.bool (rH a o)):=by
 obtain⟨A,c,rfl,_⟩:=id b;simp only[au]at b d⊢;refine V7 func97 21 U3 λw0=>V3 λR f=>Wi U6 λk=>C6 1 [1,2] f U<|G.freeze 0 U λ_ _ g=>V3 λR f=>V1 (bkT d 1) U8<|V2 U6<|V1 (bkT g 1) U8<|Wc (oD _ _ a o.upper b.m_ om_) U7 fl_<|V4 3 U<|Wv U6 (λ_=>PtrTo.blockT (Mem.get g mup) _ 1) U3<|V4 2 U<|Wv U6 (λ_=>PtrTo.blockT (Mem.get d mup) _ 1) U3<|V2 U6<|Wv U6 (λ_=>PtrTo.blockT (Mem.get g mup) _ 1) U3<|Wo (λ_=>(oD _ _ a o.lower b.m_ om_)) U9<|V2 U6<|Wr U8<|Wy U8<|C6 1 [3] f U<|V6 U2<|⟨?_,U⟩;unfold rH;have e:decide (o.lower≠[])=!List.isEmpty o.lower:=by cases o.lower <;> simp
 rw[e];simp
def usS:List Str:=[[65],[66]]
def colS:List Lay:=[⟨[65],0,none⟩,⟨[66],0,some 5⟩]
def yv (S:Sht)(l:List Sgt):List Nat:=(List.range (min l.length 6)).filter λi=>!rH usS (eT S (l.getD i nJ) i)
def gg (S:Sht)(H:Hts)(l:List Sgt):Bk:=⟨cJ (S.kd % 8) S.a S.b S.h,shT (S.kd % 8),(fsK (cJ (S.kd % 8) S.a S.b S.h).length H).map qtx,colS,(yv S l).map λi=>eT S (l.getD i nJ) i⟩
noncomputable def roS (S:Sht)(H:Hts)(l:List Sgt)(j:Nat):List RowQ:=rowsO (gg S H l) (eT S (l.getD ((yv S l).getD j 0) nJ) ((yv S l).getD j 0)) (mf S (l.getD ((yv S l).getD j 0) nJ)) (tK S (l.getD ((yv S l).getD j 0) nJ)) (zK S H (l.getD ((yv S l).getD j 0) nJ))
theorem Jq (S:Sht)(H:Hts)(l:List Sgt):(gg S H l).obs=(sk S l).filter λo=>!rH usS o:=by
 show(yv S l).map _=_;unfold sk yv;rw[List.filter_map];rfl
theorem OZ {i:Nat}(h:(yv S l)[j]?=some i):i<6/\∃s,l[i]?=some s/\l.getD i nJ=s/\rH usS (eT S s i)=false:=by
 obtain⟨h1,h2⟩:=TP.1 (aJ h);have h3:=SE.1 h1;obtain⟨s,hs⟩:∃s,l[i]?=some s:=⟨_,ah om_⟩;have e:l.getD i nJ=s:=by rw[ak,hs];rfl
 rw[e]at h2;exact⟨by omega,s,hs,e,by simpa using h2⟩
theorem na {H:Hts}(h:(gg S H l).obs[j]?=some o):∃i s,(yv S l)[j]?=some i/\i<6/\l[i]?=some s/\l.getD i nJ=s/\rH usS (eT S s i)=false/\o=eT S s i:=by
 have h0:((yv S l).map λi=>eT S (l.getD i nJ) i)[j]?=some o:=h;rw[Sh]at h0;cases e:(yv S l)[j]? with
|none=>rw[e]at h0;cases h0
|some i =>
  rw[e]at h0;obtain⟨a,s,b,c,d⟩:=OZ e;refine⟨i,s,U,a,b,c,d, ?_⟩;rw[<- c];exact(TO h0).symm
theorem Ig (h:rH usS o=false):o.upper∈usS/\(o.lower≠[]->o.lower∈usS):=by
 unfold rH at h;simp only[TY,VG,Bool.not_eq_false',Sr,SS]at h;obtain⟨h1,h2⟩:=h;exact⟨h1,λh3=>h2.resolve_left λh4=>h4 h3⟩
theorem Gj:∀u∈usS,ib (isU u) colS 0=ib (isU u) colK 0/\0<=ib (isU u) colS 0:=by decide +kernel
theorem EX {b:List Pt}{c:List Tri}(f:rH usS o=false)(g:o.kind≠1->o.lower≠[])(h:gm b c colK o=0):gm b c colS o=0:=by
 obtain⟨h1,h2⟩:=Ig f;have d:=(Gj _ h1).1;have e:o.kind≠1->ib (isU o.lower) colS 0=ib (isU o.lower) colK 0:=λa=>(Gj _ (h2 (g a))).1;have u:Gm colS o=Gm colK o:=by
  unfold Gm;rw[d];by_cases a:o.kind=1
  .rw[a];rfl
  rw[e a]
 have w:ordB colS o=ordB colK o:=by
  unfold ordB;rw[d];by_cases a:o.kind=1
  .rw[a];rfl
  rw[e a]
 unfold gm at h⊢;rw[u,w];exact h
theorem K3 (S:Sht)(s:Sgt)(i:Nat):(eT S s i).kind≠1->(eT S s i).lower≠[]:=by
 unfold eT;split
 .intro h;exact absurd rfl h
 split <;> (intro _;simp[sn])
theorem OY (S:Sht)(l:List Sgt):(yv S l).Nodup:=List.nodup_range.filter _
theorem Lq (S:Sht)(l:List Sgt):(yv S l).length<=6:=by
 have h:=TV (λi=>!rH usS (eT S (l.getD i nJ) i)) (List.range (min l.length 6));rw[Tn]at h;exact Su h (Nat.min_le_right _ _)
theorem zi (S:Sht)(H:Hts)(l:List Sgt):(gg S H l).obs.length<=6:=by
 show((yv S l).map _).length<=6;rw[au];exact Lq S l
theorem FJ (S:Sht)(H:Hts)(l:List Sgt)(d:∀s∈l,SgtR s):iV (gg S H l)=0:=by
 have f:∀n,n<=(gg S H l).obs.length->wx (gg S H l) n=0:=by
  intro n;induction n with
 |zero=>intro _;rfl
 |succ n g =>
   intro j;have h0:=g om_;have a:(gg S H l).obs[n]?=some (gg S H l).obs[n]:=ah j;rw[uZ h0 a];obtain⟨i,s,m,b,p,_,r,t⟩:=na a;rw[t];have hp:=uT S s (d s (aJ p));unfold obZ;rw[aF (by
    have:=EX r (K3 S s i) (K2 S s i b hp.1 hp.2);intro h;exact h this),aF]
   intro hm;obtain⟨o,u,c⟩:=Sn.1 hm;obtain⟨k,D,v⟩:=List.mem_take_iff_getElem.1 u;have w:(gg S H l).obs[k]?=some o:=by rw[<- v];exact ah _
   obtain⟨E,F,x,y,_,_,_,z⟩:=na w;rw[z,yj,yj]at c;have e:=QV y b c;subst e;have A:=(aT.1 x);have B:=(aT.1 m);have:=(List.getElem_inj (OY S l)).1 (A.2.trans B.2.symm);omega
 unfold iV;have G:=zi S H l;have h1:oB (gg S H l).pts.length (gg S H l).terr=0:=by
  unfold oB;rw[aK (by show((fsK _ H).map qtx).length=_;rw[au,vD];rfl)];show oc (((fsK _ H).map qtx).all aS)=0;rw[zm (λq C=>ok1 (IH _ H q C))];rfl
 have h2:sH (gg S H l).col=0:=by
  show sH colS=0;decide +kernel
 rw[aF (by rw[h1];decide),aF (by rw[h2];decide),aF om_];exact f _ (Sg _)
theorem Nm:∀x∈colS,x∈colK:=λx a=>by
 simp only[colS,colK,Sw,Tp,UG]at a⊢;rcases a with h|h
 .exact .inl h
 exact .inr (.inl h)
theorem PD (S:Sht)(H:Hts)(l:List Sgt)(a:∀s∈l,SgtR s):BookR (gg S H l):=by
 refine⟨(PE S H l a).terr,λx b=>Rf x (Nm x b),(by show colS.length<=1000000;decide),λo c=>?_⟩;obtain⟨j,d⟩:=List.mem_iff_getElem?.1 c;obtain⟨i,s,_,_,e,_,_,rfl⟩:=na d;exact QU S s i (a s (aJ e))
theorem FK (S:Sht)(H:Hts)(l:List Sgt)(c:∀s∈l,SgtR s):Rich (gg S H l) (fsK (cJ (S.kd % 8) S.a S.b S.h).length H) (roS S H l):=by
 refine⟨(gV (S.kd % 8) (S5 _ dc_) S.a S.b S.h).1,PD S H l c,FJ S H l c,⟨U,vD _ _,λq d=>(IH _ H q d).le dc_⟩, ?_, ?_⟩
 .have h:(cJ (S.kd % 8) S.a S.b S.h).length<=6:=kc _ _ _ _;show 1*(cJ (S.kd % 8) S.a S.b S.h).length<=60;omega
 intro j o f;obtain⟨i,s,g,_,k,e,m,rfl⟩:=na f;refine⟨_,_,_,_,R8 S H _ s i (c s (aJ k)) U U (Gj _ (Ig m).1).2, ?_⟩;have n:(yv S l).getD j 0=i:=by rw[ak,g];rfl
 unfold roS;rw[n,e]
theorem ue (S:Sht)(H:Hts)(l:List Sgt)(c:∀s∈l,SgtR s):Calm (gg S H l) (fsK (cJ (S.kd % 8) S.a S.b S.h).length H) (roS S H l):=by
 have n:=kc (S.kd % 8) S.a S.b S.h;have o:=zi S H l;refine⟨FK S H l c, ?_,Ci (λx d=>Sb x (Nm x d)) _,λj f=>?_, ?_,λj _=>?_,by omega⟩
 .show 1*(cJ (S.kd % 8) S.a S.b S.h).length<=12;omega
 .obtain⟨i,s,g,_,k,e,_,_⟩:=na (ah f);have m:(yv S l).getD j 0=i:=by rw[ak,g];rfl
  unfold roS;rw[m,e];exact N6 S H _ s i (c s (aJ k)) U
 .show([]:List RowQ).length<=24;decide
 refine EN ?_;unfold cR xf;refine Su (TV _ _) ?_;rw[Tn];show 1<=2;decide
theorem NQ (b:∀r,QB 20 (du r))(c:∀r,0<=du r):xg rs.length ((duL rs du).map qtx) (duL rs du)=0:=by
 have d:ek rs.length ((duL rs du).map qtx)=0:=fH.2 ⟨by rw[au,Ph],og λx a=>by
  obtain⟨k,_,rfl⟩:=Sn.1 a;exact(b k).le dc_⟩
 have e:(duL rs du).any (λq=>decide (q<0))=false:=List.any_eq_false.2 λx a=>by
  obtain⟨k,_,rfl⟩:=Sn.1 a;have:=c k;simp only[Sr];grind
 unfold xg;rw[aF (λh=>h d),e];rfl
theorem Jm {c:List Rat}(h:Lp.OptR (bN n rs) (λj=>c.getD j 0) 20 v pt du):zB n rs ((duL rs du).map qtx) (duL rs du) c=0/\JR n rs ((duL rs du).map qtx) (duL rs du) c=qtx v:=by
 have hs:=NQ (rs:=rs) h.qd h.pos;have i:RE n rs (duL rs du) c:=λj l=>by
  have e:wA rs (duL rs du) j rs.length=Lp.sumN (λr=>du r*(bN n rs).a r j) rs.length:=Lp.sumN_congr λk d=>by rw[Nf d];rfl
  have f:Lp.sumN (λr=>du r*(bN n rs).a r j) rs.length=-c.getD j 0:=h.fac j l;rw[e,f];grind
 have e:-By rs (duL rs du) rs.length=v:=by
  have m:By rs (duL rs du) rs.length=Lp.sumN (λr=>du r*(bN n rs).b r) rs.length:=Lp.sumN_congr λk d=>by rw[Nf d];rfl
  have f:Lp.sumN (λr=>du r*(bN n rs).b r) rs.length=-v:=h.bnd;rw[m,f];grind
 have g:zB n rs ((duL rs du).map qtx) (duL rs du) c=0:=by
  unfold zB;rw[aF (λh2=>h2 hs),aF (λh2=>h2 i),e,aK (bx (h.qv.le dc_))]
 exact⟨g,by unfold JR;rw[aK g,e]⟩
theorem NH {B:Bk}{f:List Rat}{a:Nat->List RowQ}(h:Calm B f a)(g:bs B=1)(c:EdgeOk (bs B) (bp B) es)(b:Lp.OptR (F0 B a es) (PX B es) 20 v pt du) :
  J0 B a es (fh (bs B) (bp B) pt) pt (qtx v) ((duL (rsR B a es) du).map qtx) (duL (rsR B a es) du)=0/\atB (nC B a) pt=true/\qtx (rfA es [(List.range (bp B)).map pt] 1)=qtx v/\PL B (fh (bs B) (bp B) pt) pt:=by
 obtain⟨h1,h2⟩:=N9 c h.rl b;obtain⟨i,k⟩:=Jm b;have d:∀j,QB 22 (pt j):=λj=>(b.qp j).le dc_;have e:=BA.2 h1;have hr:v=rfA es [(List.range (bp B)).map pt] 1:=by
  rw[h2];rw[g]at c⊢;exact KC c
 refine⟨?_,e,by rw[<- hr],λ_=>⟨U,Ri b.cd (Nat.le_add_right _ _),d⟩⟩;have l:aS (qtx v)=true:=bx (b.qv.le dc_);have m:¬ atB (nC B a) pt=false:=by rw[show atB (nC B a) pt=true from e];decide
 unfold J0;rw[aF (λh=>h (uA d)),aF (by rw[l];decide),aF m,aF (λh=>h i),aK ⟨k,by rw[<- hr]⟩]
end Go.Proofs.YtfjcldheldflbaaGreatDoor
