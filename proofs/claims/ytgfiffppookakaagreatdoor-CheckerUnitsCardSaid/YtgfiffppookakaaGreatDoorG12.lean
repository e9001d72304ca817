/- Laws that the proofs of this seat share, part 12. -/
import Derived.Test.YtgfiffppookakaaGreatDoorG11
import Derived.Test.YtgfiffppookakaaGreatDoorShelf
set_option maxHeartbeats 4000000
namespace Go.Jog
open Go

structure AL where
 a:Nat
 st:Nat
 y:Nat
 t:TypeId
 z:List Value
def blkV:Value->Nat
 | .pointer (some ⟨b,_,_⟩)=>b
 | _=>0
def Db:Value->List Value
 | .agg cs=>cs.toList
 | v=>[v]
def pg (s:Nat->Bool)(vf:Nat->Value)(x:AL):List Ent:=bif s x.a then [.obj (blkV (vf x.a)) (.cells ⟨bif s x.st then Db (vf x.y) else x.z⟩ x.t (0,0))] else []
def eG (al:List AL)(s:Nat->Bool)(vf:Nat->Value):List Ent:=al.flatMap (pg s vf)
theorem oD {vf:Nat->Value}{i j:Nat}{v:Value}(h:j≠i):upV vf i v j=vf j:=by
 unfold upV;cases hb:Nat.beq j i with
 | true=>exact absurd (fB hb) h
 | false=>rfl
theorem lJ (vf:Nat->Value)(i:Nat)(v:Value):upV vf i v i=v:=by simp [upV]
theorem kQ {s:Nat->Bool}{vf:Nat->Value}{x:AL}{i:Nat}{v:Value}(h1:x.a≠i)(h2:x.st≠i)(h3:x.y=i->s x.st=false):pg (upS s i) (upV vf i v) x=pg s vf x:=by
 unfold pg;rw [jx h1,jx h2,oD h1];by_cases e:x.y=i
 ·rw [h3 e];rfl
 ·rw [oD e]
theorem df {s s':Nat->Bool}{vf vf':Nat->Value}:∀ {al:List AL},(∀ x∈al,pg s vf x=pg s' vf' x)->eG al s vf=eG al s' vf'
 | [],_=>rfl
 | x::r,h=>by
  have ih:=df (al:=r) fun y hy=>h y (Ll _ hy);unfold eG at *;rw [List.flatMap_cons,List.flatMap_cons,ih,h x (br ..)]
theorem iJ (p q:List AL)(x:AL)(s:Nat->Bool)(vf:Nat->Value):(eG (p++x::q) s vf).Perm (pg s vf x++(eG p s vf++eG q s vf)):=by
 unfold eG;rw [List.flatMap_append,List.flatMap_cons,<- LN];refine (Nq _ Lv).trans ?_;rw [LN]

def ObW (S:Nat->Value->Mem->Prop)(C2:Mem)(K:(Nat->Value)->Prop):List Nat->(Nat->Value)->Prop
 | [],ρ=>K ρ
 | j::r,ρ=>∀ v,S j v C2->ObW S C2 K r (upV ρ j v)
theorem vg {S:Nat->Value->Mem->Prop}{C2:Mem}{K:(Nat->Value)->Prop}{vf:Nat->Value}:∀ {deps:List Nat}{ρ:Nat->Value},GN S vf C2 deps->ObW S C2 K deps ρ->∃ ρ',K ρ'/\(∀ j∈deps,ρ' j=vf j)/\∀ j,ρ' j=vf j∨ρ' j=ρ j
 | [],ρ,_,h=>⟨ρ,h,fun _ h=>(by cases h),fun _=>.inr rfl⟩
 | j::r,ρ,hA,h=>by
  obtain ⟨ρ',h1,h2,h3⟩:=vg hA.2 (h (vf j) hA.1);have h4:∀ i,ρ' i=vf i∨(i≠j/\ρ' i=ρ i):=fun i=>by
   rcases h3 i with h | h
   ·exact .inl h
   ·by_cases e:i=j
    ·subst e;rw [lJ] at h;exact .inl h
    ·rw [oD e] at h;exact .inr ⟨e,h⟩
  refine ⟨ρ',h1,fun i hi=>?_,fun i=>(h4 i).imp id (·.2)⟩;rcases cI.1 hi with rfl | hi
  ·exact (h4 i).resolve_right fun h=>h.1 Z
  ·exact h2 i hi
theorem iC {l:List Oper}{vf ρ:Nat->Value}:∀ {r:List Nat},(∀ j∈r,ρ j=vf j)->wR l ρ r=wR l vf r
 | [],_=>rfl
 | j::r,h=>by
  have ih:=iC (l:=l) (r:=r) fun x hx=>h x (Ll _ hx);unfold wR;rw [ih,h j (br ..)]
def noV:Nat->Value:=fun _=>undef
def ObV (cx:Cx)(n:Nat)(l:List Oper)(S:Nat->Value->Mem->Prop)(fr1:Fr)(C1:Mem)(ov:List (Nat × Nat))(i:Nat)(deps:List Nat):Prop :=
 ∀ (R:Rg n (l.map (·.dst)))(C2:Mem)(Lr:List Ent),C1.le C2->ObW S C2 (fun ρ=>(∀ fr' v C3,C2.le C3->(∀ d,(dP l i).dst=some d->fr'.get d=some ([],v))->S i v C3->D cx R [] fr' C3 Lr) ->
  D cx R [(i,ovr ov i (dx (dP l i)),dP l i)] (wR l ρ deps++fr1) C2 Lr) deps noV
def ObA (cx:Cx)(n:Nat)(l:List Oper)(fr1:Fr)(C1:Mem)(ov:List (Nat × Nat))(x:AL):Prop :=
 ∀ (R:Rg n (l.map (·.dst)))(C2:Mem)(Lr:List Ent),C1.le C2->(∀ fr' b,(∀ d,(dP l x.a).dst=some d->fr'.get d=some ([],.pointer (some ⟨b,0,none⟩)))->D cx R [] fr' C2 (.obj b (.cells ⟨x.z⟩ x.t (0,0))::Lr)) ->
  D cx R [(x.a,ovr ov x.a (dx (dP l x.a)),dP l x.a)] fr1 C2 Lr
def ObT (cx:Cx)(n:Nat)(l:List Oper)(S:Nat->Value->Mem->Prop)(fr1:Fr)(C1:Mem)(ov:List (Nat × Nat))(x:AL):Prop :=
 ∀ (R:Rg n (l.map (·.dst)))(C2:Mem)(Lr:List Ent)(b:Nat)(vy:Value),C1.le C2->S x.y vy C2->(∀ fr',D cx R [] fr' C2 (.obj b (.cells ⟨Db vy⟩ x.t (0,0))::Lr)) ->
  D cx R [(x.st,ovr ov x.st (dx (dP l x.st)),dP l x.st)] (wR l (upV (upV noV x.y vy) x.a (.pointer (some ⟨b,0,none⟩))) [x.a,x.y]++fr1) C2 (.obj b (.cells ⟨x.z⟩ x.t (0,0))::Lr)
def K0 (cx:Cx)(n:Nat)(l:List Oper)(S:Nat->Value->Mem->Prop)(fr1:Fr)(C1:Mem)(ov:List (Nat × Nat)):List (Nat × List Nat)->Prop
 | []=>True
 | (i,deps)::r=>ObV cx n l S fr1 C1 ov i deps/\K0 cx n l S fr1 C1 ov r
def K1 (cx:Cx)(n:Nat)(l:List Oper)(S:Nat->Value->Mem->Prop)(fr1:Fr)(C1:Mem)(ov:List (Nat × Nat)):List AL->Prop
 | []=>True
 | x::r=>ObA cx n l fr1 C1 ov x/\(ObT cx n l S fr1 C1 ov x/\K1 cx n l S fr1 C1 ov r)
theorem xE {cx:Cx}{n:Nat}{l:List Oper}{S:Nat->Value->Mem->Prop}{fr1:Fr}{C1:Mem}{ov:List (Nat × Nat)}:∀ {rd:List (Nat × List Nat)},K0 cx n l S fr1 C1 ov rd->∀ x∈rd,ObV cx n l S fr1 C1 ov x.1 x.2
 | [],_,_,h=>by cases h
 | (i,deps)::r,h,x,hx=>by
  rcases cI.1 hx with rfl | hx
  ·exact h.1
  ·exact xE h.2 x hx
theorem rD {cx:Cx}{n:Nat}{l:List Oper}{S:Nat->Value->Mem->Prop}{fr1:Fr}{C1:Mem}{ov:List (Nat × Nat)}:∀ {al:List AL},K1 cx n l S fr1 C1 ov al->∀ x∈al,ObA cx n l fr1 C1 ov x/\ObT cx n l S fr1 C1 ov x
 | [],_,_,h=>by cases h
 | y::r,h,x,hx=>by
  rcases cI.1 hx with rfl | hx
  ·exact ⟨h.1,h.2.1⟩
  ·exact rD h.2.2 x hx
def Sal (al:List AL)(S:Nat->Value->Mem->Prop)(i:Nat)(v:Value)(C:Mem):Prop :=
 bif al.any (fun x=>Nat.beq x.a i) then ∃ b,v=.pointer (some ⟨b,0,none⟩) else bif al.any (fun x=>Nat.beq x.st i) then True else S i v C
def alB (l:List Oper)(rd vs:List (Nat × List Nat))(al:List AL):Bool :=
 (rd.all fun p=>(al.any fun x=>Nat.beq x.a p.1 && (p.2 == [])) || ((al.any fun x=>Nat.beq x.st p.1 && (p.2 == [x.a,x.y])) || vs.contains p)) &&
 (vs.all (fun p=>(al.all fun x=>!Nat.beq x.a p.1 && !Nat.beq x.st p.1) && p.2.all fun j=>al.all fun x=>!Nat.beq x.a j && !Nat.beq x.st j) &&
 (al.all (fun x=>ej .any l.toArray l.toArray.size x.st x.a && (ej .any l.toArray l.toArray.size x.st x.y && ((rd.map (·.1)).contains x.st && ((rd.map (·.1)).contains x.a && ((rd.map (·.1)).contains x.y && ((dP l x.st).dst.isNone && al.all fun y=>!Nat.beq x.a y.st && (!Nat.beq y.a x.y && !Nat.beq y.st x.y))))))) &&
 (decide (al.map (·.a)).Nodup && decide (al.map (·.st)).Nodup)))
theorem vO {f:AL->Nat}{p q:List AL}{x:AL}(hn:((p++x::q).map f).Nodup):(∀ y∈p,f y≠f x)/\∀ y∈q,f y≠f x:=by
 rw [LC,Li,ME] at hn;obtain ⟨_,h2,h3⟩:=hn;exact ⟨fun y hy=>h3 _ (Nf hy) _ (br ..),fun y hy e=>(List.nodup_cons.1 h2).1 (e ▸ Nf hy)⟩
theorem Ho {a b:Nat}(h:(!Nat.beq a b)=true):a≠b:=fun e=>by subst e;simp at h
section
variable {F:Fx} {k:List KI} {fr:Fr} {C:Mem} {L:List Ent}
theorem G.cB {id:Nat}{l:List Oper}(π ρ:List Nat)(rd vs:List (Nat × List Nat))(ov:List (Nat × Nat))(hp:fr.all (fun x=>x.2.1.isEmpty)=true)(hB:CF F.n l π ρ rd ov=true)
  (h:∀ R:Rg F.n (l.map (·.dst)),C.le R.b.C0 ->
   (∀ {fr1:Fr}{C1:Mem}{L1:List Ent}(al:List AL)(S:Nat->Value->Mem->Prop),alB l rd vs al=true->(∀ i v C C',C.le C'->S i v C->S i v C')->putB F.n l fr1 (rd.map (·.1))=true ->
    K0 F.cx F.n l S fr1 C1 ov vs->K1 F.cx F.n l S fr1 C1 ov al ->
    (∀ R2:Rg F.n (l.map (·.dst)),C.le R2.b.C0->(∀ fr C L,fr.all (fun x=>x.2.1.isEmpty)=true->G F (eA 64 k) .normal fr C L->D F.cx R2 [] fr C L)->∀ C2,C1.le C2 ->
     ObW (Sal al S) C2 (fun vf=>D F.cx R2 (db l ov ρ) (wR l vf (rd.map (·.1))++fr1) C2 (eG al (fun i=>(rd.map (·.1)).contains i) vf++L1)) (rd.map (·.1)) noV)->D F.cx R [] fr1 C1 L1) ->
   D F.cx R (db l ov π) fr C L) (hnd':F.W.nd l.toArray:=by first | exact trivial | exact rfl) :
  G F (.code (.region id l.toArray true)::k) .normal fr C L:=by
 refine G.Il π ρ rd ov hp hB (fun R hR hS=>h R hR fun {fr1 C1 L1} al S hal hmono hput hv hb ht=>?_) hnd';simp only [alB,bL,ep,cH,Lz] at hal;obtain ⟨hrd,hvs,hall,hna,hns⟩:=hal;have anyF:∀ {p:AL->Bool},(∀ x∈al,p x=false)->al.any p=false:=fun h=>List.any_eq_false.2 fun x hx=>by rw [h x hx];decide
 have Sa:∀ x∈al,∀ v C,Sal al S x.a v C ↔ ∃ b,v=.pointer (some ⟨b,0,none⟩):=fun x hx v C=>by
  unfold Sal;rw [Nh.2 ⟨x,hx,NQ _⟩];rfl
 have Sst:∀ x∈al,∀ v C,Sal al S x.st v C:=fun x hx v C=>by
  unfold Sal;rw [anyF (p:=fun y=>Nat.beq y.a x.st) fun y hy=>by simpa using ((hall y hy).2.2.2.2.2.2 x hx).1,Nh.2 ⟨x,hx,NQ _⟩];trivial
 have Sv:∀ i,(∀ x∈al,x.a≠i/\x.st≠i)->∀ v C,Sal al S i v C ↔ S i v C:=fun i hi v C=>by
  unfold Sal;rw [anyF (p:=fun y=>Nat.beq y.a i) fun y hy=>by have:=(hi y hy).1;cases hb:Nat.beq y.a i with | true=>exact absurd (fB hb) this | false=>rfl,
   anyF (p:=fun y=>Nat.beq y.st i) fun y hy=>by have:=(hi y hy).2;cases hb:Nat.beq y.st i with | true=>exact absurd (fB hb) this | false=>rfl];rfl
 have hSy:∀ x∈al,∀ z∈al,z.a≠x.y/\z.st≠x.y:=fun x hx z hz=>by
  have:=(hall x hx).2.2.2.2.2.2 z hz;exact ⟨Ho this.2.1,Ho this.2.2⟩
 have hast:∀ x∈al,∀ z∈al,x.a≠z.st:=fun x hx z hz=>Ho ((hall x hx).2.2.2.2.2.2 z hz).1;have hmono':∀ i v C C',C.le C'->Sal al S i v C->Sal al S i v C':=fun i v C C' hle h=>by
  revert h;unfold Sal;cases al.any (fun x=>Nat.beq x.a i) with
  | true=>exact fun h=>h
  | false =>
   cases al.any (fun x=>Nat.beq x.st i) with
   | true=>exact fun h=>h
   | false=>exact hmono i v C C' hle
 refine hS (Sal al S) (eG al) hmono' hput (fun vf=>?_) ?_ (fun R2 hR2 hG vf C2 hle hA=>?_)
 ·unfold eG;refine List.flatMap_eq_nil_iff.2 fun x _=>rfl
 ·have obs:∀ p∈rd,ObS F.cx F.n l (rd.map (·.1)) (Sal al S) (eG al) fr1 C1 L1 ov p.1 p.2:=fun p hp R s vf C2 hle hs0 hA hdn hun fin=>by
   have h1:=hrd p hp;simp only [Mp,Nh,bL,Lz,Lg] at h1;rcases h1 with ⟨x,hx,hxa,hx2⟩ | ⟨x,hx,hxs,hx2⟩ | hv1
   ·obtain hxa:=fB hxa;rw [hx2,<- hxa];rw [<- hxa] at hun fin;have g:=(hall x hx);have hst:s x.st=false:=hun _ g.2.2.1 g.1;obtain ⟨p',q',hpq⟩:=List.append_of_mem hx;obtain ⟨np,nq⟩:=vO (hpq ▸ hna);have hoth:∀ y∈al,y.a≠x.a->∀ v,pg (upS s x.a) (upV vf x.a v) y=pg s vf y:=fun y hy hne v=>kQ hne (fun e=>hast x hx y hy e.symm) (fun e=>absurd e.symm (hSy y hy x hx).1);rw [<- hxa] at hs0;refine ⟨_,il _,(rD hb x hx).1 R C2 _ hle fun fr' b hd=>fin fr' _ C2 _ (Mem.le.refl _) hd ((Sa x hx _ _).2 ⟨b,Z⟩) ?_⟩;have e1:pg s vf x=[]:=by unfold pg;rw [hs0];rfl
    have e2:pg (upS s x.a) (upV vf x.a (.pointer (some ⟨b,0,none⟩))) x=[.obj b (.cells ⟨x.z⟩ x.t (0,0))]:=by
     unfold pg;rw [lK,lJ,jx (fun e=>hast x hx x hx e.symm),hst];rfl
    have m1:=iJ p' q' x s vf;have m2:=iJ p' q' x (upS s x.a) (upV vf x.a (.pointer (some ⟨b,0,none⟩)));rw [e1,<- hpq] at m1;rw [e2,<- hpq,df fun y hy=>hoth y (by rw [hpq];exact M2 _ hy) (np y hy) _,df fun y hy=>hoth y (by rw [hpq];exact NP _ (Ll _ hy)) (nq y hy) _] at m2;exact (List.Perm.cons _ (Nq L1 m1)).trans (Nq L1 m2.symm)
   ·obtain hxs:=fB hxs;have g:=(hall x hx);rw [hx2] at hA;rw [hx2,<- hxs];rw [<- hxs] at hdn fin hs0;obtain ⟨hA1,hA2,_⟩:=hA;obtain ⟨b,hvb⟩:=(Sa x hx _ _).1 hA1;have hSyx:=(Sv x.y (fun z hz=>hSy x hx z hz) _ _).1 hA2;have hsa:s x.a=true:=hdn _ g.2.2.2.1 g.1;obtain ⟨p',q',hpq⟩:=List.append_of_mem hx;obtain ⟨np,nq⟩:=vO (hpq ▸ hns);have hoth:∀ y∈al,y.st≠x.st->∀ v,pg (upS s x.st) (upV vf x.st v) y=pg s vf y:=fun y hy hne v=>kQ (fun e=>hast y hy x hx e) hne (fun e=>absurd e.symm (hSy y hy x hx).2);have e1:pg s vf x=[.obj b (.cells ⟨x.z⟩ x.t (0,0))]:=by
     unfold pg;rw [hsa,hs0,hvb];rfl
    have m1:=iJ p' q' x s vf;rw [e1,<- hpq] at m1;have ef:wR l (upV (upV noV x.y (vf x.y)) x.a (.pointer (some ⟨b,0,none⟩))) [x.a,x.y]=wR l vf [x.a,x.y]:=iC fun j hj=>by
     by_cases e:j=x.a
     ·rw [e,lJ,hvb]
     ·rw [oD e];have:j=x.y:=by
       rcases cI.1 hj with h | h
       ·exact absurd h e
       ·exact K5.1 h
      rw [this,lJ]
    refine ⟨_,Nq L1 m1, ?_⟩;have hD:=(rD hb x hx).2 R C2 ((eG p' s vf++eG q' s vf)++L1) b (vf x.y) hle hSyx fun fr'=>fin fr' undef C2 _ (Mem.le.refl _) (fun d hd=>by
     have:=g.2.2.2.2.2.1;rw [hd] at this;cases this) (Sst x hx _ _) ?_
    ·rw [ef] at hD;exact hD
    ·have e2:pg (upS s x.st) (upV vf x.st undef) x=[.obj b (.cells ⟨Db (vf x.y)⟩ x.t (0,0))]:=by
      unfold pg;rw [jx (hast x hx x hx),lK,hsa,oD (hast x hx x hx),oD (fun e=>(hSy x hx x hx).2 e.symm),hvb];rfl
     have m2:=iJ p' q' x (upS s x.st) (upV vf x.st undef);rw [e2,<- hpq,df fun y hy=>hoth y (by rw [hpq];exact M2 _ hy) (np y hy) _,df fun y hy=>hoth y (by rw [hpq];exact NP _ (Ll _ hy)) (nq y hy) _] at m2;exact Nq L1 m2.symm
   ·have h2:=hvs p hv1;have hi:∀ x∈al,x.a≠p.1/\x.st≠p.1:=fun x hx=>⟨Ho (h2.1 x hx).1,Ho (h2.1 x hx).2⟩;have hA2:GN S vf C2 p.2:=by
     have key:∀ r:List Nat,(∀ j∈r,∀ x∈al,x.a≠j/\x.st≠j)->GN (Sal al S) vf C2 r->GN S vf C2 r:=fun r=>by
      induction r with
      | nil=>exact fun _ _=>trivial
      | cons j r ih=>exact fun h3 h4=>⟨(Sv j (h3 j (br ..)) _ _).1 h4.1,ih (fun x hx=>h3 x (Ll _ hx)) h4.2⟩
     exact key p.2 (fun j hj x hx=>⟨Ho (h2.2 j hj x hx).1,Ho (h2.2 j hj x hx).2⟩) hA
    obtain ⟨ρ',hK,hρ,_⟩:=vg hA2 (xE hv p hv1 R C2 (eG al s vf++L1) hle);rw [iC hρ] at hK;refine ⟨_,il _,hK fun fr' v C3 hle3 hd hSv=>fin fr' v C3 _ hle3 hd ((Sv p.1 hi _ _).2 hSv) ?_⟩;rw [df (s':=s) (vf':=vf) (al:=al) fun x hx=>kQ (hi x hx).1 (hi x hx).2 fun e=>hun _ (hall x hx).2.2.1 (by rw [<- e];exact (hall x hx).2.1)]
  have conv:∀ r:List (Nat × List Nat),(∀ p∈r,ObS F.cx F.n l (rd.map (·.1)) (Sal al S) (eG al) fr1 C1 L1 ov p.1 p.2)->xC F.cx F.n l (rd.map (·.1)) (Sal al S) (eG al) fr1 C1 L1 ov r:=fun r=>by
   induction r with
   | nil=>exact fun _=>trivial
   | cons p r ih=>exact fun h3=>⟨h3 p (br ..),ih fun x hx=>h3 x (Ll _ hx)⟩
  exact conv rd obs
 ·obtain ⟨ρ',hK,hρ,_⟩:=vg hA (ht R2 hR2 hG C2 hle);rw [iC hρ] at hK;rw [df (s:=fun i=>(rd.map (·.1)).contains i) (s':=fun i=>(rd.map (·.1)).contains i) (vf:=vf) (vf':=ρ') fun x hx=>by
   unfold pg;have g:=hall x hx;rw [hρ _ (by simpa using g.2.2.2.1),hρ _ (by simpa using g.2.2.2.2.1)]]
  exact hK
end
end Go.Jog
namespace Go.Jog
abbrev SPc:={p:Value->Mem->Prop // ∀ v C C',Mem.le C C'->p v C->p v C'}
def Kr:SPc:=⟨fun _ _=>True,fun _ _ _ _ _=>trivial⟩
def JK (u:Value):SPc:=⟨fun v _=>v=u,fun _ _ _ _ h=>h⟩
def bn:List (Nat × SPc)->Nat->SPc
 | [],_=>Kr
 | (j,p)::r,i=>bif Nat.beq j i then p else bn r i
end Go.Jog
namespace Go.Proofs.YtgfiffppookakaaGreatDoor
open Go Go.Jog
set_option maxRecDepth 100000

theorem BT {q:Rat}(h:q≠0):q⁻¹.num.natAbs=q.den/\q⁻¹.den=q.num.natAbs/\(q⁻¹.num<0 ↔ q.num<0):=by
 have h1:=Rat.num_inv q;have h2:=Rat.den_inv q;have h0:q.num≠0:=fun e=>h (M5.1 e);have hd:=q.den_pos;rw [h1,h2,a7 h0];rcases Int.lt_or_gt_of_ne h0 with hl | hl
 ·rw [Int.sign_eq_neg_one_of_neg hl];exact ⟨by omega,rfl,by omega⟩
 ·rw [Int.sign_eq_one_of_pos hl];exact ⟨by omega,rfl,by omega⟩
theorem CH {p q:Rat}(h:q≠0):ratB (decide (p.num<0) != decide (q.num<0)) (p.num.natAbs*q.den) (p.den*q.num.natAbs)=p / q:=by
 obtain ⟨h1,h2,h3⟩:=BT h;rw [Np,<- mS,h1,h2];congr 2;exact Lj.2 h3.symm
theorem nA {C:Mem}{u v:Value}{p q:Rat}{j k:Nat}(hu:FrC C u p)(hv:FrC C v q)(hp:SmQ j p)(hq:SmQ k q)(hjk:j+k<=1000000)(h0:q≠0):Pur cx.P 104 [u,v] C fun r D=>FrC D r (p / q):=by
 have hqn:0<q.num.natAbs:=by
  have:q.num≠0:=fun e=>h0 (M5.1 e);omega
 obtain ⟨pu,pw,rfl,hpu,hpw⟩:=hu;obtain ⟨qu,qw,rfl,hqu,hqw⟩:=hv;obtain ⟨A1,n1,c1,rfl,_,_⟩:=hpu.form;obtain ⟨A2,n2,c2,rfl,_,_⟩:=hpw.form;obtain ⟨A3,n3,c3,rfl,_,_⟩:=hqu.form;obtain ⟨A4,n4,c4,rfl,_,_⟩:=hqw.form;refine Fn.it kr_ Tryz.func104 21 fun w0=>?_;refine G.rg fun R hR=>?_;refine D.aD (fun b2=>?_);refine D.aD (fun b3=>?_);refine D.ai (fun b4=>?_);refine D.e3 2 3 4 hR ?_;refine G.aG [0,1,2,3,4,5,6,7,8,10,11,12,13,9,14,15,16] [] Z kr_ (fun R hB hR=>?_);refine D.ac ?_;refine D.af (.tail _ (.tail _ (.head _))) ?_;refine D.ac ?_;refine D.af (.tail _ (.head _)) ?_;refine D.ps 2 ?_;refine D.af (.tail _ (.tail _ (.head _))) ?_;refine D.ac ?_;refine D.af (.tail _ (.head _)) ?_;refine D.ac ?_;refine D.af (.tail _ (.tail _ (.head _))) ?_;refine D.ac ?_;refine D.af (.tail _ (.head _)) ?_;refine D.au (iT hpu.m_ hqw.m_ hp.1 hq.2 om_ om_) U7 fl_ (fun v14 _ _ hq14=>?_);refine D.au (iT hpw.m_ hqu.m_ hp.2 hq.1 om_ om_) U7 fl_ (fun v19 _ _ hq19=>?_);refine D.az (fS (k:=j+k) _ hq14.m_ hq19.m_ (hp.1.mul hq.2) (hp.2.mul hq.1) (MA p.den_pos hqn) hjk) (fun v20 C20 _ hq20=>?_)
 replace hq20:FrC C20 v20 (p / q):=by rw [<- CH h0];exact hq20
 obtain ⟨A5,n5,c5,A6,n6,c6,rfl⟩:=hq20.form;refine D.ae (j:=0) ?_;refine D.e1 4 hR ?_;refine G.aB (G.aR (.head _) U4 ?_);exact ⟨Z,hq20⟩

def frS (q:Rat):SPc:=⟨fun v C=>FrC C v q,fun _ _ _ hl h=>FrC.mono h hl⟩
def VcC (C:Mem)(v:Value)(p:V3):Prop:=∃ x y z:FV,v=.agg ⟨x.enc++(y.enc++z.enc)⟩/\FrC C (.agg ⟨x.enc⟩) p.1/\FrC C (.agg ⟨y.enc⟩) p.2.1/\FrC C (.agg ⟨z.enc⟩) p.2.2
theorem VcC.mono {C D:Mem}{v:Value}{p:V3}(h:VcC C v p)(hl:C.le D):VcC D v p:=by
 obtain ⟨x,y,z,h1,h2,h3,h4⟩:=h;exact ⟨x,y,z,h1,FrC.mono h2 hl,FrC.mono h3 hl,FrC.mono h4 hl⟩
theorem VcC.m_ {C D:Mem}{v:Value}{p:V3}(h:VcC C v p)(hl:C.le D:=by exact mup):VcC D v p:=VcC.mono h hl
def vcS (p:V3):SPc:=⟨fun v C=>VcC C v p,fun _ _ _ hl h=>h.mono hl⟩
def PcC (C:Mem)(v:Value)(p:Pt):Prop:=∃ x y:FV,v=.agg ⟨x.enc++y.enc⟩/\FrC C (.agg ⟨x.enc⟩) p.1/\FrC C (.agg ⟨y.enc⟩) p.2
theorem PcC.mono {C D:Mem}{v:Value}{p:Pt}(h:PcC C v p)(hl:C.le D):PcC D v p:=by
 obtain ⟨x,y,h1,h2,h3⟩:=h;exact ⟨x,y,h1,FrC.mono h2 hl,FrC.mono h3 hl⟩
theorem PcC.m_ {C D:Mem}{v:Value}{p:Pt}(h:PcC C v p)(hl:C.le D:=by exact mup):PcC D v p:=PcC.mono h hl
theorem mJ {q:Rat}(h:QB 22 q):cL (qtx q)=some q:=by
 have h1:(cL (qtx q)).isSome=true:=by rw [<- Ew];exact dC h
 obtain ⟨p,hp⟩:=MK.1 h1;rw [hp,AR hp]
theorem ek {q:Rat}(h:QB 22 q):SmQ 200 q:=qg (mJ h)
def Sm3 (k:Nat)(p:V3):Prop:=SmQ k p.1/\SmQ k p.2.1/\SmQ k p.2.2
theorem Q3.sm {p:V3}(h:Q3 22 p):Sm3 200 p:=⟨ek h.1,ek h.2.1,ek h.2.2⟩
theorem SmQ.sub {j k:Nat}{p q:Rat}(hp:SmQ j p)(hq:SmQ k q):SmQ (j+k+1) (p-q):=by
 rw [MJ];exact hp.add ⟨by rw [Nm,MN];exact hq.1,by rw [Rat.neg_den];exact hq.2⟩
theorem II {α:Type}{P:α->Prop}{a b c:α}(ha:P a)(hb:P b)(hc:P c):∀ x∈[a,b,c],P x:=by
 intro x hx;rcases cI.1 hx with rfl | hx
 ·exact ha
 ·exact KV hb hc x hx
theorem bC (C:Mem)(q:Rat)(hq:QB 22 q):Pur cx.P 72 [aA (qtx q)] C fun u D=>FrC D u q:=by
 have hrd:=mJ hq;refine Fn.it kr_ Tryz.func72 14 fun w0=>?_;refine G.rg fun R hR=>?_;refine D.ai (fun b2=>?_);refine D.e2 0 2 hR ?_;refine G.rp 1 fun R hR=>?_;refine D.au (mH _ (qtx q) (by have:=dD hq;omega)) U7 fl_ (fun v7 _ _ hq7=>?_);obtain ⟨vf,rfl,hvf⟩:=hq7;obtain ⟨x,rfl⟩:=hvf.fv;rw [hrd] at hvf;refine D.ps 3 ?_;refine D.ai (fun b3=>?_);refine D.ae (j:=0) ?_;refine D.q3 1 2 3 4 hR ?_;refine G.z3 2 2 3 11 ?_;refine G.cd (fun h11=>?_) fun h11=>?_
 ·rw [hrd] at h11;cases h11
 ·refine G.rg fun R hR=>?_;refine D.af (.head _) ?_;refine D.ae (j:=1) ?_;refine D.e1 2 hR ?_;refine G.aB (G.aR (.head _) U4 ?_);exact ⟨Z,FrC.mono hvf mup⟩
theorem dH (C:Mem)(_hT:Tabs C)(p:V3)(hp:Q3 22 p):Pur cx.P 28 [vV p] C fun u D=>VcC D u p:=by
 have hrd:bj [qtx p.1,qtx p.2.1,qtx p.2.2]=some [p.1,p.2.1,p.2.2]:=by simp only [bj,mJ hp.1,mJ hp.2.1,mJ hp.2.2]
 refine Fn.it kr_ Tryz.func28 32 fun w0=>?_;refine G.rg fun R hR=>?_;refine D.aD (fun b1=>?_);refine D.ai (fun b2=>?_);refine D.e2 1 2 hR ?_;refine G.freeze 1 Z (fun _ _ hb1=>?_);refine G.rp 1 fun R hR=>?_;refine D.aa (bkT hb1 1) ?_;refine D.ac ?_;refine D.aa (bkT hb1 1) ?_;refine D.ac ?_;refine D.aa (bkT hb1 1) ?_;refine D.ah ([qtx p.1,qtx p.2.1,qtx p.2.2].map ph) (fun p12 _ _ hs12=>?_);refine D.au (fK _ _ [qtx p.1,qtx p.2.1,qtx p.2.2] hs12.m_ (show 3<=1000000 by decide) (II (by have:=dD hp.1;omega) (by have:=dD hp.2.1;omega) (by have:=dD hp.2.2;omega))) U7 fl_ (fun v13 _ _ hq13=>?_);obtain ⟨A,n,c,rfl,hfl⟩:=hq13;obtain ⟨xs,hsl,hrf⟩:=hfl _ hrd;obtain ⟨x,y,z,rfl⟩:∃ x y z,xs=[x,y,z]:=by
  have hl:=hrf.1;revert hl;cases xs with
  | nil=>intro h;cases h
  | cons x xs =>
   cases xs with
   | nil=>intro h;cases h
   | cons y xs =>
    cases xs with
    | nil=>intro h;cases h
    | cons z xs =>
     cases xs with
     | nil=>intro _;exact ⟨x,y,z,rfl⟩
     | cons w xs=>intro h;simp at h
 refine D.q3 5 2 3 4 hR ?_;refine G.z3 2 2 3 17 ?_;refine G.cd (fun h17=>?_) fun h17=>?_
 ·rw [hrd] at h17;cases h17
 ·refine G.aG [0,1,2,3,4,5,6,7,8,9,10] [] Z kr_ (fun R hB hR=>?_);refine D.ac ?_;refine D.ak hsl.m_ U10 om_ (rfl:([x,y,z].map FV.enc)[0]?=some x.enc) fl_ (fun p23 hp23=>?_);refine D.aa hp23 ?_;refine D.ac ?_;refine D.ak hsl.m_ U10 om_ (rfl:([x,y,z].map FV.enc)[1]?=some y.enc) fl_ (fun p26 hp26=>?_);refine D.aa hp26 ?_;refine D.ac ?_;refine D.ak hsl.m_ U10 om_ (rfl:([x,y,z].map FV.enc)[2]?=some z.enc) fl_ (fun p29 hp29=>?_);refine D.aa hp29 ?_;refine D.ap (x.enc++(y.enc++z.enc)) ?_;refine D.ae (j:=0) ?_;refine D.e1 2 hR ?_;refine G.aB (G.aR (.head _) U4 ?_);exact ⟨Z,x,y,z,Z,(hrf.2 0 x _ Z Z).mono mup,(hrf.2 1 y _ Z Z).mono mup,(hrf.2 2 z _ Z Z).mono mup⟩
theorem kF (C:Mem)(p:Pt)(hp:QP 22 p):Pur cx.P 91 [ptV p] C fun u D=>PcC D u p:=by
 refine Fn.it kr_ Tryz.func91 10 fun w0=>?_;refine G.rg fun R hR=>?_;refine D.aD (fun b1=>?_);refine D.ai (fun b2=>?_);refine D.e2 1 2 hR ?_;clear hR R;refine G.freeze 1 Z (fun _ _ hb1=>?_);refine G.cB [0,1,3,4] [6,7] [(2,[]),(5,[])] [(2,[]),(5,[])] [] Z kr_ (fun R hB hS=>?_);refine D.ac ?_;refine D.aa (bkT hb1 1) ?_;refine D.ac ?_;refine D.aa (bkT hb1 1) ?_;refine hS [] (fun iq vq Cz=>(bn [(2,frS p.1),(5,frS p.2)] iq).1 vq Cz) kr_ (fun iq vq Cz Cy hl h=>(bn _ iq).2 vq Cz Cy hl h) Z ⟨?_, ?_,trivial⟩ trivial (fun R2 hB2 hR Cq hleq=>?_)
 ·intro Rq Cq Lq hleq fin;refine D.az (bC _ p.1 hp.1) (fun v5 _ _ hq5=>?_);exact fin _ _ _ mup (fun d hd=>by cases hd;rfl) hq5
 ·intro Rq Cq Lq hleq fin;refine D.az (bC _ p.2 hp.2) (fun v8 _ _ hq8=>?_);exact fin _ _ _ mup (fun d hd=>by cases hd;rfl) hq8
 intro v5 hq5 v8 hq8;obtain ⟨x,rfl⟩:=FrC.fv hq5;obtain ⟨y,rfl⟩:=FrC.fv hq8;refine D.ap (x.enc++y.enc) ?_;refine D.ae (j:=0) ?_;refine D.e1 2 hR ?_;clear hR R2 hS hB2 hB R;refine G.aB (G.aR (.head _) U4 ?_);exact ⟨Z,x,y,Z,hq5,hq8⟩
theorem l5 (C:Mem)(va vb vc:Value)(a b c:Pt)(k:Nat)(hk:k<=1000)(ha:PcC C va a)(hb:PcC C vb b)(hc:PcC C vc c)(qa:SmQ k a.1/\SmQ k a.2)(qb:SmQ k b.1/\SmQ k b.2)(qc:SmQ k c.1/\SmQ k c.2):Pur cx.P 102 [va,vb,vc] C fun u D=>FrC D u (eE a b c):=by
 obtain ⟨a1,a2,rfl,ha1,ha2⟩:=ha;obtain ⟨b1',b2',rfl,hb1',hb2'⟩:=hb;obtain ⟨c1,c2,rfl,hc1,hc2⟩:=hc;have s1:=qb.1.sub qa.1;have s2:=qc.2.sub qa.2;have s3:=qb.2.sub qa.2;have s4:=qc.1.sub qa.1;refine Fn.it kr_ Tryz.func102 30 fun w0=>?_;refine G.rg fun R hR=>?_;refine D.aD (fun b3=>?_);refine D.aD (fun b4=>?_);refine D.aD (fun b5=>?_);refine D.ai (fun b6=>?_);refine D.e4 3 4 5 6 hR ?_;clear hR R;refine G.freeze 3 Z (fun _ _ hb3=>?_);refine G.freeze 2 Z (fun _ _ hb4=>?_);refine G.freeze 1 Z (fun _ _ hb5=>?_);refine G.cB [0,1,2,3,5,6,7,8,11,12,13,14,16,17,18,19] [23] [(4,[]),(9,[]),(10,[4,9]),(15,[]),(20,[]),(21,[15,20]),(22,[10,21])] [(4,[]),(9,[]),(10,[4,9]),(15,[]),(20,[]),(21,[15,20]),(22,[10,21])] [] Z kr_ (fun R hB hS=>?_);refine D.ac ?_;refine D.aa (bkT hb4 3) ?_;refine D.ac ?_;refine D.aa (bkT hb3 3) ?_;refine D.ac ?_;refine D.aa (bkT hb5 3) ?_;refine D.ac ?_;refine D.aa (bkT hb3 3) ?_;refine D.ac ?_;refine D.aa (bkT hb4 3) ?_;refine D.ac ?_;refine D.aa (bkT hb3 3) ?_;refine D.ac ?_;refine D.aa (bkT hb5 3) ?_;refine D.ac ?_;refine D.aa (bkT hb3 3) ?_;refine hS [] (fun iq vq Cz=>(bn [(4,frS (b.1-a.1)),(9,frS (c.2-a.2)),(10,frS ((b.1-a.1)*(c.2-a.2))),(15,frS (b.2-a.2)),(20,frS (c.1-a.1)),(21,frS ((b.2-a.2)*(c.1-a.1))),(22,frS (eE a b c))] iq).1 vq Cz) kr_ (fun iq vq Cz Cy hl h=>(bn _ iq).2 vq Cz Cy hl h) Z ⟨?_, ?_, ?_, ?_, ?_, ?_, ?_,trivial⟩ trivial (fun R2 hB2 hR Cq hleq=>?_)
 ·intro Rq Cq Lq hleq fin;refine D.au (d7 (FrC.m_ hb1') (FrC.m_ ha1) qb.1 qa.1 om_) U7 fl_ (fun v11 _ _ hq11=>?_);exact fin _ _ _ mup (fun d hd=>by cases hd;rfl) hq11
 ·intro Rq Cq Lq hleq fin;refine D.au (d7 (FrC.m_ hc2) (FrC.m_ ha2) qc.2 qa.2 om_) U7 fl_ (fun v16 _ _ hq16=>?_);exact fin _ _ _ mup (fun d hd=>by cases hd;rfl) hq16
 ·intro Rq Cq Lq hleq v11 hq11 v16 hq16 fin;refine D.au (fu (FrC.m_ hq11) (FrC.m_ hq16) s1 s2 om_) U7 fl_ (fun v17 _ _ hq17=>?_);exact fin _ _ _ mup (fun d hd=>by cases hd;rfl) hq17
 ·intro Rq Cq Lq hleq fin;refine D.au (d7 (FrC.m_ hb2') (FrC.m_ ha2) qb.2 qa.2 om_) U7 fl_ (fun v22 _ _ hq22=>?_);exact fin _ _ _ mup (fun d hd=>by cases hd;rfl) hq22
 ·intro Rq Cq Lq hleq fin;refine D.au (d7 (FrC.m_ hc1) (FrC.m_ ha1) qc.1 qa.1 om_) U7 fl_ (fun v27 _ _ hq27=>?_);exact fin _ _ _ mup (fun d hd=>by cases hd;rfl) hq27
 ·intro Rq Cq Lq hleq v22 hq22 v27 hq27 fin;refine D.au (fu (FrC.m_ hq22) (FrC.m_ hq27) s3 s4 om_) U7 fl_ (fun v28 _ _ hq28=>?_);exact fin _ _ _ mup (fun d hd=>by cases hd;rfl) hq28
 ·intro Rq Cq Lq hleq v17 hq17 v28 hq28 fin;refine D.au (d7 (FrC.m_ hq17) (FrC.m_ hq28) (s1.mul s2) (s3.mul s4) om_) U7 fl_ (fun v29 _ _ hq29=>?_);exact fin _ _ _ mup (fun d hd=>by cases hd;rfl) hq29
 intro v11 hq11 v16 hq16 v17 hq17 v22 hq22 v27 hq27 v28 hq28 v29 hq29;obtain ⟨x,rfl⟩:=FrC.fv hq29;refine D.ae (j:=0) ?_;refine D.e1 6 hR ?_;clear hR R2 hS hB2 hB R;refine G.aB (G.aR (.head _) U4 ?_);exact ⟨Z,hq29⟩

theorem vW {C:Mem}{x y z:FV}{p q r:Rat}(hx:FrC C (.agg ⟨x.enc⟩) p)(hy:FrC C (.agg ⟨y.enc⟩) q)(hz:FrC C (.agg ⟨z.enc⟩) r):RowsF C [x,y,z] [p,q,r] :=
 (((RowsF.nil C).snoc hx).snoc hy).snoc hz
theorem Gv (a b:V3):iB [a.1,a.2.1,a.2.2] [b.1,b.2.1,b.2.2]=ce a b:=by
 show 0+_+_+_=_;rw [MM];rfl
theorem J2 {C:Mem}{b:Nat}{x y z:FV}{t:TypeId}(h:C b=some (.cells ⟨x.enc++(y.enc++z.enc)⟩ t (0,0))):Sl C 3 (.slice (some ⟨b,0,none⟩) 3 3) ([x,y,z].map FV.enc) :=
 Sl.ofBlock (rows:=[x,y,z].map FV.enc) (c:=3) h (by intro r hr;obtain ⟨w,_,rfl⟩:=j5.1 hr;rfl) (fun j v hj=>by simpa using hj) (aP _) dc_
theorem J5 {C:Mem}{b:Nat}{x y z:FV}{p:V3}{t:TypeId}(h:C b=some (.cells ⟨x.enc++(y.enc++z.enc)⟩ t (0,0)))(hx:FrC C (.agg ⟨x.enc⟩) p.1)(hy:FrC C (.agg ⟨y.enc⟩) p.2.1)(hz:FrC C (.agg ⟨z.enc⟩) p.2.2) :
  FrL C (.slice (some ⟨b,0,none⟩) 3 3) [p.1,p.2.1,p.2.2]:=⟨[x,y,z],J2 h,vW hx hy hz⟩
theorem rx (C:Mem)(hT:Tabs C)(va vb:Value)(a b:V3)(j k:Nat)(ha:VcC C va a)(hb:VcC C vb b)(qa:Sm3 j a)(qb:Sm3 k b)(hjk:j+k<=100000):Pur cx.P 71 [va,vb] C fun u D=>FrC D u (ce a b):=by
 obtain ⟨x1,y1,z1,rfl,hx1,hy1,hz1⟩:=ha;obtain ⟨x2,y2,z2,rfl,hx2,hy2,hz2⟩:=hb;refine Fn.it kr_ Tryz.func71 8 fun w0=>?_;refine G.rg fun R hR=>?_;refine D.aD (fun b2=>?_);refine D.aD (fun b3=>?_);refine D.ai (fun b4=>?_);refine D.e3 2 3 4 hR ?_;refine G.freeze 2 Z (fun _ _ hb2=>?_);refine G.freeze 1 Z (fun C3 _ hb3=>?_);have f1:=J5 (p:=a) (Mem.get (D:=C3) hb2 mup) (FrC.m_ hx1) (FrC.m_ hy1) (FrC.m_ hz1);have f2:=J5 (p:=b) hb3 (FrC.m_ hx2) (FrC.m_ hy2) (FrC.m_ hz2);refine G.aG [0,1,2,3] [] Z kr_ (fun R hB hR=>?_);refine D.j4 0 3 3 U12 (fun _=>⟨.inl ⟨Z,Z⟩,.inl ⟨Z,Z⟩,.inl ⟨Z,Z⟩,by omega,by omega,aP _⟩) U2 ?_;refine D.j4 0 3 3 U12 (fun _=>⟨.inl ⟨Z,Z⟩,.inl ⟨Z,Z⟩,.inl ⟨Z,Z⟩,by omega,by omega,aP _⟩) U2 ?_;refine D.au (mu _ hT.m_ _ _ [a.1,a.2.1,a.2.2] [b.1,b.2.1,b.2.2] j k f1.m_ f2.m_ (aP 3) (II qa.1 qa.2.1 qa.2.2) (II qb.1 qb.2.1 qb.2.2) (by show (j+k+1)*4<=900000;omega)) U7 fl_ (fun v7 _ _ hq7=>?_);rw [Gv] at hq7;obtain ⟨x,rfl⟩:=FrC.fv hq7;refine D.ae (j:=0) ?_;refine D.e1 4 hR ?_;refine G.aB (G.aR (.head _) U4 ?_);exact ⟨Z,hq7⟩
theorem ri (C:Mem)(va vk vb:Value)(a b:V3)(q:Rat)(i j k:Nat)(ha:VcC C va a)(hk:FrC C vk q)(hb:VcC C vb b)(qa:Sm3 i a)(qq:SmQ j q)(qb:Sm3 k b)(hs:i+(j+k)<=100000):Pur cx.P 73 [va,vk,vb] C fun u D=>VcC D u (add3 a (kC b q)):=by
 obtain ⟨x1,y1,z1,rfl,hx1,hy1,hz1⟩:=ha;obtain ⟨x2,y2,z2,rfl,hx2,hy2,hz2⟩:=hb;obtain ⟨xk,rfl⟩:=FrC.fv hk;have m:=fun {r:Rat}(h:SmQ k r)=>qq.mul h;refine Fn.it kr_ Tryz.func73 29 fun w0=>?_;refine G.rg fun R hR=>?_;refine D.aD (fun b3=>?_);refine D.aD (fun b4=>?_);refine D.aD (fun b5=>?_);refine D.ai (fun b6=>?_);refine D.e4 3 4 5 6 hR ?_;clear hR R;refine G.freeze 3 Z (fun _ _ hb3=>?_);refine G.freeze 2 Z (fun _ _ hb4=>?_);refine G.freeze 1 Z (fun _ _ hb5=>?_);refine G.cB [0,1,2,3,4,7,8,9,10,11,14,15,16,17,18] [21,22] [(5,[]),(6,[5]),(12,[]),(13,[12]),(19,[]),(20,[19])] [(5,[]),(6,[5]),(12,[]),(13,[12]),(19,[]),(20,[19])] [] Z kr_ (fun R hB hS=>?_);refine D.aE (0) U9 (fun _=>⟨by decide,by decide,Z⟩) U2 ?_;refine D.aa (bkT hb3 3) ?_;refine D.aa (bkT hb4 3) ?_;refine D.aE (0) U9 (fun _=>⟨by decide,by decide,Z⟩) U2 ?_;refine D.aa (bkT hb5 3) ?_;refine D.aE (3) U9 (fun _=>⟨by decide,by decide,Z⟩) U2 ?_;refine D.aa (bkT hb3 3) ?_;refine D.aa (bkT hb4 3) ?_;refine D.aE (3) U9 (fun _=>⟨by decide,by decide,Z⟩) U2 ?_;refine D.aa (bkT hb5 3) ?_;refine D.aE (6) U9 (fun _=>⟨by decide,by decide,Z⟩) U2 ?_;refine D.aa (bkT hb3 3) ?_;refine D.aa (bkT hb4 3) ?_;refine D.aE (6) U9 (fun _=>⟨by decide,by decide,Z⟩) U2 ?_;refine D.aa (bkT hb5 3) ?_;refine hS [] (fun iq vq Cz=>(bn [(5,frS (q*b.1)),(6,frS (a.1+q*b.1)),(12,frS (q*b.2.1)),(13,frS (a.2.1+q*b.2.1)),(19,frS (q*b.2.2)),(20,frS (a.2.2+q*b.2.2))] iq).1 vq Cz) kr_ (fun iq vq Cz Cy hl h=>(bn _ iq).2 vq Cz Cy hl h) Z ⟨?_, ?_, ?_, ?_, ?_, ?_,trivial⟩ trivial (fun R2 hB2 hR Cq hleq=>?_)
 ·intro Rq Cq Lq hleq fin;refine D.au (fu (FrC.m_ hk) (FrC.m_ hx2) qq qb.1 om_) U7 fl_ (fun v12 _ _ hq12=>?_);exact fin _ _ _ mup (fun d hd=>by cases hd;rfl) hq12
 ·intro Rq Cq Lq hleq v12 hq12 fin;refine D.au (eD (FrC.m_ hx1) (FrC.m_ hq12) qa.1 (m qb.1) om_) U7 fl_ (fun v13 _ _ hq13=>?_);exact fin _ _ _ mup (fun d hd=>by cases hd;rfl) hq13
 ·intro Rq Cq Lq hleq fin;refine D.au (fu (FrC.m_ hk) (FrC.m_ hy2) qq qb.2.1 om_) U7 fl_ (fun v19 _ _ hq19=>?_);exact fin _ _ _ mup (fun d hd=>by cases hd;rfl) hq19
 ·intro Rq Cq Lq hleq v19 hq19 fin;refine D.au (eD (FrC.m_ hy1) (FrC.m_ hq19) qa.2.1 (m qb.2.1) om_) U7 fl_ (fun v20 _ _ hq20=>?_);exact fin _ _ _ mup (fun d hd=>by cases hd;rfl) hq20
 ·intro Rq Cq Lq hleq fin;refine D.au (fu (FrC.m_ hk) (FrC.m_ hz2) qq qb.2.2 om_) U7 fl_ (fun v26 _ _ hq26=>?_);exact fin _ _ _ mup (fun d hd=>by cases hd;rfl) hq26
 ·intro Rq Cq Lq hleq v26 hq26 fin;refine D.au (eD (FrC.m_ hz1) (FrC.m_ hq26) qa.2.2 (m qb.2.2) om_) U7 fl_ (fun v27 _ _ hq27=>?_);exact fin _ _ _ mup (fun d hd=>by cases hd;rfl) hq27
 intro v12 hq12 v13 hq13 v19 hq19 v20 hq20 v26 hq26 v27 hq27;obtain ⟨x,rfl⟩:=FrC.fv hq13;obtain ⟨y,rfl⟩:=FrC.fv hq20;obtain ⟨z,rfl⟩:=FrC.fv hq27;refine D.ap (x.enc++(y.enc++z.enc)) ?_;refine D.ae (j:=0) ?_;refine D.e1 6 hR ?_;clear hR R2 hS hB2 hB R;refine G.aB (G.aR (.head _) U4 ?_);refine ⟨Z,x,y,z,Z, ?_, ?_, ?_⟩
 ·show FrC _ _ (a.1+b.1*q);rw [Mk];exact hq13
 ·show FrC _ _ (a.2.1+b.2.1*q);rw [Mk];exact hq20
 ·show FrC _ _ (a.2.2+b.2.2*q);rw [Mk];exact hq27
instance:Inhabited FV:=⟨⟨false,none,0,0,none,0,0⟩⟩
theorem Kv {f:FuncId}{args:List Value}{C:Mem}{q:Rat}(h:Pur cx.P f args C fun r D=>FrC D r q):Pur cx.P f args C fun v D=>∃ x:FV,v=.agg ⟨x.enc⟩/\FrC D (.agg ⟨x.enc⟩) q :=
 h.mono fun v D _ _ ⟨h1,h2⟩=>⟨h1,by obtain ⟨x,rfl⟩:=FrC.fv h2;exact ⟨x,rfl,h2⟩⟩
theorem Ku {f:FuncId}{args:List Value}{C:Mem}{v0:Value}(h:Pur cx.P f args C fun r _=>r=v0):Pur cx.P f args C fun v _=>∃ _:Unit,v=v0/\True :=
 h.mono fun _ _ _ _ ⟨h1,h2⟩=>⟨h1,(),h2,trivial⟩
theorem qX (a b:Rat):decide (sgn (a-b)<=0)=decide (a<=b):=by
 rw [Lj];unfold sgn;split
 ·rename_i h;exact ⟨fun _=>by grind,fun _=>by decide⟩
 ·split <;> rename_i h k
  ·exact ⟨fun _=>by grind,fun _=>by decide⟩
  ·exact ⟨fun g=>absurd g dc_,fun g=>by grind⟩
theorem qV (a b:Rat):decide (sgn (a-b)<0)=decide (a<b):=by
 rw [Lj];unfold sgn;split
 ·rename_i h;exact ⟨fun _=>by grind,fun _=>by decide⟩
 ·split <;> rename_i h k
  ·exact ⟨fun g=>absurd g dc_,fun g=>by grind⟩
  ·exact ⟨fun g=>absurd g dc_,fun g=>by grind⟩
theorem Cm (a b:Rat):decide (sgn (a-b) ≥ 0)=decide (b<=a):=by
 rw [Lj];unfold sgn;split
 ·rename_i h;exact ⟨fun g=>absurd g dc_,fun g=>by grind⟩
 ·split <;> rename_i h k
  ·exact ⟨fun _=>by grind,fun _=>by decide⟩
  ·exact ⟨fun _=>by grind,fun g=>by decide⟩
theorem SmQ.div {j k:Nat}{p q:Rat}(hp:SmQ j p)(hq:SmQ k q)(h:q≠0):SmQ (j+k) (p / q):=by
 obtain ⟨h1,h2,_⟩:=BT h;rw [Np];exact hp.mul ⟨by rw [h1];exact hq.2,by rw [h2];exact hq.1⟩
def fzC:List Value:=[.bool false,.slice none 0 0,.slice none 0 0]
theorem Fz (C:Mem)(hT:Tabs C)(A:Option Addr)(c:Nat)(l:List (Rat × Rat))(hv:Sl C 2 (.slice A l.length c) (l.map rK))(hq:∀ k∈l,QB 1 k.1/\QB 1 k.2)(hd:∀ i,i+1<l.length->(l.getD (i+1) (0,0)).1-(l.getD i (0,0)).1=2)(hl:l.length<=3)(vu:Value)(u:Rat)(hu:FrC C vu u)(su:SmQ 5000 u) :
  Pur cx.P 74 [.slice A l.length c,vu] C fun r D=>∃ x:FV,r=.tuple #[.int .i64 (knN l u:Nat),.agg ⟨x.enc⟩]/\FrC D (.agg ⟨x.enc⟩) (knV l u):=by
 obtain ⟨xu,rfl⟩:=FrC.fv hu;have q22:=fun n=>(show QB 22 (l.getD n (0,0)).1/\QB 22 (l.getD n (0,0)).2 from ⟨(m6 hq n).1.le dc_,(m6 hq n).2.le dc_⟩);have s2:=fun n=>(show SmQ 200 (l.getD n (0,0)).1/\SmQ 200 (l.getD n (0,0)).2 from ⟨ek (q22 n).1,ek (q22 n).2⟩);refine Fn.it kr_ Tryz.func74 96 fun w0=>?_;refine G.rg fun R hR=>?_;refine D.aD (fun b3=>?_);refine D.ac ?_;refine D.ai (fun b5=>?_);refine D.e3 0 3 5 hR ?_;clear hR R;refine G.freeze 1 Z (fun _ _ hb3=>?_);refine G.z4 1 0 3 5 6 ?_;refine G.loop (fun fr C' L' μ=>∃ (n:Nat),(n<=l.length/\∀ k∈l.take n,k.1<=u)/\fr=[(0,[],.slice A l.length c),(3,[],.pointer (some ⟨b3,0,none⟩)),(5,[],.pointer (some ⟨b5,0,none⟩)),(6,[],.int .i64 n)]/\L'=[.obj b5 (.cells ⟨fzC⟩ 111 (0,0))]/\μ=l.length-n) (h_4 0 3 5 6) ⟨0,⟨ch _,by simp⟩,Z,Z,Z⟩ (fun fr C0' L0' m _ hI=>?_);obtain ⟨n,⟨hn,hall⟩,rfl,rfl,rfl⟩:=hI;have hlt:∀ {q:Prop},(decide ((n:Int)<((l.length:Nat):Int))=true/\q)->n<l.length:=fun h=>by have:=bi h.1;omega
 refine G.aG [0,1,2,3,4,5,6,7,8,9,11,10,12,13,14] [(10,2),(12,2),(11,0)] Z kr_ (fun R hB hR=>?_);refine D.ps 7 ?_;refine D.index U10 (fun hg=>⟨hv.mono mup,by omega,gz (hlt hg)⟩) fl_ Z (fun p19 hp19=>?_);refine D.gu U10 hp19 fl_ Z (fun p20 hp20=>?_);refine D.aN U6 hp20 U3 ?_;refine D.am (fun _=>((bkT hb3 3).mono hB)) ?_;refine D.j7 (fun x:FV=>.agg ⟨x.enc⟩) (fun hG22=>(Kv (bC _ (l.getD n (0,0)).1 (q22 n).1))) U7 fl_ U2 (fun v22 _ _ hq22=>?_);refine D.j7 (fun _:Unit=>.int .i64 (sgn ((l.getD n (0,0)).1-u))) (fun hG24=>(Ku (kP (FrC.mono (by exact hq22 ⟨hG24.1,trivial⟩) mup) (FrC.m_ hu) (s2 n).1 su dc_))) U7 fl_ U2 (fun v24 _ _ hq24=>?_);refine D.ac ?_;refine D.aw ?_;refine D.e5 0 3 5 6 26 hR ?_;clear hR hB R;refine G.cd (fun h26=>?_) fun h26=>?_
 ·rw [qX,bL,cH,cH] at h26;have hnl:n<l.length:=by omega
  refine G.rp 1 fun R hR=>?_;refine D.ar _ ?_;refine D.q4 1 0 3 5 6 hR ?_;clear hR R;refine G.ax (m':=l.length-(n+1)) om_ mup (h_4 0 3 5 6) ⟨n+1,⟨by omega,fun k hk=>by
   rw [xO,aq hnl] at hk;rcases Lh.1 hk with h | h
   ·exact hall k h
   ·have h3:=h26.2;rw [aF,aq hnl] at h3;have e5:k=l[n]:=by simpa using h
    rw [e5];exact h3⟩,rfl,rfl,rfl⟩
 ·rw [qX,NU,Lc,Lc] at h26;have hpre:knN l u=n:=qv hn (fun k hk=>j9 (hall k hk)) (fun k hk=>by
   refine K3 (fun hc=>?_);have hnl:=(aJ.1 hk).1;rcases h26 with h | h
   ·omega
   ·rw [aF,hk] at h;exact h hc)
  rw [hpre];refine G.z5 4 0 3 5 6 29 ?_;refine G.cd (fun h29=>?_) fun h29=>?_
  ·have hl0:l=[]:=by
    cases l with
    | nil=>rfl
    | cons a r=>simp at h29;omega
   subst hl0;obtain rfl:n=0:=by simpa using hn
   refine G.rg fun R hR=>?_;refine D.az (Gh _ hT.m_) (fun v33 _ _ hq33=>?_);obtain ⟨x,rfl⟩:=FrC.fv hq33;refine D.ac ?_;refine D.ae (j:=0) ?_;refine D.e2 4 5 hR ?_;clear hR R;refine G.aB (G.rF (.head _) Z Z Z Z Z ?_);exact ⟨Z,x,Z,by unfold knV;rw [bW rfl];exact hq33⟩
  ·have hne:l≠[]:=fun e=>by rw [e] at h29;simp at h29
   have hpos:=K6.2 hne;refine G.z5 3 0 3 5 6 34 ?_;refine G.cd (fun h34=>?_) fun h34=>?_
   ·obtain rfl:n=0:=by simpa using h34
    refine G.rp 1 fun R hR=>?_;refine D.ak hv.m_ U10 om_ (gz hpos) fl_ (fun p38 hp38=>?_);refine D.di hp38 U10 fl_ (fun p39 hp39=>?_);refine D.aa hp39 ?_;refine D.az (bC _ (l.getD 0 (0,0)).2 (q22 0).2) (fun v41 _ _ hq41=>?_);obtain ⟨x,rfl⟩:=FrC.fv hq41;refine D.ac ?_;refine D.ae (j:=0) ?_;refine D.e2 4 5 hR ?_;clear hR R;refine G.aB (G.rF (.head _) Z Z Z Z Z ?_);exact ⟨Z,x,Z,by unfold knV;rw [a7 hne,bW hpre];exact hq41⟩
   ·have hn0:n≠0:=fun e=>by rw [e] at h34;simp at h34
    refine G.z5 5 0 3 5 6 42 ?_;refine G.cd (fun h42=>?_) fun h42=>?_
    ·have hnl:n=l.length:=by simp at h42;omega
     refine G.rp 3 fun R hR=>?_;refine D.ar _ ?_;refine D.ak hv.m_ U10 om_ (by rw [show ((n:Int)-1).toNat=n-1 by omega];exact gz om_) fl_ (fun p51 hp51=>?_);refine D.di hp51 U10 fl_ (fun p52 hp52=>?_);refine D.aa hp52 ?_;refine D.az (bC _ (l.getD (n-1) (0,0)).2 (q22 (n-1)).2) (fun v54 _ _ hq54=>?_);obtain ⟨x,rfl⟩:=FrC.fv hq54;refine D.ac ?_;refine D.ae (j:=0) ?_;refine D.e2 4 5 hR ?_;clear hR R;refine G.aB (G.rF (.head _) Z Z Z Z Z ?_);exact ⟨Z,x,Z,by unfold knV;rw [a7 hne,a7 om_,bW om_,<- hnl];exact hq54⟩
    ·have hnl:n<l.length:=by simp at h42;omega
     have kd:(l.getD n (0,0)).1-(l.getD (n-1) (0,0)).1≠0:=by
      have:=hd (n-1) om_;rw [Nu om_] at this;rw [this];decide
     have k1:=su.sub (s2 (n-1)).1;have k2:=(s2 n).1.sub (s2 (n-1)).1;refine G.cB [0,1,2,3,4,5,7,8,9,10,11] [] [(6,[]),(12,[]),(13,[]),(14,[]),(15,[13,6]),(16,[14,12])] [(6,[]),(12,[])] [(5,0),(11,0)] Z kr_ (fun R hB hS=>?_);refine D.ps 2 ?_;refine D.ar _ ?_;refine D.ak hv.m_ U10 om_ (by rw [show ((n:Int)-1).toNat=n-1 by omega];exact gz om_) fl_ (fun p58 hp58=>?_);refine D.di hp58 U10 fl_ (fun p59 hp59=>?_);refine D.am (fun _=>(hp59.mono hB)) ?_;refine D.ps 2 ?_;refine D.ak hv.m_ U10 om_ (gz hnl) fl_ (fun p64 hp64=>?_);refine D.di hp64 U10 fl_ (fun p65 hp65=>?_);refine D.am (fun _=>(hp65.mono hB)) ?_;refine hS [⟨13,15,6,111,[.bool false,.slice none 0 0,.slice none 0 0]⟩,⟨14,16,12,111,[.bool false,.slice none 0 0,.slice none 0 0]⟩] (fun iq vq Cz=>(bn [(6,frS (l.getD (n-1) (0,0)).1),(12,frS (l.getD n (0,0)).1)] iq).1 vq Cz) kr_ (fun iq vq Cz Cy hl h=>(bn _ iq).2 vq Cz Cy hl h) Z ⟨?_, ?_,trivial⟩ ⟨?_, ?_, ?_, ?_,trivial⟩ (fun R2 hB2 hR Cq hleq=>?_)
     ·intro Rq Cq Lq hleq fin;refine D.az (bC _ (l.getD (n-1) (0,0)).1 (q22 (n-1)).1) (fun v61 _ _ hq61=>?_);exact fin _ _ _ mup (fun d hd=>by cases hd;rfl) hq61
     ·intro Rq Cq Lq hleq fin;refine D.az (bC _ (l.getD n (0,0)).1 (q22 n).1) (fun v67 _ _ hq67=>?_);exact fin _ _ _ mup (fun d hd=>by cases hd;rfl) hq67
     ·intro Rq Cq Lq hleq fin;refine D.ai (fun bq=>?_);exact fin _ bq (fun d hd=>by cases hd;rfl)
     ·intro Rq Cq Lq bq v61 hleq hq61 fin;obtain ⟨x,rfl⟩:=FrC.fv hq61;refine D.ae (j:=0) ?_;exact fin _
     ·intro Rq Cq Lq hleq fin;refine D.ai (fun bq=>?_);exact fin _ bq (fun d hd=>by cases hd;rfl)
     ·intro Rq Cq Lq bq v67 hleq hq67 fin;obtain ⟨x,rfl⟩:=FrC.fv hq67;refine D.ae (j:=0) ?_;exact fin _
     intro v61 hq61 v67 hq67 v7 hq7 v8 hq8 _ _ _ _;obtain ⟨b7,rfl⟩:=hq7;obtain ⟨b8,rfl⟩:=hq8;obtain ⟨x7,rfl⟩:=FrC.fv hq61;obtain ⟨x8,rfl⟩:=FrC.fv hq67;refine D.e6 0 3 5 6 7 8 hR ?_;clear hR R2 hS hB2 hB R;refine G.be (L':=[.obj b7 (.cells ⟨x7.enc⟩ 111 (0,0)),.obj b8 (.cells ⟨x8.enc⟩ 111 (0,0)),.obj b5 (.cells ⟨fzC⟩ 111 (0,0))]) Z ?_;refine G.freeze 0 Z (fun _ _ hb7=>?_);refine G.freeze 0 Z (fun _ _ hb8=>?_);refine G.cB [0,1,2,3,4,5,7,8,9,10,11] [] [(6,[]),(12,[]),(13,[]),(14,[]),(15,[13,6]),(16,[14,12])] [(6,[]),(12,[])] [(5,0),(11,0)] Z kr_ (fun R hB hS=>?_);refine D.ps 2 ?_;refine D.ar _ ?_;refine D.ak hv.m_ U10 om_ (by rw [show ((n:Int)-1).toNat=n-1 by omega];exact gz om_) fl_ (fun p71 hp71=>?_);refine D.di hp71 U10 fl_ (fun p72 hp72=>?_);refine D.am (fun _=>(hp72.mono hB)) ?_;refine D.ps 2 ?_;refine D.ak hv.m_ U10 om_ (gz hnl) fl_ (fun p77 hp77=>?_);refine D.di hp77 U10 fl_ (fun p78 hp78=>?_);refine D.am (fun _=>(hp78.mono hB)) ?_;refine hS [⟨13,15,6,111,[.bool false,.slice none 0 0,.slice none 0 0]⟩,⟨14,16,12,111,[.bool false,.slice none 0 0,.slice none 0 0]⟩] (fun iq vq Cz=>(bn [(6,frS (l.getD (n-1) (0,0)).2),(12,frS (l.getD n (0,0)).2)] iq).1 vq Cz) kr_ (fun iq vq Cz Cy hl h=>(bn _ iq).2 vq Cz Cy hl h) Z ⟨?_, ?_,trivial⟩ ⟨?_, ?_, ?_, ?_,trivial⟩ (fun R2 hB2 hR Cq hleq=>?_)
     ·intro Rq Cq Lq hleq fin;refine D.az (bC _ (l.getD (n-1) (0,0)).2 (q22 (n-1)).2) (fun v74 _ _ hq74=>?_);exact fin _ _ _ mup (fun d hd=>by cases hd;rfl) hq74
     ·intro Rq Cq Lq hleq fin;refine D.az (bC _ (l.getD n (0,0)).2 (q22 n).2) (fun v80 _ _ hq80=>?_);exact fin _ _ _ mup (fun d hd=>by cases hd;rfl) hq80
     ·intro Rq Cq Lq hleq fin;refine D.ai (fun bq=>?_);exact fin _ bq (fun d hd=>by cases hd;rfl)
     ·intro Rq Cq Lq bq v74 hleq hq74 fin;obtain ⟨x,rfl⟩:=FrC.fv hq74;refine D.ae (j:=0) ?_;exact fin _
     ·intro Rq Cq Lq hleq fin;refine D.ai (fun bq=>?_);exact fin _ bq (fun d hd=>by cases hd;rfl)
     ·intro Rq Cq Lq bq v80 hleq hq80 fin;obtain ⟨x,rfl⟩:=FrC.fv hq80;refine D.ae (j:=0) ?_;exact fin _
     intro v74 hq74 v80 hq80 v9 hq9 v10 hq10 _ _ _ _;obtain ⟨b9,rfl⟩:=hq9;obtain ⟨b10,rfl⟩:=hq10;obtain ⟨x9,rfl⟩:=FrC.fv hq74;obtain ⟨x10,rfl⟩:=FrC.fv hq80;refine D.e7 3 5 6 7 8 9 10 hR ?_;clear hR R2 hS hB2 hB R;refine G.be (L':=[.obj b9 (.cells ⟨x9.enc⟩ 111 (0,0)),.obj b10 (.cells ⟨x10.enc⟩ 111 (0,0)),.obj b5 (.cells ⟨fzC⟩ 111 (0,0))]) Z ?_;refine G.freeze 0 Z (fun _ _ hb9=>?_);refine G.freeze 0 Z (fun _ _ hb10=>?_);refine G.cB [0,1,3,4] [] [(2,[]),(5,[]),(6,[2,5]),(7,[]),(8,[7,6])] [(2,[]),(5,[]),(6,[2,5])] [(0,0),(1,0),(3,0),(4,0)] Z kr_ (fun R hB hS=>?_);refine D.am (fun _=>((bkT hb3 3).mono hB)) ?_;refine D.am (fun _=>((bkT hb7 3).mono hB)) ?_;refine D.am (fun _=>((bkT hb8 3).mono hB)) ?_;refine D.am (fun _=>((bkT hb7 3).mono hB)) ?_;refine hS [⟨7,8,6,111,[.bool false,.slice none 0 0,.slice none 0 0]⟩] (fun iq vq Cz=>(bn [(2,frS (u-(l.getD (n-1) (0,0)).1)),(5,frS ((l.getD n (0,0)).1-(l.getD (n-1) (0,0)).1)),(6,frS ((u-(l.getD (n-1) (0,0)).1) / ((l.getD n (0,0)).1-(l.getD (n-1) (0,0)).1)))] iq).1 vq Cz) kr_ (fun iq vq Cz Cy hl h=>(bn _ iq).2 vq Cz Cy hl h) Z ⟨?_, ?_, ?_,trivial⟩ ⟨?_, ?_,trivial⟩ (fun R2 hB2 hR Cq hleq=>?_)
     ·intro Rq Cq Lq hleq fin;refine D.au (d7 (FrC.m_ hu) (FrC.m_ hq61) su (s2 (n-1)).1 dc_) U7 fl_ (fun v83 _ _ hq83=>?_);exact fin _ _ _ mup (fun d hd=>by cases hd;rfl) hq83
     ·intro Rq Cq Lq hleq fin;refine D.au (d7 (FrC.m_ hq67) (FrC.m_ hq61) (s2 n).1 (s2 (n-1)).1 dc_) U7 fl_ (fun v86 _ _ hq86=>?_);exact fin _ _ _ mup (fun d hd=>by cases hd;rfl) hq86
     ·intro Rq Cq Lq hleq v83 hq83 v86 hq86 fin;refine D.au (nA (FrC.m_ hq83) (FrC.m_ hq86) k1 k2 dc_ kd) U7 fl_ (fun v87 _ _ hq87=>?_);exact fin _ _ _ mup (fun d hd=>by cases hd;rfl) hq87
     ·intro Rq Cq Lq hleq fin;refine D.ai (fun bq=>?_);exact fin _ bq (fun d hd=>by cases hd;rfl)
     ·intro Rq Cq Lq bq v87 hleq hq87 fin;obtain ⟨x,rfl⟩:=FrC.fv hq87;refine D.ae (j:=0) ?_;exact fin _
     intro v83 hq83 v86 hq86 v87 hq87 v11 hq11 _ _;obtain ⟨b11,rfl⟩:=hq11;obtain ⟨x11,rfl⟩:=FrC.fv hq87;refine D.e5 5 6 9 10 11 hR ?_;clear hR R2 hS hB2 hB R;refine G.be (L':=[.obj b11 (.cells ⟨x11.enc⟩ 111 (0,0)),.obj b5 (.cells ⟨fzC⟩ 111 (0,0))]) Z ?_;refine G.freeze 0 Z (fun _ _ hb11=>?_);have k3:SmQ 6000 ((u-(l.getD (n-1) (0,0)).1) / ((l.getD n (0,0)).1-(l.getD (n-1) (0,0)).1)):=(SmQ.div k1 k2 kd).le dc_;have k4:=(s2 n).2.sub (s2 (n-1)).2;refine G.aG [0,1,2,3,4,5,6,7,8,9] [] Z kr_ (fun R hB hR=>?_);refine D.ac ?_;refine D.aa (bkT hb9 3) ?_;refine D.aa (bkT hb11 3) ?_;refine D.aa (bkT hb10 3) ?_;refine D.aa (bkT hb9 3) ?_;refine D.au (d7 (FrC.m_ hq80) (FrC.m_ hq74) (s2 n).2 (s2 (n-1)).2 dc_) U7 fl_ (fun v93 _ _ hq93=>?_);refine D.au (fu (FrC.m_ hq87) (FrC.m_ hq93) k3 k4 dc_) U7 fl_ (fun v94 _ _ hq94=>?_);refine D.au (eD (FrC.m_ hq74) (FrC.m_ hq94) (s2 (n-1)).2 (k3.mul k4) dc_) U7 fl_ (fun v95 _ _ hq95=>?_);obtain ⟨x,rfl⟩:=FrC.fv hq95;refine D.ac ?_;refine D.ae (j:=0) ?_;refine D.e2 4 5 hR ?_;clear hR hB R;refine G.aB (G.rF (.head _) Z Z Z Z Z ?_);exact ⟨Z,x,Z,by unfold knV;rw [a7 hne,a7 om_,a7 om_,hpre];exact hq95⟩

def flS (qs:List Rat):SPc:=⟨fun v C=>FrL C v qs,fun _ _ _ hl h=>FrL.mono h hl⟩
theorem oN {C:Mem}{x y:FV}{p q:Rat}(hx:FrC C (.agg ⟨x.enc⟩) p)(hy:FrC C (.agg ⟨y.enc⟩) q):RowsF C [x,y] [p,q]:=((RowsF.nil C).snoc hx).snoc hy
theorem Jf {C:Mem}{x y z w:FV}{p q r s:Rat}(hx:FrC C (.agg ⟨x.enc⟩) p)(hy:FrC C (.agg ⟨y.enc⟩) q)(hz:FrC C (.agg ⟨z.enc⟩) r)(hw:FrC C (.agg ⟨w.enc⟩) s):RowsF C [x,y,z,w] [p,q,r,s]:=(vW hx hy hz).snoc hw
theorem all4 {α:Type}{P:α->Prop}{a b c d:α}(ha:P a)(hb:P b)(hc:P c)(hd:P d):∀ x∈[a,b,c,d],P x:=by
 intro x hx;rcases cI.1 hx with rfl | hx
 ·exact ha
 ·exact II hb hc hd x hx
theorem JL (a b c d:Rat):iB [a,b,c,d] [a,b,c,d]=a*a+b*b+c*c+d*d:=by
 show 0+_+_+_+_=_;rw [MM];rfl
theorem of9:∀ n<19,cL (Lib.itoa ((n:Nat)-9:Int))=some (((n:Nat)-9:Int):Rat)/\(Lib.itoa ((n:Nat)-9:Int)).length<1000000:=by decide +kernel
theorem mP (C:Mem)(hT:Tabs C)(z:Int)(hz:z.natAbs<=9):Pur cx.P 69 [.int .i64 z] C fun u D=>FrC D u (z:Rat):=by
 obtain ⟨h1,h2⟩:=of9 (z+9).toNat om_;rw [show (((z+9).toNat:Nat):Int)-9=z by omega] at h1 h2;exact Jp C hT z z om_ om_ h2 h1
theorem GA (C:Mem)(hT:Tabs C)(v:Value)(qs:List Rat)(k:Nat)(hv:FrL C v qs)(hq:∀ q∈qs,SmQ k q)(hs:(k+k+1)*(qs.length+1)<=900000):Pur cx.P 142 [v] C fun u D=>FrC D u (iB qs qs):=by
 refine Fn.it kr_ Tryz.func142 6 fun w0=>?_;refine G.rg fun R hR=>?_;refine D.ai (fun b2=>?_);refine D.e2 0 2 hR ?_;refine G.rp 2 fun R hR=>?_;refine D.az (mu _ hT.m_ v v qs qs k k hv.m_ hv.m_ (aP _) hq hq hs) (fun v5 _ _ hq5=>?_);obtain ⟨x,rfl⟩:=FrC.fv hq5;refine D.ae (j:=0) ?_;refine D.e1 2 hR ?_;refine G.aB (G.aR (.head _) U4 ?_);exact ⟨Z,hq5⟩
theorem kX (C:Mem)(hT:Tabs C)(v:Value)(a b:Int)(hv:FrL C v [(a:Rat),(b:Rat)])(qa:SmQ 200 (a:Rat))(qb:SmQ 200 (b:Rat)):Pur cx.P 142 [v] C fun u D=>FrC D u ((a:Rat)*a+(b:Rat)*b):=by
 have h:=GA C hT v _ 200 hv (KV qa qb) (by show 401*3<=900000;decide)
 rwa [show iB [(a:Rat),(b:Rat)] [(a:Rat),(b:Rat)]=(a:Rat)*a+(b:Rat)*b from by show 0+_+_=_;rw [MM];rfl] at h
theorem pq (C:Mem)(hT:Tabs C)(vp vq vr vs:Value)(p q r s:Rat)(hp:FrC C vp p)(hq:FrC C vq q)(hr:FrC C vr r)(hs:FrC C vs s)(qp:SmQ 200 p)(qq:SmQ 200 q)(qr:SmQ 200 r)(qs:SmQ 200 s) :
  Pur cx.P 143 [vp,vq,vr,vs] C fun u D=>FrC D u (2*(p*q+r*s)):=by
 obtain ⟨xp,rfl⟩:=FrC.fv hp;obtain ⟨xq,rfl⟩:=FrC.fv hq;obtain ⟨xr,rfl⟩:=FrC.fv hr;obtain ⟨xs,rfl⟩:=FrC.fv hs;have q2:SmQ 200 (2:Rat):=ek (two_qb.le dc_);refine Fn.it kr_ Tryz.func143 18 fun w0=>?_;refine G.rg fun R hR=>?_;refine D.aD (fun b4=>?_);refine D.aD (fun b5=>?_);refine D.aD (fun b6=>?_);refine D.aD (fun b7=>?_);refine D.ai (fun b8=>?_);refine D.e5 4 5 6 7 8 hR ?_;clear hR R;refine G.freeze 4 Z (fun _ _ hb4=>?_);refine G.freeze 3 Z (fun _ _ hb5=>?_);refine G.freeze 2 Z (fun _ _ hb6=>?_);refine G.freeze 1 Z (fun _ _ hb7=>?_);refine G.cB [1,2,4,5] [9] [(0,[]),(3,[]),(6,[]),(7,[3,6]),(8,[0,7])] [(0,[]),(3,[]),(6,[]),(7,[3,6]),(8,[0,7])] [] Z kr_ (fun R hB hS=>?_);refine D.aa (bkT hb4 3) ?_;refine D.aa (bkT hb5 3) ?_;refine D.aa (bkT hb6 3) ?_;refine D.aa (bkT hb7 3) ?_;refine hS [] (fun iq vq Cz=>(bn [(0,frS 2),(3,frS (p*q)),(6,frS (r*s)),(7,frS (p*q+r*s)),(8,frS (2*(p*q+r*s)))] iq).1 vq Cz) kr_ (fun iq vq Cz Cy hl h=>(bn _ iq).2 vq Cz Cy hl h) Z ⟨?_, ?_, ?_, ?_, ?_,trivial⟩ trivial (fun R2 hB2 hR Cq hleq=>?_)
 ·intro Rq Cq Lq hleq fin;refine D.au (mP _ hT.m_ 2 dc_) U7 fl_ (fun v9 _ _ hq9=>?_);exact fin _ _ _ mup (fun d hd=>by cases hd;rfl) hq9
 ·intro Rq Cq Lq hleq fin;refine D.au (fu (FrC.m_ hp) (FrC.m_ hq) qp qq dc_) U7 fl_ (fun v12 _ _ hq12=>?_);exact fin _ _ _ mup (fun d hd=>by cases hd;rfl) hq12
 ·intro Rq Cq Lq hleq fin;refine D.au (fu (FrC.m_ hr) (FrC.m_ hs) qr qs dc_) U7 fl_ (fun v15 _ _ hq15=>?_);exact fin _ _ _ mup (fun d hd=>by cases hd;rfl) hq15
 ·intro Rq Cq Lq hleq v12 hq12 v15 hq15 fin;refine D.au (eD hq12 hq15 (qp.mul qq) (qr.mul qs) dc_) U7 fl_ (fun v16 _ _ hq16=>?_);exact fin _ _ _ mup (fun d hd=>by cases hd;rfl) hq16
 ·intro Rq Cq Lq hleq v9 hq9 v16 hq16 fin;refine D.au (fu hq9 hq16 q2 ((qp.mul qq).add (qr.mul qs)) dc_) U7 fl_ (fun v17 _ _ hq17=>?_);exact fin _ _ _ mup (fun d hd=>by cases hd;rfl) hq17
 intro v9 hq9 v12 hq12 v15 hq15 v16 hq16 v17 hq17;obtain ⟨x,rfl⟩:=FrC.fv hq17;refine D.ae (j:=0) ?_;refine D.e1 8 hR ?_;clear hR R2 hS hB2 hB R;refine G.aB (G.aR (.head _) U4 ?_);exact ⟨Z,hq17⟩
def IG (a b c d:Int):V3:=((a:Rat)*a+(b:Rat)*b-((c:Rat)*c+(d:Rat)*d),2*((b:Rat)*c+(a:Rat)*d),2*((b:Rat)*d + -(a:Rat)*c))
def IF (a b c d:Int):V3:=(2*((b:Rat)*c + -(a:Rat)*d),(a:Rat)*a+(c:Rat)*c-((b:Rat)*b+(d:Rat)*d),2*((c:Rat)*d+(a:Rat)*b))
def IE (a b c d:Int):V3:=(2*((b:Rat)*d+(a:Rat)*c),2*((c:Rat)*d + -(a:Rat)*b),(a:Rat)*a+(d:Rat)*d-((b:Rat)*b+(c:Rat)*c))
def V3s (C:Mem)(x y z:FV)(p:V3):Prop:=FrC C (.agg ⟨x.enc⟩) p.1/\FrC C (.agg ⟨y.enc⟩) p.2.1/\FrC C (.agg ⟨z.enc⟩) p.2.2
theorem V3s.mono {C D:Mem}{x y z:FV}{p:V3}(h:V3s C x y z p)(hl:C.le D):V3s D x y z p:=⟨FrC.mono h.1 hl,FrC.mono h.2.1 hl,FrC.mono h.2.2 hl⟩
theorem V3s.m_ {C D:Mem}{x y z:FV}{p:V3}(h:V3s C x y z p)(hl:C.le D:=by exact mup):V3s D x y z p:=V3s.mono h hl
def McC (C:Mem)(v:Value)(p q r:V3):Prop:=∃ x1 y1 z1 x2 y2 z2 x3 y3 z3:FV,v=.agg ⟨(x1.enc++(y1.enc++z1.enc))++((x2.enc++(y2.enc++z2.enc))++(x3.enc++(y3.enc++z3.enc)))⟩/\V3s C x1 y1 z1 p/\V3s C x2 y2 z2 q/\V3s C x3 y3 z3 r
theorem McC.mono {C D:Mem}{v:Value}{p q r:V3}(h:McC C v p q r)(hl:C.le D):McC D v p q r:=by
 obtain ⟨x1,y1,z1,x2,y2,z2,x3,y3,z3,h0,h1,h2,h3⟩:=h;exact ⟨x1,y1,z1,x2,y2,z2,x3,y3,z3,h0,h1.mono hl,h2.mono hl,h3.mono hl⟩
theorem McC.m_ {C D:Mem}{v:Value}{p q r:V3}(h:McC C v p q r)(hl:C.le D:=by exact mup):McC D v p q r:=McC.mono h hl
def mcS (p q r:V3):SPc:=⟨fun v C=>McC C v p q r,fun _ _ _ hl h=>h.mono hl⟩
def fzV:List Value:=fzC++(fzC++fzC)
theorem qs {a b:Int}(ha:SmQ 200 (a:Rat))(hb:SmQ 200 (b:Rat)):SmQ 801 ((a:Rat)*a+(b:Rat)*b):=by
 have h:=(ha.mul ha).add (hb.mul hb);exact h.le dc_
theorem qss {a b c d:Int}(ha:SmQ 200 (a:Rat))(hb:SmQ 200 (b:Rat))(hc:SmQ 200 (c:Rat))(hd:SmQ 200 (d:Rat)):SmQ 1603 ((a:Rat)*a+(b:Rat)*b-((c:Rat)*c+(d:Rat)*d)):=by
 have h:=(qs ha hb).sub (qs hc hd);exact h.le dc_
theorem qn {q:Rat}(h:SmQ 200 q):SmQ 200 (-q):=⟨by rw [Nm,MN];exact h.1,by rw [Rat.neg_den];exact h.2⟩
theorem qt {p q r s:Rat}(hp:SmQ 200 p)(hq:SmQ 200 q)(hr:SmQ 200 r)(hs:SmQ 200 s):SmQ 1603 (2*(p*q+r*s)):=by
 have h2:SmQ 200 (2:Rat):=ek (two_qb.le dc_);have h3:=h2.mul ((hp.mul hq).add (hr.mul hs));exact h3.le dc_
theorem Sm3.dot {j k:Nat}{a b:V3}(ha:Sm3 j a)(hb:Sm3 k b):SmQ ((j+k)*3+2) (ce a b):=(((ha.1.mul hb.1).add (ha.2.1.mul hb.2.1)).add (ha.2.2.mul hb.2.2)).le om_
theorem H2 (a b c d:Int)(v:V3):(rI (-(a:Rat)) ((b:Rat),(c:Rat),(d:Rat)) v).1=ce (IG a b c d) v / ((a:Rat)*a+b*b+c*c+d*d)/\(rI (-(a:Rat)) ((b:Rat),(c:Rat),(d:Rat)) v).2.1=ce (IF a b c d) v / ((a:Rat)*a+b*b+c*c+d*d) /\
  (rI (-(a:Rat)) ((b:Rat),(c:Rat),(d:Rat)) v).2.2=ce (IE a b c d) v / ((a:Rat)*a+b*b+c*c+d*d):=⟨IW _ _ _ _ v,IV _ _ _ _ v,IU _ _ _ _ v⟩
theorem Fm (C:Mem)(hT:Tabs C)(a b c d:Int)(hza:a.natAbs<=9)(hzb:b.natAbs<=9)(hzc:c.natAbs<=9)(hzd:d.natAbs<=9)(ct:V3)(hct:Q3 1 ct)(vp:Value)(p:V3)(hp:VcC C vp p)(sp:Sm3 200 p)(hne:(a:Rat)*a+b*b+c*c+d*d≠0) :
  Pur cx.P 77 [.agg ⟨[.int .i64 a,.int .i64 b,.int .i64 c,.int .i64 d,aA (qtx ct.1),aA (qtx ct.2.1),aA (qtx ct.2.2)]⟩,vp] C fun u D=>VcC D u (add3 (rI (-(a:Rat)) ((b:Rat),(c:Rat),(d:Rat)) (add3 p (kC ct (-1)))) ct):=by
 obtain ⟨xp,yp,zp,rfl,hp1,hp2,hp3⟩:=hp;have qa:SmQ 200 (a:Rat):=ek ((eY hza).le dc_);have qb:SmQ 200 (b:Rat):=ek ((eY hzb).le dc_);have qc:SmQ 200 (c:Rat):=ek ((eY hzc).le dc_);have qd:SmQ 200 (d:Rat):=ek ((eY hzd).le dc_);have sct:=(hct.le (show 1<=22 by decide)).sm;have s1:SmQ 200 (-1:Rat):=ek (m1_qb.le dc_);obtain ⟨v,hv⟩:∃ v,add3 p (kC ct (-1))=v:=⟨_,rfl⟩;have sv:Sm3 601 v:=by rw [<- hv];exact ⟨(sp.1.add (sct.1.mul s1)).le dc_,(sp.2.1.add (sct.2.1.mul s1)).le dc_,(sp.2.2.add (sct.2.2.mul s1)).le dc_⟩
 have sall:SmQ 1603 ((a:Rat)*a+b*b+c*c+d*d):=by
  have h:=(((qa.mul qa).add (qb.mul qb)).add (qc.mul qc)).add (qd.mul qd);exact h.le dc_
 have sc1:Sm3 1603 (IG a b c d):=⟨qss qa qb qc qd,qt qb qc qa qd,qt qb qd (qn qa) qc⟩;have sc2:Sm3 1603 (IF a b c d):=⟨qt qb qc (qn qa) qd,qss qa qc qb qd,qt qc qd qa qb⟩;have sc3:Sm3 1603 (IE a b c d):=⟨qt qb qd qa qc,qt qc qd (qn qa) qb,qss qa qd qb qc⟩;obtain ⟨ex,ey,ez⟩:=H2 a b c d v;refine Fn.it kr_ Tryz.func77 142 fun w0=>?_;refine G.rg fun R hR=>?_;refine D.aD (fun b2=>?_);refine D.aD (fun b3=>?_);refine D.ai (fun b4=>?_);refine D.e3 2 3 4 hR ?_;clear hR R;refine G.freeze 2 Z (fun _ _ hb2=>?_);refine G.freeze 1 Z (fun _ _ hb3=>?_);refine G.cB [0,1,2,4,5,6,8,9,10,12,13,14] [] [(3,[]),(7,[]),(11,[]),(15,[]),(16,[]),(17,[]),(18,[]),(19,[]),(20,[16,3]),(21,[17,7]),(22,[18,11]),(23,[19,15])] [(3,[]),(7,[]),(11,[]),(15,[])] [(2,0),(6,0),(10,0),(14,0)] Z kr_ (fun R hB hS=>?_);refine D.ac ?_;refine D.aE (0) U9 (fun _=>⟨by decide,by decide,Z⟩) U2 ?_;refine D.am (fun _=>((bkT hb2 1).mono hB)) ?_;refine D.ac ?_;refine D.aE (1) U9 (fun _=>⟨by decide,by decide,Z⟩) U2 ?_;refine D.am (fun _=>((bkT hb2 1).mono hB)) ?_;refine D.ac ?_;refine D.aE (2) U9 (fun _=>⟨by decide,by decide,Z⟩) U2 ?_;refine D.am (fun _=>((bkT hb2 1).mono hB)) ?_;refine D.ac ?_;refine D.aE (3) U9 (fun _=>⟨by decide,by decide,Z⟩) U2 ?_;refine D.am (fun _=>((bkT hb2 1).mono hB)) ?_;refine hS [⟨16,20,3,111,[.bool false,.slice none 0 0,.slice none 0 0]⟩,⟨17,21,7,111,[.bool false,.slice none 0 0,.slice none 0 0]⟩,⟨18,22,11,111,[.bool false,.slice none 0 0,.slice none 0 0]⟩,⟨19,23,15,111,[.bool false,.slice none 0 0,.slice none 0 0]⟩] (fun iq vq Cz=>(bn [(3,frS (a:Rat)),(7,frS (b:Rat)),(11,frS (c:Rat)),(15,frS (d:Rat))] iq).1 vq Cz) kr_ (fun iq vq Cz Cy hl h=>(bn _ iq).2 vq Cz Cy hl h) Z ⟨?_, ?_, ?_, ?_,trivial⟩ ⟨?_, ?_, ?_, ?_, ?_, ?_, ?_, ?_,trivial⟩ (fun R2 hB2 hR Cq hleq=>?_)
 ·intro Rq Cq Lq hleq fin;refine D.az (mP _ hT.m_ a hza) (fun v21 _ _ hq21=>?_);exact fin _ _ _ mup (fun d hd=>by cases hd;rfl) hq21
 ·intro Rq Cq Lq hleq fin;refine D.az (mP _ hT.m_ b hzb) (fun v25 _ _ hq25=>?_);exact fin _ _ _ mup (fun d hd=>by cases hd;rfl) hq25
 ·intro Rq Cq Lq hleq fin;refine D.az (mP _ hT.m_ c hzc) (fun v29 _ _ hq29=>?_);exact fin _ _ _ mup (fun d hd=>by cases hd;rfl) hq29
 ·intro Rq Cq Lq hleq fin;refine D.az (mP _ hT.m_ d hzd) (fun v33 _ _ hq33=>?_);exact fin _ _ _ mup (fun d hd=>by cases hd;rfl) hq33
 ·intro Rq Cq Lq hleq fin;refine D.ai (fun bq=>?_);exact fin _ bq (fun d hd=>by cases hd;rfl)
 ·intro Rq Cq Lq bq v21 hleq hq21 fin;obtain ⟨x,rfl⟩:=FrC.fv hq21;refine D.ae (j:=0) ?_;exact fin _
 ·intro Rq Cq Lq hleq fin;refine D.ai (fun bq=>?_);exact fin _ bq (fun d hd=>by cases hd;rfl)
 ·intro Rq Cq Lq bq v25 hleq hq25 fin;obtain ⟨x,rfl⟩:=FrC.fv hq25;refine D.ae (j:=0) ?_;exact fin _
 ·intro Rq Cq Lq hleq fin;refine D.ai (fun bq=>?_);exact fin _ bq (fun d hd=>by cases hd;rfl)
 ·intro Rq Cq Lq bq v29 hleq hq29 fin;obtain ⟨x,rfl⟩:=FrC.fv hq29;refine D.ae (j:=0) ?_;exact fin _
 ·intro Rq Cq Lq hleq fin;refine D.ai (fun bq=>?_);exact fin _ bq (fun d hd=>by cases hd;rfl)
 ·intro Rq Cq Lq bq v33 hleq hq33 fin;obtain ⟨x,rfl⟩:=FrC.fv hq33;refine D.ae (j:=0) ?_;exact fin _
 intro v21 hq21 v25 hq25 v29 hq29 v33 hq33 v5 hq5 v6 hq6 v7 hq7 v8 hq8 _ _ _ _ _ _ _ _;obtain ⟨b5,rfl⟩:=hq5;obtain ⟨b6,rfl⟩:=hq6;obtain ⟨b7,rfl⟩:=hq7;obtain ⟨b8,rfl⟩:=hq8;obtain ⟨xa,rfl⟩:=FrC.fv hq21;obtain ⟨xb,rfl⟩:=FrC.fv hq25;obtain ⟨xc,rfl⟩:=FrC.fv hq29;obtain ⟨xd,rfl⟩:=FrC.fv hq33;have ha:FrC _ (.agg ⟨xa.enc⟩) (a:Rat):=hq21;have hb:FrC _ (.agg ⟨xb.enc⟩) (b:Rat):=hq25;have hc:FrC _ (.agg ⟨xc.enc⟩) (c:Rat):=hq29;have hd:FrC _ (.agg ⟨xd.enc⟩) (d:Rat):=hq33;refine D.e7 2 3 4 5 6 7 8 hR ?_;clear hR R2 hS hB2 hB R;refine G.be (L':=[.obj b5 (.cells ⟨xa.enc⟩ 111 (0,0)),.obj b6 (.cells ⟨xb.enc⟩ 111 (0,0)),.obj b7 (.cells ⟨xc.enc⟩ 111 (0,0)),.obj b8 (.cells ⟨xd.enc⟩ 111 (0,0)),.obj b4 (.cells ⟨fzV⟩ 113 (0,0))]) Z ?_;refine G.freeze 0 Z (fun _ _ hb5=>?_);refine G.freeze 0 Z (fun _ _ hb6=>?_);refine G.freeze 0 Z (fun _ _ hb7=>?_);refine G.freeze 0 Z (fun _ _ hb8=>?_);refine G.rp 1 fun R hR=>?_;refine D.aa (bkT hb2 3) ?_;refine D.au (dH _ hT.m_ ct (hct.le dc_)) U7 fl_ (fun v36 _ _ hq36=>?_);obtain ⟨xt,yt,zt,rfl,ht1,ht2,ht3⟩:=hq36;refine D.ai (fun b9=>?_);refine D.ae (j:=0) ?_;refine D.e7 3 4 5 6 7 8 9 hR ?_;clear hR R;refine G.freeze 0 Z (fun _ _ hb9=>?_);refine G.cB [0,2] [] [(1,[]),(3,[1]),(4,[]),(5,[4,3])] [(1,[]),(3,[1])] [(0,0),(2,0)] Z kr_ (fun R hB hS=>?_);refine D.am (fun _=>((bkT hb3 9).mono hB)) ?_;refine D.am (fun _=>((bkT hb9 9).mono hB)) ?_;refine hS [⟨4,5,3,113,[.bool false,.slice none 0 0,.slice none 0 0,.bool false,.slice none 0 0,.slice none 0 0,.bool false,.slice none 0 0,.slice none 0 0]⟩] (fun iq vq Cz=>(bn [(1,frS (-1)),(3,vcS (add3 p (kC ct (-1))))] iq).1 vq Cz) kr_ (fun iq vq Cz Cy hl h=>(bn _ iq).2 vq Cz Cy hl h) Z ⟨?_, ?_,trivial⟩ ⟨?_, ?_,trivial⟩ (fun R2 hB2 hR Cq hleq=>?_)
 ·intro Rq Cq Lq hleq fin;refine D.au (mP _ hT.m_ (-1) dc_) U7 fl_ (fun v38 _ _ hq38=>?_);exact fin _ _ _ mup (fun d hd=>by cases hd;rfl) hq38
 ·intro Rq Cq Lq hleq v38 hq38 fin;refine D.au (ri _ _ _ _ p ct (-1) 200 200 200 ⟨xp,yp,zp,Z,FrC.mono hp1 mup,FrC.mono hp2 mup,FrC.mono hp3 mup⟩ hq38 ⟨xt,yt,zt,Z,FrC.mono ht1 mup,FrC.mono ht2 mup,FrC.mono ht3 mup⟩ sp s1 sct dc_) U7 fl_ (fun v40 _ _ hq40=>?_);exact fin _ _ _ mup (fun d hd=>by cases hd;rfl) hq40
 ·intro Rq Cq Lq hleq fin;refine D.ai (fun bq=>?_);exact fin _ bq (fun d hd=>by cases hd;rfl)
 ·intro Rq Cq Lq bq v40 hleq hq40 fin;obtain ⟨x,y,z,rfl,_⟩:=hq40;refine D.ae (j:=0) ?_;exact fin _
 intro v38 hq38 v40 hq40 v10 hq10 _ _;obtain ⟨b10,rfl⟩:=hq10;have hq40v:VcC Cq v40 v:=by rw [<- hv];exact hq40
 obtain ⟨xv,yv,zv,rfl,hv1,hv2,hv3⟩:=hq40v;refine D.e7 4 5 6 7 8 9 10 hR ?_;clear hR R2 hS hB2 hB R;refine G.be (L':=[.obj b10 (.cells ⟨xv.enc++(yv.enc++zv.enc)⟩ 113 (0,0)),.obj b4 (.cells ⟨fzV⟩ 113 (0,0))]) Z ?_;refine G.freeze 0 Z (fun _ _ hb10=>?_);refine G.z8 1 4 5 6 7 8 9 10 11 ?_;refine G.z9 1 4 5 6 7 8 9 10 11 12 ?_;refine G.rp 1 fun R hR=>?_;refine D.aa (bkT hb5 3) ?_;refine D.aa (bkT hb6 3) ?_;refine D.aa (bkT hb7 3) ?_;refine D.aa (bkT hb8 3) ?_;refine D.ah ([xa,xb,xc,xd].map FV.enc) (fun p46 _ _ hs46=>?_);refine D.au (GA _ hT.m_ _ [(a:Rat),b,c,d] 200 ⟨_,hs46.mono mup,Jf (FrC.m_ ha) (FrC.m_ hb) (FrC.m_ hc) (FrC.m_ hd)⟩ (all4 qa qb qc qd) (by show 401*5<=900000;decide)) U7 fl_ (fun v47 _ _ hq47=>?_);rw [JL] at hq47;obtain ⟨xl,rfl⟩:=FrC.fv hq47;refine D.ai (fun b13=>?_);refine D.ae (j:=0) ?_;refine D.vv 4 5 6 7 8 9 10 11 12 13 hR ?_;clear hR R;refine G.freeze 0 Z (fun _ _ hb13=>?_);refine G.cB [0,1,2,5,6,7,11,12,13,14,15,17,18,19,20,22,25,26,27,28,30,32,33,34,37,38,39,43,44,45,46,47,50,51,52,53,54,56,57,58,59,61,63,64,65,68,69,70] [] [(3,[]),(4,[3]),(8,[]),(9,[8]),(10,[4,9]),(16,[]),(21,[]),(23,[21]),(24,[10,16,23]),(29,[]),(31,[29]),(35,[]),(36,[35]),(40,[]),(41,[40]),(42,[36,41]),(48,[]),(49,[31,42,48]),(55,[]),(60,[]),(62,[60]),(66,[]),(67,[66]),(71,[]),(72,[71]),(73,[67,72]),(74,[55,62,73]),(75,[24,49,74]),(76,[]),(77,[76,75])] [(3,[]),(4,[3]),(8,[]),(9,[8]),(10,[4,9]),(16,[]),(21,[]),(23,[21]),(24,[10,16,23]),(29,[]),(31,[29]),(35,[]),(36,[35]),(40,[]),(41,[40]),(42,[36,41]),(48,[]),(49,[31,42,48]),(55,[]),(60,[]),(62,[60]),(66,[]),(67,[66]),(71,[]),(72,[71]),(73,[67,72]),(74,[55,62,73]),(75,[24,49,74])] [(1,0),(2,0),(6,0),(7,0),(12,0),(13,0),(14,0),(15,0),(18,0),(19,0),(20,0),(22,0),(26,0),(27,0),(28,0),(30,0),(33,0),(34,0),(38,0),(39,0),(44,0),(45,0),(46,0),(47,0),(51,0),(52,0),(53,0),(54,0),(57,0),(58,0),(59,0),(61,0),(64,0),(65,0),(69,0),(70,0)] Z kr_ (fun R hB hS=>?_);refine D.ac ?_;refine D.am (fun _=>((bkT hb5 3).mono hB)) ?_;refine D.am (fun _=>((bkT hb6 3).mono hB)) ?_;refine D.ac ?_;refine D.am (fun _=>((bkT hb7 3).mono hB)) ?_;refine D.am (fun _=>((bkT hb8 3).mono hB)) ?_;refine D.ac ?_;refine D.am (fun _=>((bkT hb6 3).mono hB)) ?_;refine D.am (fun _=>((bkT hb7 3).mono hB)) ?_;refine D.am (fun _=>((bkT hb5 3).mono hB)) ?_;refine D.am (fun _=>((bkT hb8 3).mono hB)) ?_;refine D.ac ?_;refine D.am (fun _=>((bkT hb6 3).mono hB)) ?_;refine D.am (fun _=>((bkT hb8 3).mono hB)) ?_;refine D.am (fun _=>((bkT hb5 3).mono hB)) ?_;refine D.am (fun _=>((bkT hb7 3).mono hB)) ?_;refine D.ac ?_;refine D.am (fun _=>((bkT hb6 3).mono hB)) ?_;refine D.am (fun _=>((bkT hb7 3).mono hB)) ?_;refine D.am (fun _=>((bkT hb5 3).mono hB)) ?_;refine D.am (fun _=>((bkT hb8 3).mono hB)) ?_;refine D.ac ?_;refine D.am (fun _=>((bkT hb5 3).mono hB)) ?_;refine D.am (fun _=>((bkT hb7 3).mono hB)) ?_;refine D.ac ?_;refine D.am (fun _=>((bkT hb6 3).mono hB)) ?_;refine D.am (fun _=>((bkT hb8 3).mono hB)) ?_;refine D.ac ?_;refine D.am (fun _=>((bkT hb7 3).mono hB)) ?_;refine D.am (fun _=>((bkT hb8 3).mono hB)) ?_;refine D.am (fun _=>((bkT hb5 3).mono hB)) ?_;refine D.am (fun _=>((bkT hb6 3).mono hB)) ?_;refine D.ac ?_;refine D.am (fun _=>((bkT hb6 3).mono hB)) ?_;refine D.am (fun _=>((bkT hb8 3).mono hB)) ?_;refine D.am (fun _=>((bkT hb5 3).mono hB)) ?_;refine D.am (fun _=>((bkT hb7 3).mono hB)) ?_;refine D.ac ?_;refine D.am (fun _=>((bkT hb7 3).mono hB)) ?_;refine D.am (fun _=>((bkT hb8 3).mono hB)) ?_;refine D.am (fun _=>((bkT hb5 3).mono hB)) ?_;refine D.am (fun _=>((bkT hb6 3).mono hB)) ?_;refine D.ac ?_;refine D.am (fun _=>((bkT hb5 3).mono hB)) ?_;refine D.am (fun _=>((bkT hb8 3).mono hB)) ?_;refine D.ac ?_;refine D.am (fun _=>((bkT hb6 3).mono hB)) ?_;refine D.am (fun _=>((bkT hb7 3).mono hB)) ?_;refine hS [⟨76,77,75,281,[.bool false,.slice none 0 0,.slice none 0 0,.bool false,.slice none 0 0,.slice none 0 0,.bool false,.slice none 0 0,.slice none 0 0,.bool false,.slice none 0 0,.slice none 0 0,.bool false,.slice none 0 0,.slice none 0 0,.bool false,.slice none 0 0,.slice none 0 0,.bool false,.slice none 0 0,.slice none 0 0,.bool false,.slice none 0 0,.slice none 0 0,.bool false,.slice none 0 0,.slice none 0 0]⟩] (fun iq vq Cz=>(bn [(3,flS [(a:Rat),(b:Rat)]),(4,frS ((a:Rat)*(a:Rat)+(b:Rat)*(b:Rat))),(8,flS [(c:Rat),(d:Rat)]),(9,frS ((c:Rat)*(c:Rat)+(d:Rat)*(d:Rat))),(10,frS ((a:Rat)*(a:Rat)+(b:Rat)*(b:Rat)-((c:Rat)*(c:Rat)+(d:Rat)*(d:Rat)))),(16,frS (2*((b:Rat)*(c:Rat)+(a:Rat)*(d:Rat)))),(21,frS (-(a:Rat))),(23,frS (2*((b:Rat)*(d:Rat) + -(a:Rat)*(c:Rat)))),(24,vcS (IG a b c d)),(29,frS (-(a:Rat))),(31,frS (2*((b:Rat)*(c:Rat) + -(a:Rat)*(d:Rat)))),(35,flS [(a:Rat),(c:Rat)]),(36,frS ((a:Rat)*(a:Rat)+(c:Rat)*(c:Rat))),(40,flS [(b:Rat),(d:Rat)]),(41,frS ((b:Rat)*(b:Rat)+(d:Rat)*(d:Rat))),(42,frS ((a:Rat)*(a:Rat)+(c:Rat)*(c:Rat)-((b:Rat)*(b:Rat)+(d:Rat)*(d:Rat)))),(48,frS (2*((c:Rat)*(d:Rat)+(a:Rat)*(b:Rat)))),(49,vcS (IF a b c d)),(55,frS (2*((b:Rat)*(d:Rat)+(a:Rat)*(c:Rat)))),(60,frS (-(a:Rat))),(62,frS (2*((c:Rat)*(d:Rat) + -(a:Rat)*(b:Rat)))),(66,flS [(a:Rat),(d:Rat)]),(67,frS ((a:Rat)*(a:Rat)+(d:Rat)*(d:Rat))),(71,flS [(b:Rat),(c:Rat)]),(72,frS ((b:Rat)*(b:Rat)+(c:Rat)*(c:Rat))),(73,frS ((a:Rat)*(a:Rat)+(d:Rat)*(d:Rat)-((b:Rat)*(b:Rat)+(c:Rat)*(c:Rat)))),(74,vcS (IE a b c d)),(75,mcS (IG a b c d) (IF a b c d) (IE a b c d))] iq).1 vq Cz) kr_ (fun iq vq Cz Cy hl h=>(bn _ iq).2 vq Cz Cy hl h) Z ⟨?_, ?_, ?_, ?_, ?_, ?_, ?_, ?_, ?_, ?_, ?_, ?_, ?_, ?_, ?_, ?_, ?_, ?_, ?_, ?_, ?_, ?_, ?_, ?_, ?_, ?_, ?_, ?_,trivial⟩ ⟨?_, ?_,trivial⟩ (fun R2 hB2 hR Cq hleq=>?_)
 ·intro Rq Cq Lq hleq fin;refine D.ah ([xa,xb].map FV.enc) (fun p51 _ _ hs51=>?_);exact fin _ _ _ mup (fun d hd=>by cases hd;rfl) ⟨_,hs51,oN (FrC.m_ ha) (FrC.m_ hb)⟩
 ·intro Rq Cq Lq hleq v51 hq51 fin;refine D.az (kX _ hT.m_ _ a b hq51 qa qb) (fun v52 _ _ hq52=>?_);exact fin _ _ _ mup (fun d hd=>by cases hd;rfl) hq52
 ·intro Rq Cq Lq hleq fin;refine D.ah ([xc,xd].map FV.enc) (fun p56 _ _ hs56=>?_);exact fin _ _ _ mup (fun d hd=>by cases hd;rfl) ⟨_,hs56,oN (FrC.m_ hc) (FrC.m_ hd)⟩
 ·intro Rq Cq Lq hleq v56 hq56 fin;refine D.az (kX _ hT.m_ _ c d hq56 qc qd) (fun v57 _ _ hq57=>?_);exact fin _ _ _ mup (fun d hd=>by cases hd;rfl) hq57
 ·intro Rq Cq Lq hleq v52 hq52 v57 hq57 fin;refine D.au (d7 hq52 hq57 (qs qa qb) (qs qc qd) dc_) U7 fl_ (fun v58 _ _ hq58=>?_);exact fin _ _ _ mup (fun d hd=>by cases hd;rfl) hq58
 ·intro Rq Cq Lq hleq fin;refine D.az (pq _ hT.m_ _ _ _ _ (b:Rat) (c:Rat) ((a:Rat)) (d:Rat) (FrC.m_ hb) (FrC.m_ hc) (FrC.m_ ha) (FrC.m_ hd) qb qc qa qd) (fun v64 _ _ hq64=>?_);exact fin _ _ _ mup (fun d hd=>by cases hd;rfl) hq64
 ·intro Rq Cq Lq hleq fin;refine D.az (sJ (FrC.m_ ha)) (fun v69 _ _ hq69=>?_);exact fin _ _ _ mup (fun d hd=>by cases hd;rfl) hq69
 ·intro Rq Cq Lq hleq v69 hq69 fin;refine D.az (pq _ hT.m_ _ _ _ _ (b:Rat) (d:Rat) (-(a:Rat)) (c:Rat) (FrC.m_ hb) (FrC.m_ hd) hq69 (FrC.m_ hc) qb qd (qn qa) qc) (fun v71 _ _ hq71=>?_);exact fin _ _ _ mup (fun d hd=>by cases hd;rfl) hq71
 ·intro Rq Cq Lq hleq v58 hq58 v64 hq64 v71 hq71 fin;obtain ⟨x1,rfl⟩:=FrC.fv hq58;obtain ⟨x2,rfl⟩:=FrC.fv hq64;obtain ⟨x3,rfl⟩:=FrC.fv hq71;refine D.ap (x1.enc++(x2.enc++x3.enc)) ?_;exact fin _ _ _ mup (fun d hd=>by cases hd;rfl) ⟨x1,x2,x3,Z,hq58,hq64,hq71⟩
 ·intro Rq Cq Lq hleq fin;refine D.az (sJ (FrC.m_ ha)) (fun v77 _ _ hq77=>?_);exact fin _ _ _ mup (fun d hd=>by cases hd;rfl) hq77
 ·intro Rq Cq Lq hleq v77 hq77 fin;refine D.az (pq _ hT.m_ _ _ _ _ (b:Rat) (c:Rat) (-(a:Rat)) (d:Rat) (FrC.m_ hb) (FrC.m_ hc) hq77 (FrC.m_ hd) qb qc (qn qa) qd) (fun v79 _ _ hq79=>?_);exact fin _ _ _ mup (fun d hd=>by cases hd;rfl) hq79
 ·intro Rq Cq Lq hleq fin;refine D.ah ([xa,xc].map FV.enc) (fun p83 _ _ hs83=>?_);exact fin _ _ _ mup (fun d hd=>by cases hd;rfl) ⟨_,hs83,oN (FrC.m_ ha) (FrC.m_ hc)⟩
 ·intro Rq Cq Lq hleq v83 hq83 fin;refine D.az (kX _ hT.m_ _ a c hq83 qa qc) (fun v84 _ _ hq84=>?_);exact fin _ _ _ mup (fun d hd=>by cases hd;rfl) hq84
 ·intro Rq Cq Lq hleq fin;refine D.ah ([xb,xd].map FV.enc) (fun p88 _ _ hs88=>?_);exact fin _ _ _ mup (fun d hd=>by cases hd;rfl) ⟨_,hs88,oN (FrC.m_ hb) (FrC.m_ hd)⟩
 ·intro Rq Cq Lq hleq v88 hq88 fin;refine D.az (kX _ hT.m_ _ b d hq88 qb qd) (fun v89 _ _ hq89=>?_);exact fin _ _ _ mup (fun d hd=>by cases hd;rfl) hq89
 ·intro Rq Cq Lq hleq v84 hq84 v89 hq89 fin;refine D.au (d7 hq84 hq89 (qs qa qc) (qs qb qd) dc_) U7 fl_ (fun v90 _ _ hq90=>?_);exact fin _ _ _ mup (fun d hd=>by cases hd;rfl) hq90
 ·intro Rq Cq Lq hleq fin;refine D.az (pq _ hT.m_ _ _ _ _ (c:Rat) (d:Rat) ((a:Rat)) (b:Rat) (FrC.m_ hc) (FrC.m_ hd) (FrC.m_ ha) (FrC.m_ hb) qc qd qa qb) (fun v96 _ _ hq96=>?_);exact fin _ _ _ mup (fun d hd=>by cases hd;rfl) hq96
 ·intro Rq Cq Lq hleq v79 hq79 v90 hq90 v96 hq96 fin;obtain ⟨x1,rfl⟩:=FrC.fv hq79;obtain ⟨x2,rfl⟩:=FrC.fv hq90;obtain ⟨x3,rfl⟩:=FrC.fv hq96;refine D.ap (x1.enc++(x2.enc++x3.enc)) ?_;exact fin _ _ _ mup (fun d hd=>by cases hd;rfl) ⟨x1,x2,x3,Z,hq79,hq90,hq96⟩
 ·intro Rq Cq Lq hleq fin;refine D.az (pq _ hT.m_ _ _ _ _ (b:Rat) (d:Rat) ((a:Rat)) (c:Rat) (FrC.m_ hb) (FrC.m_ hd) (FrC.m_ ha) (FrC.m_ hc) qb qd qa qc) (fun v103 _ _ hq103=>?_);exact fin _ _ _ mup (fun d hd=>by cases hd;rfl) hq103
 ·intro Rq Cq Lq hleq fin;refine D.az (sJ (FrC.m_ ha)) (fun v108 _ _ hq108=>?_);exact fin _ _ _ mup (fun d hd=>by cases hd;rfl) hq108
 ·intro Rq Cq Lq hleq v108 hq108 fin;refine D.az (pq _ hT.m_ _ _ _ _ (c:Rat) (d:Rat) (-(a:Rat)) (b:Rat) (FrC.m_ hc) (FrC.m_ hd) hq108 (FrC.m_ hb) qc qd (qn qa) qb) (fun v110 _ _ hq110=>?_);exact fin _ _ _ mup (fun d hd=>by cases hd;rfl) hq110
 ·intro Rq Cq Lq hleq fin;refine D.ah ([xa,xd].map FV.enc) (fun p114 _ _ hs114=>?_);exact fin _ _ _ mup (fun d hd=>by cases hd;rfl) ⟨_,hs114,oN (FrC.m_ ha) (FrC.m_ hd)⟩
 ·intro Rq Cq Lq hleq v114 hq114 fin;refine D.az (kX _ hT.m_ _ a d hq114 qa qd) (fun v115 _ _ hq115=>?_);exact fin _ _ _ mup (fun d hd=>by cases hd;rfl) hq115
 ·intro Rq Cq Lq hleq fin;refine D.ah ([xb,xc].map FV.enc) (fun p119 _ _ hs119=>?_);exact fin _ _ _ mup (fun d hd=>by cases hd;rfl) ⟨_,hs119,oN (FrC.m_ hb) (FrC.m_ hc)⟩
 ·intro Rq Cq Lq hleq v119 hq119 fin;refine D.az (kX _ hT.m_ _ b c hq119 qb qc) (fun v120 _ _ hq120=>?_);exact fin _ _ _ mup (fun d hd=>by cases hd;rfl) hq120
 ·intro Rq Cq Lq hleq v115 hq115 v120 hq120 fin;refine D.au (d7 hq115 hq120 (qs qa qd) (qs qb qc) dc_) U7 fl_ (fun v121 _ _ hq121=>?_);exact fin _ _ _ mup (fun d hd=>by cases hd;rfl) hq121
 ·intro Rq Cq Lq hleq v103 hq103 v110 hq110 v121 hq121 fin;obtain ⟨x1,rfl⟩:=FrC.fv hq103;obtain ⟨x2,rfl⟩:=FrC.fv hq110;obtain ⟨x3,rfl⟩:=FrC.fv hq121;refine D.ap (x1.enc++(x2.enc++x3.enc)) ?_;exact fin _ _ _ mup (fun d hd=>by cases hd;rfl) ⟨x1,x2,x3,Z,hq103,hq110,hq121⟩
 ·intro Rq Cq Lq hleq v72 hq72 v97 hq97 v122 hq122 fin;obtain ⟨x1,y1,z1,rfl,e1,e2,e3⟩:=hq72;obtain ⟨x2,y2,z2,rfl,e4,e5,e6⟩:=hq97;obtain ⟨x3,y3,z3,rfl,e7,e8,e9⟩:=hq122;refine D.ap ((x1.enc++(y1.enc++z1.enc))++((x2.enc++(y2.enc++z2.enc))++(x3.enc++(y3.enc++z3.enc)))) ?_;exact fin _ _ _ mup (fun d hd=>by cases hd;rfl) ⟨x1,y1,z1,x2,y2,z2,x3,y3,z3,Z,⟨e1,e2,e3⟩,⟨e4,e5,e6⟩,⟨e7,e8,e9⟩⟩
 ·intro Rq Cq Lq hleq fin;refine D.ai (fun bq=>?_);exact fin _ bq (fun d hd=>by cases hd;rfl)
 ·intro Rq Cq Lq bq v123 hleq hq123 fin;obtain ⟨x1,y1,z1,x2,y2,z2,x3,y3,z3,rfl,_⟩:=hq123;refine D.ae (j:=0) ?_;exact fin _
 intro v51 hq51 v52 hq52 v56 hq56 v57 hq57 v58 hq58 v64 hq64 v69 hq69 v71 hq71 v72 hq72 v77 hq77 v79 hq79 v83 hq83 v84 hq84 v88 hq88 v89 hq89 v90 hq90 v96 hq96 v97 hq97 v103 hq103 v108 hq108 v110 hq110 v114 hq114 v115 hq115 v119 hq119 v120 hq120 v121 hq121 v122 hq122 v123 hq123 v14 hq14 _ _;obtain ⟨b14,rfl⟩:=hq14;obtain ⟨x1,y1,z1,x2,y2,z2,x3,y3,z3,rfl,m1,m2,m3⟩:=hq123;refine D.e5 4 9 10 13 14 hR ?_;clear hR R2 hS hB2 hB R;refine G.be (L':=[.obj b14 (.cells ⟨(x1.enc++(y1.enc++z1.enc))++((x2.enc++(y2.enc++z2.enc))++(x3.enc++(y3.enc++z3.enc)))⟩ 281 (0,0)),.obj b4 (.cells ⟨fzV⟩ 113 (0,0))]) Z ?_;refine G.freeze 0 Z (fun _ _ hb14=>?_);refine G.rg fun R hR=>?_;refine D.ai (fun b15=>?_);refine D.e6 4 9 10 13 14 15 hR ?_;clear hR R;refine G.rg fun R hR=>?_;refine D.aa (bkT hb14 27) ?_;refine D.q7 1 4 9 10 13 15 124 125 hR ?_;clear hR R;refine G.loop (fun fr C' L' μ=>∃ (j:Nat)(w0 w1 w2:FV),(j<=3/\(0<j->FrC C' (.agg ⟨w0.enc⟩) (ct.1+ce (IG a b c d) v / ((a:Rat)*a+b*b+c*c+d*d)))/\(1<j->FrC C' (.agg ⟨w1.enc⟩) (ct.2.1+ce (IF a b c d) v / ((a:Rat)*a+b*b+c*c+d*d)))/\(2<j->FrC C' (.agg ⟨w2.enc⟩) (ct.2.2+ce (IE a b c d) v / ((a:Rat)*a+b*b+c*c+d*d))))/\fr=[(4,[],.pointer (some ⟨b4,0,none⟩)),(9,[],.pointer (some ⟨b9,0,none⟩)),(10,[],.pointer (some ⟨b10,0,none⟩)),(13,[],.pointer (some ⟨b13,0,none⟩)),(15,[],.pointer (some ⟨b15,0,none⟩)),(124,[],.agg ⟨(x1.enc++(y1.enc++z1.enc))++((x2.enc++(y2.enc++z2.enc))++(x3.enc++(y3.enc++z3.enc)))⟩),(125,[],.int .i64 j)]/\L'=[.obj b15 (.cells ⟨w0.enc++(w1.enc++w2.enc)⟩ 113 (0,0)),.obj b4 (.cells ⟨fzV⟩ 113 (0,0))]/\μ=3-j) (h_7 4 9 10 13 15 124 125) ⟨0,⟨false,none,0,0,none,0,0⟩,⟨false,none,0,0,none,0,0⟩,⟨false,none,0,0,none,0,0⟩,⟨by decide,by omega,by omega,by omega⟩,Z,Z,Z⟩ (fun fr C0' L0' m _ hI=>?_);obtain ⟨j,w0,w1,w2,⟨hj,hw0,hw1,hw2⟩,rfl,rfl,rfl⟩:=hI;refine G.z8 1 4 9 10 13 15 124 125 126 ?_;refine G.cd (fun h126=>?_) fun h126=>?_
 ·have hjl:j<3:=by have:=bi h126;omega
  rcases (by omega:j=0∨j=1∨j=2) with rfl | rfl | rfl
  ·refine G.rp 1 fun R hR=>?_;refine D.dh (x1.enc++(y1.enc++z1.enc)) U10 (fun _=>⟨by decide,by decide,Z⟩) U2 ?_;refine D.ai (fun b17=>?_);refine D.ac ?_;refine D.ae (j:=0) ?_;refine D.e9 4 9 10 13 15 16 17 124 125 hR ?_;clear hR R;refine G.freeze 0 Z (fun C17 _ hb17=>?_);refine G.aG [0,1,2,3,4,5,7,6,8,9,10,11] [] Z kr_ (fun R hB hR=>?_);refine D.ps 2 ?_;refine D.aE (0) U9 (fun _=>⟨by decide,by decide,Z⟩) U2 ?_;refine D.aa (bkT hb9 3) ?_;refine D.aa (bkT hb17 9) ?_;refine D.aa (bkT hb10 9) ?_;refine D.aa (bkT hb13 3) ?_;refine D.au (rx _ hT.m_ _ _ (IG a b c d) v 1603 601 ⟨x1,y1,z1,Z,FrC.mono m1.1 mup,FrC.mono m1.2.1 mup,FrC.mono m1.2.2 mup⟩ ⟨xv,yv,zv,Z,FrC.mono hv1 mup,FrC.mono hv2 mup,FrC.mono hv3 mup⟩ sc1 sv dc_) U7 fl_ (fun v135 C135 _ hq135=>?_);refine D.au (nA hq135 (FrC.m_ hq47) (sc1.dot sv) sall dc_ hne) U7 fl_ (fun v137 C137 _ hq137=>?_);refine D.au (eD (FrC.m_ ht1) hq137 sct.1 (SmQ.div (sc1.dot sv) sall hne) dc_) U7 fl_ (fun v138 C138 _ hq138=>?_);refine D.aE (0) U9 (fun _=>⟨by decide,by decide,Z⟩) U2 ?_;obtain ⟨xw,rfl⟩:=FrC.fv hq138;refine D.ae (j:=0) ?_;refine D.e7 4 9 10 13 15 124 125 hR ?_;clear hR hB R;refine G.rg fun R hR=>?_;refine D.ar _ ?_;refine D.q7 1 4 9 10 13 15 124 125 hR ?_;clear hR R;refine G.ax (m':=2) om_ mup (h_7 4 9 10 13 15 124 125) ⟨1,xw,w1,w2,⟨by decide,fun _=>hq138.mono mup,by omega,by omega⟩,Z,Z,Z⟩
  ·refine G.rp 1 fun R hR=>?_;refine D.dh (x2.enc++(y2.enc++z2.enc)) U10 (fun _=>⟨by decide,by decide,Z⟩) U2 ?_;refine D.ai (fun b17=>?_);refine D.ac ?_;refine D.ae (j:=0) ?_;refine D.e9 4 9 10 13 15 16 17 124 125 hR ?_;clear hR R;refine G.freeze 0 Z (fun C17 _ hb17=>?_);refine G.aG [0,1,2,3,4,5,7,6,8,9,10,11] [] Z kr_ (fun R hB hR=>?_);refine D.ps 2 ?_;refine D.aE (3) U9 (fun _=>⟨by decide,by decide,Z⟩) U2 ?_;refine D.aa (bkT hb9 3) ?_;refine D.aa (bkT hb17 9) ?_;refine D.aa (bkT hb10 9) ?_;refine D.aa (bkT hb13 3) ?_;refine D.au (rx _ hT.m_ _ _ (IF a b c d) v 1603 601 ⟨x2,y2,z2,Z,FrC.mono m2.1 mup,FrC.mono m2.2.1 mup,FrC.mono m2.2.2 mup⟩ ⟨xv,yv,zv,Z,FrC.mono hv1 mup,FrC.mono hv2 mup,FrC.mono hv3 mup⟩ sc2 sv dc_) U7 fl_ (fun v135 C135 _ hq135=>?_);refine D.au (nA hq135 (FrC.m_ hq47) (sc2.dot sv) sall dc_ hne) U7 fl_ (fun v137 C137 _ hq137=>?_);refine D.au (eD (FrC.m_ ht2) hq137 sct.2.1 (SmQ.div (sc2.dot sv) sall hne) dc_) U7 fl_ (fun v138 C138 _ hq138=>?_);refine D.aE (3) U9 (fun _=>⟨by decide,by decide,Z⟩) U2 ?_;obtain ⟨xw,rfl⟩:=FrC.fv hq138;refine D.ae (j:=0) ?_;refine D.e7 4 9 10 13 15 124 125 hR ?_;clear hR hB R;refine G.rg fun R hR=>?_;refine D.ar _ ?_;refine D.q7 1 4 9 10 13 15 124 125 hR ?_;clear hR R;refine G.ax (m':=1) om_ mup (h_7 4 9 10 13 15 124 125) ⟨2,w0,xw,w2,⟨by decide,fun _=>(hw0 dc_).mono mup,fun _=>hq138.mono mup,by omega⟩,Z,Z,Z⟩
  ·refine G.rp 1 fun R hR=>?_;refine D.dh (x3.enc++(y3.enc++z3.enc)) U10 (fun _=>⟨by decide,by decide,Z⟩) U2 ?_;refine D.ai (fun b17=>?_);refine D.ac ?_;refine D.ae (j:=0) ?_;refine D.e9 4 9 10 13 15 16 17 124 125 hR ?_;clear hR R;refine G.freeze 0 Z (fun C17 _ hb17=>?_);refine G.aG [0,1,2,3,4,5,7,6,8,9,10,11] [] Z kr_ (fun R hB hR=>?_);refine D.ps 2 ?_;refine D.aE (6) U9 (fun _=>⟨by decide,by decide,Z⟩) U2 ?_;refine D.aa (bkT hb9 3) ?_;refine D.aa (bkT hb17 9) ?_;refine D.aa (bkT hb10 9) ?_;refine D.aa (bkT hb13 3) ?_;refine D.au (rx _ hT.m_ _ _ (IE a b c d) v 1603 601 ⟨x3,y3,z3,Z,FrC.mono m3.1 mup,FrC.mono m3.2.1 mup,FrC.mono m3.2.2 mup⟩ ⟨xv,yv,zv,Z,FrC.mono hv1 mup,FrC.mono hv2 mup,FrC.mono hv3 mup⟩ sc3 sv dc_) U7 fl_ (fun v135 C135 _ hq135=>?_);refine D.au (nA hq135 (FrC.m_ hq47) (sc3.dot sv) sall dc_ hne) U7 fl_ (fun v137 C137 _ hq137=>?_);refine D.au (eD (FrC.m_ ht3) hq137 sct.2.2 (SmQ.div (sc3.dot sv) sall hne) dc_) U7 fl_ (fun v138 C138 _ hq138=>?_);refine D.aE (6) U9 (fun _=>⟨by decide,by decide,Z⟩) U2 ?_;obtain ⟨xw,rfl⟩:=FrC.fv hq138;refine D.ae (j:=0) ?_;refine D.e7 4 9 10 13 15 124 125 hR ?_;clear hR hB R;refine G.rg fun R hR=>?_;refine D.ar _ ?_;refine D.q7 1 4 9 10 13 15 124 125 hR ?_;clear hR R;refine G.ax (m':=0) om_ mup (h_7 4 9 10 13 15 124 125) ⟨3,w0,w1,xw,⟨by decide,fun _=>(hw0 dc_).mono mup,fun _=>(hw1 dc_).mono mup,fun _=>hq138.mono mup⟩,Z,Z,Z⟩
 ·have hj3:j=3:=by
   have:=dj h126;omega
  subst hj3;refine G.rg fun R hR=>?_;refine D.af (.head _) ?_;refine D.ae (j:=1) ?_;refine D.e1 4 hR ?_;clear hR R;refine G.aB (G.aR (.head _) U4 ?_);refine ⟨Z,w0,w1,w2,Z, ?_, ?_, ?_⟩
  ·show FrC _ _ ((rI (-(a:Rat)) ((b:Rat),(c:Rat),(d:Rat)) (add3 p (kC ct (-1)))).1+ct.1);rw [hv,ex,Rat.add_comm];exact hw0 dc_
  ·show FrC _ _ ((rI (-(a:Rat)) ((b:Rat),(c:Rat),(d:Rat)) (add3 p (kC ct (-1)))).2.1+ct.2.1);rw [hv,ey,Rat.add_comm];exact hw1 dc_
  ·show FrC _ _ ((rI (-(a:Rat)) ((b:Rat),(c:Rat),(d:Rat)) (add3 p (kC ct (-1)))).2.2+ct.2.2);rw [hv,ez,Rat.add_comm];exact hw2 dc_
end Go.Proofs.YtgfiffppookakaaGreatDoor
namespace Go.Jog
open Go

theorem G.DK {F:Fx}{fr:Fr}{C:Mem}{L:List Ent}{p r b t:Nat}{cs:List Value}{tb:TypeId}{fz:Nat × Nat}{ti:TI}{x v:Value}(hm:Ent.obj b (.cells ⟨cs⟩ tb fz)∈L)(hres:F.fn.results=#[.cell r t,.tmp p])
  (hp:ev fr [] (.tmp p)=some x) (hr:ev fr [] (.tmp r)=some (.pointer (some ⟨b,0,none⟩)))
  (ht:F.cx.T.get t=some ti) (hv:bR ti (cs.take ti.size)=some v) (h:F.post (.tuple #[v,x]) C []) (he:F.ends:=by exact ⟨fun _ _ _ h=>h,rfl⟩):G F [] .ret fr C L:=fun _ a w ha hw=>by
 refine he.kq ?_;have hp':=bd ha (fun p hp=>by cases hp) hp;have hr':=bd ha (fun p hp=>by cases hp) hr;simp only [Act.eval] at hp' hr';refine bodyPost_ret (v:=.tuple #[v,x]) ?_ (ha.defers.trans he.2) ⟨_,C,[],Z,St.dropAll hw,h⟩;have hl:=ed (F:=F) ht (hw.sep.e _ hm) hv;simp only [Le] at hp' hr';simp [results,hres,hp',hr',asAddr,hl]
end Go.Jog
namespace Go.Proofs.YtgfiffppookakaaGreatDoor
open Go Go.Jog
set_option maxRecDepth 100000

theorem uX (C:Mem)(x:FV):Gives cx.P 222 [.agg ⟨x.enc⟩] C (.bool x.b):=by
 refine Fn.it kr_ Tryz.func222 5 fun w0=>?_;refine G.rg fun R hR=>?_;refine D.aD (fun b1=>?_);refine D.q1 1 1 hR ?_;refine G.rp 1 fun R hR=>?_;refine D.af (.head _) ?_;refine D.q1 1 2 hR ?_;refine G.rf ?_;exact ⟨Z,Z⟩
theorem Fs {C:Mem}{v:Value}{ms:List Rat}(h:FrL C v ms):Gives cx.P 83 [v,.func (.func 222) #[] #[]] C (.bool (ms.any fun q=>decide (q.num<0))):=by
 obtain ⟨xs,h1,h2⟩:=h;rw [<- h2.any];exact tw C v xs _ [] (fun x=>x.b) h1 (fun x _ C' _=>uX C' x)
theorem xm (pts:List Pt)(t:Tri)(p:Pt):([arW pts t p 0,arW pts t p 1,arW pts t p 2].any fun q=>decide (q.num<0))=!iA pts p t:=by
 have g:∀ q:Rat,decide (q.num<0)=!decide (0<=q):=fun q=>by
  rw [show (!decide (0<=q))=decide (¬ 0<=q) by rw [decide_not],Lj,<- Of];omega
 unfold iA;simp only [List.any_cons,List.any_nil,g,Bool.or_false,Bool.not_and]
theorem HA {C:Mem}(hT:Tabs C){va vb:Value}{a b c d e f:Rat}(h1:FrL C va [a,b,c])(h2:FrL C vb [d,e,f])(sa:SmQ 1700 a)(sb:SmQ 1700 b)(sc:SmQ 1700 c)(sd:SmQ 200 d)(se:SmQ 200 e)(sf:SmQ 200 f):Pur cx.P 34 [va,vb] C fun u D=>FrC D u (a*d+b*e+c*f):=by
 have h:=mu C hT va vb _ _ 1700 200 h1 h2 (aP 3) (II sa sb sc) (II sd se sf) (by show 1901*4<=900000;decide)
 rwa [show iB [a,b,c] [d,e,f]=a*d+b*e+c*f from Gv (a,b,c) (d,e,f)] at h
def peV (x y:FV):List Value:=x.enc++y.enc
theorem py (C:Mem)(hT:Tabs C)(mv:Value)(pts:List Pt)(tris:List Tri)(hm:MeshIn C mv pts tris)(hG:Good pts tris)(fv:Value)(f:List Rat)(hf:Sl C 1 fv (f.map gK))(hfl:f.length=pts.length/\∀ q∈f,QB 1 q)(vp:Value)(p:V3)(hp:VcC C vp p)(hq3:Q3 2 p) :
  Pur cx.P 141 [mv,fv,vp] C fun u D=>∃ x:FV,u=.tuple #[.agg ⟨x.enc⟩,.bool (tris.find? (iA pts (p.1,p.2.1))).isSome]/\∀ t,tris.find? (iA pts (p.1,p.2.1))=some t->FrC D (.agg ⟨x.enc⟩) (nh pts t f (p.1,p.2.1)):=by
 obtain ⟨v1,v2,rfl,h1,h2⟩:=id hm.ex;obtain ⟨A1,c1,rfl,hq1,hq2,_⟩:=id h1;obtain ⟨A2,c2,rfl,hq4,hq5,_⟩:=id h2;obtain ⟨A4,c4,rfl,hq6,hq7,_⟩:=id hf;obtain ⟨xp,yp,zp,rfl,hp1,hp2,hp3⟩:=hp;have hmx:maxLen<=9223372036854775807:=by simp [maxLen]
 have sp1:SmQ 200 p.1:=ek (hq3.1.le dc_);have sp2:SmQ 200 p.2.1:=ek (hq3.2.1.le dc_);simp only [aH] at h1 h2 hf hq4 hq6 ⊢;refine Fn.it kr_ Tryz.func141 95 fun w0=>?_;refine G.rg fun R hR=>?_;refine D.aD (fun b3=>?_);refine D.aD (fun b5=>?_);refine D.ai (fun b6=>?_);refine D.q4 1 1 3 5 6 hR ?_;clear hR R;refine G.freeze 2 Z (fun _ _ hb3=>?_);refine G.freeze 1 Z (fun _ _ hb5=>?_);refine G.rp 1 fun R hR=>?_;refine D.aa (bkT hb3 1) ?_;refine D.q7 2 1 3 5 6 17 18 19 hR ?_;clear hR R;refine G.loop (fun fr C' L' μ=>∃ (i:Nat),(i<=tris.length/\∀ u∈tris.take i,iA pts (p.1,p.2.1) u=false)/\fr=[(1,[],.slice A4 f.length c4),(3,[],.pointer (some ⟨b3,0,none⟩)),(5,[],.pointer (some ⟨b5,0,none⟩)),(6,[],.pointer (some ⟨b6,0,none⟩)),(17,[],.slice A2 tris.length c2),(18,[],.int .i64 tris.length),(19,[],.int .i64 i)]/\L'=[.obj b6 (.cells ⟨fzC⟩ 111 (0,0))]/\μ=tris.length-i) (h_7 1 3 5 6 17 18 19) ⟨0,⟨ch _,by simp⟩,Z,Z,Z⟩ (fun fr C0' L0' m _ hI=>?_);obtain ⟨i,⟨hi,hno⟩,rfl,rfl,rfl⟩:=hI;refine G.z8 1 1 3 5 6 17 18 19 20 ?_;refine G.cd (fun h20=>?_) fun h20=>?_
 ·have hil:i<tris.length:=by simpa using h20
  obtain ⟨t,ht⟩:∃ t,tris[i]?=some t:=⟨tris[i],aq hil⟩;have htm:=ba ht;have hcq:=fun k=>(kY hG.ok htm k).1;have hcp:=fun k=>(kY hG.ok htm k).1.le' (show 1<=22 by decide);have hcg:=fun k=>(kY hG.ok htm k).2.1;have hci:=fun k=>(kY hG.ok htm k).2.2;have hcs:∀ k,SmQ 200 (cn pts t k).1/\SmQ 200 (cn pts t k).2:=fun k=>⟨ek (hcp k).1,ek (hcp k).2⟩;refine G.rg fun R hR=>?_;refine D.ak h2.m_ U10 om_ (bg ht) fl_ (fun p21 hp21=>?_);refine D.aa hp21 ?_;refine D.ai (fun b9=>?_);refine D.ae (j:=0) ?_;refine D.e8 1 3 5 6 9 17 18 19 hR ?_;clear hR R;refine G.freeze 0 Z (fun _ _ hb9=>?_);refine G.rg fun R hR=>?_;refine D.ai (fun b10=>?_);refine D.e9 1 3 5 6 9 10 17 18 19 hR ?_;clear hR R;refine G.rg fun R hR=>?_;refine D.aa (bkT hb9 3) ?_;refine D.lF 1 1 3 5 6 9 10 17 18 19 23 24 hR ?_;clear hR R;refine G.loop (fun fr C' L' μ=>∃ (j:Nat)(x0 y0 x1 y1 x2 y2:FV),(j<=3/\(0<j->PcC C' (.agg ⟨peV x0 y0⟩) (cn pts t 0))/\(1<j->PcC C' (.agg ⟨peV x1 y1⟩) (cn pts t 1))/\(2<j->PcC C' (.agg ⟨peV x2 y2⟩) (cn pts t 2)))/\fr=[(1,[],.slice A4 f.length c4),(3,[],.pointer (some ⟨b3,0,none⟩)),(5,[],.pointer (some ⟨b5,0,none⟩)),(6,[],.pointer (some ⟨b6,0,none⟩)),(9,[],.pointer (some ⟨b9,0,none⟩)),(10,[],.pointer (some ⟨b10,0,none⟩)),(17,[],.slice A2 tris.length c2),(18,[],.int .i64 tris.length),(19,[],.int .i64 i),(23,[],.agg ⟨lE t⟩),(24,[],.int .i64 j)]/\L'=[.obj b10 (.cells ⟨peV x0 y0++(peV x1 y1++peV x2 y2)⟩ 326 (0,0)),.obj b6 (.cells ⟨fzC⟩ 111 (0,0))]/\μ=3-j) (h_11 1 3 5 6 9 10 17 18 19 23 24) ⟨0,default,default,default,default,default,default,⟨by decide,by omega,by omega,by omega⟩,Z,Z,Z⟩ (fun fr C1' L1' m _ hI=>?_);obtain ⟨j,x0,y0,x1,y1,x2,y2,⟨hj,hy0,hy1,hy2⟩,rfl,rfl,rfl⟩:=hI;refine G.FL 1 1 3 5 6 9 10 17 18 19 23 24 25 ?_;refine G.cd (fun h25=>?_) fun h25=>?_
  ·have hjl:j<3:=by have:=bi h25;omega
   rcases (by omega:j=0∨j=1∨j=2) with rfl | rfl | rfl
   ·refine G.rp 1 fun R hR=>?_;refine D.dO U11 (fun _=>⟨by decide,by decide,Z⟩) U2 ?_;refine D.zq 2 1 3 5 6 9 10 11 12 17 18 19 23 24 hR ?_;clear hR R;refine G.rp 2 fun R hR=>?_;refine D.aa (bkT hb3 1) ?_;refine D.ac ?_;refine D.ak h1.m_ U10 om_ (bg (hcg 0)) fl_ (fun p32 hp32=>?_);refine D.aa hp32 ?_;refine D.az (kF _ (cn pts t 0) (hcp 0)) (fun v34 C34 _ hq34=>?_);refine D.aE ((6*0)) U9 (fun _=>⟨by decide,by decide,Z⟩) U2 ?_;obtain ⟨xw,yw,rfl,hw1,hw2⟩:=hq34;refine D.ae (j:=0) ?_;refine D.nX 1 3 5 6 9 10 17 18 19 23 24 hR ?_;clear hR R;refine G.rg fun R hR=>?_;refine D.ar _ ?_;refine D.lF 1 1 3 5 6 9 10 17 18 19 23 24 hR ?_;clear hR R;refine G.ax (m':=2) om_ mup (h_11 1 3 5 6 9 10 17 18 19 23 24) ⟨1,xw,yw,x1,y1,x2,y2,⟨by decide,fun _=>⟨xw,yw,Z,hw1.mono mup,hw2.mono mup⟩,by omega,by omega⟩,Z,Z,Z⟩
   ·refine G.rp 1 fun R hR=>?_;refine D.dO U11 (fun _=>⟨by decide,by decide,Z⟩) U2 ?_;refine D.zq 2 1 3 5 6 9 10 11 12 17 18 19 23 24 hR ?_;clear hR R;refine G.rp 2 fun R hR=>?_;refine D.aa (bkT hb3 1) ?_;refine D.ac ?_;refine D.ak h1.m_ U10 om_ (bg (hcg 1)) fl_ (fun p32 hp32=>?_);refine D.aa hp32 ?_;refine D.az (kF _ (cn pts t 1) (hcp 1)) (fun v34 C34 _ hq34=>?_);refine D.aE ((6*1)) U9 (fun _=>⟨by decide,by decide,Z⟩) U2 ?_;obtain ⟨xw,yw,rfl,hw1,hw2⟩:=hq34;refine D.ae (j:=0) ?_;refine D.nX 1 3 5 6 9 10 17 18 19 23 24 hR ?_;clear hR R;refine G.rg fun R hR=>?_;refine D.ar _ ?_;refine D.lF 1 1 3 5 6 9 10 17 18 19 23 24 hR ?_;clear hR R;refine G.ax (m':=1) om_ mup (h_11 1 3 5 6 9 10 17 18 19 23 24) ⟨2,x0,y0,xw,yw,x2,y2,⟨by decide,fun _=>(hy0 dc_).mono mup,fun _=>⟨xw,yw,Z,hw1.mono mup,hw2.mono mup⟩,by omega⟩,Z,Z,Z⟩
   ·refine G.rp 1 fun R hR=>?_;refine D.dO U11 (fun _=>⟨by decide,by decide,Z⟩) U2 ?_;refine D.zq 2 1 3 5 6 9 10 11 12 17 18 19 23 24 hR ?_;clear hR R;refine G.rp 2 fun R hR=>?_;refine D.aa (bkT hb3 1) ?_;refine D.ac ?_;refine D.ak h1.m_ U10 om_ (bg (hcg 2)) fl_ (fun p32 hp32=>?_);refine D.aa hp32 ?_;refine D.az (kF _ (cn pts t 2) (hcp 2)) (fun v34 C34 _ hq34=>?_);refine D.aE ((6*2)) U9 (fun _=>⟨by decide,by decide,Z⟩) U2 ?_;obtain ⟨xw,yw,rfl,hw1,hw2⟩:=hq34;refine D.ae (j:=0) ?_;refine D.nX 1 3 5 6 9 10 17 18 19 23 24 hR ?_;clear hR R;refine G.rg fun R hR=>?_;refine D.ar _ ?_;refine D.lF 1 1 3 5 6 9 10 17 18 19 23 24 hR ?_;clear hR R;refine G.ax (m':=0) om_ mup (h_11 1 3 5 6 9 10 17 18 19 23 24) ⟨3,x0,y0,x1,y1,xw,yw,⟨by decide,fun _=>(hy0 dc_).mono mup,fun _=>(hy1 dc_).mono mup,fun _=>⟨xw,yw,Z,hw1.mono mup,hw2.mono mup⟩⟩,Z,Z,Z⟩
  ·have hj3:j=3:=by
    have:=dj h25;omega
   subst hj3;have g0:=hy0 dc_;have g1:=hy1 dc_;have g2:=hy2 dc_;refine G.freeze 0 Z (fun _ _ hb10=>?_);refine G.rg fun R hR=>?_;refine D.aE (0) U9 (fun _=>⟨by decide,by decide,Z⟩) U2 ?_;refine D.aa (bkT hb5 3) ?_;refine D.aE (3) U9 (fun _=>⟨by decide,by decide,Z⟩) U2 ?_;refine D.aa (bkT hb5 3) ?_;refine D.ap (xp.enc++yp.enc) ?_;refine D.ai (fun b13=>?_);refine D.ae (j:=0) ?_;refine D.vv 1 3 5 6 9 10 13 17 18 19 hR ?_;clear hR R;refine G.freeze 0 Z (fun C13 _ hb13=>?_);have gp:∀ D,C13.le D->PcC D (.agg ⟨xp.enc++yp.enc⟩) (p.1,p.2.1):=fun D h=>⟨xp,yp,rfl,FrC.mono hp1 mup,FrC.mono hp2 mup⟩;have aS:∀ {a b:Pt},SmQ 200 a.1/\SmQ 200 a.2->SmQ 200 b.1/\SmQ 200 b.2->SmQ 1700 (eE a b (p.1,p.2.1)):=fun ha hb=>(((hb.1.sub ha.1).mul (sp2.sub ha.2)).sub ((hb.2.sub ha.2).mul (sp1.sub ha.1))).le dc_;have sA:SmQ 1700 (eE (cn pts t 0) (cn pts t 1) (cn pts t 2)):=((((hcs 1).1.sub (hcs 0).1).mul ((hcs 2).2.sub (hcs 0).2)).sub (((hcs 1).2.sub (hcs 0).2).mul ((hcs 2).1.sub (hcs 0).1))).le dc_;have s0:SmQ 1700 (arW pts t (p.1,p.2.1) 0):=aS (hcs 1) (hcs 2);have s1:SmQ 1700 (arW pts t (p.1,p.2.1) 1):=aS (hcs 2) (hcs 0);have s2:SmQ 1700 (arW pts t (p.1,p.2.1) 2):=aS (hcs 0) (hcs 1);have hgq:=fun k=>kO dc_ hfl.2 (fU t k);have hgs:=fun k=>ek ((hgq k).le (show 1<=22 by decide));refine G.cB [0,1,2,3,4,6,7,8,9,10,12,13,14,15,16] [19] [(5,[]),(11,[]),(17,[]),(18,[5,11,17])] [(5,[]),(11,[]),(17,[]),(18,[5,11,17])] [(1,0),(3,0),(4,0),(7,0),(9,0),(10,0),(13,0),(15,0),(16,0)] Z kr_ (fun R hB hS=>?_);refine D.aE (6) U9 (fun _=>⟨by decide,by decide,Z⟩) U2 ?_;refine D.am (fun _=>((bkT hb10 6).mono hB)) ?_;refine D.aE (12) U9 (fun _=>⟨by decide,by decide,Z⟩) U2 ?_;refine D.am (fun _=>((bkT hb10 6).mono hB)) ?_;refine D.am (fun _=>((bkT hb13 6).mono hB)) ?_;refine D.aE (12) U9 (fun _=>⟨by decide,by decide,Z⟩) U2 ?_;refine D.am (fun _=>((bkT hb10 6).mono hB)) ?_;refine D.aE (0) U9 (fun _=>⟨by decide,by decide,Z⟩) U2 ?_;refine D.am (fun _=>((bkT hb10 6).mono hB)) ?_;refine D.am (fun _=>((bkT hb13 6).mono hB)) ?_;refine D.aE (0) U9 (fun _=>⟨by decide,by decide,Z⟩) U2 ?_;refine D.am (fun _=>((bkT hb10 6).mono hB)) ?_;refine D.aE (6) U9 (fun _=>⟨by decide,by decide,Z⟩) U2 ?_;refine D.am (fun _=>((bkT hb10 6).mono hB)) ?_;refine D.am (fun _=>((bkT hb13 6).mono hB)) ?_;refine hS [] (fun iq vq Cz=>(bn [(5,frS (arW pts t (p.1,p.2.1) 0)),(11,frS (arW pts t (p.1,p.2.1) 1)),(17,frS (arW pts t (p.1,p.2.1) 2)),(18,flS [arW pts t (p.1,p.2.1) 0,arW pts t (p.1,p.2.1) 1,arW pts t (p.1,p.2.1) 2])] iq).1 vq Cz) kr_ (fun iq vq Cz Cy hl h=>(bn _ iq).2 vq Cz Cy hl h) Z ⟨?_, ?_, ?_, ?_,trivial⟩ trivial (fun R2 hB2 hR Cq hleq=>?_)
   ·intro Rq Cq Lq hleq fin;refine D.au (l5 _ _ _ _ (cn pts t 1) (cn pts t 2) (p.1,p.2.1) 200 dc_ g1.m_ g2.m_ (gp _ mup) (hcs 1) (hcs 2) ⟨sp1,sp2⟩) U7 fl_ (fun v47 _ _ hq47=>?_);exact fin _ _ _ mup (fun d hd=>by cases hd;rfl) hq47
   ·intro Rq Cq Lq hleq fin;refine D.au (l5 _ _ _ _ (cn pts t 2) (cn pts t 0) (p.1,p.2.1) 200 dc_ g2.m_ g0.m_ (gp _ mup) (hcs 2) (hcs 0) ⟨sp1,sp2⟩) U7 fl_ (fun v53 _ _ hq53=>?_);exact fin _ _ _ mup (fun d hd=>by cases hd;rfl) hq53
   ·intro Rq Cq Lq hleq fin;refine D.au (l5 _ _ _ _ (cn pts t 0) (cn pts t 1) (p.1,p.2.1) 200 dc_ g0.m_ g1.m_ (gp _ mup) (hcs 0) (hcs 1) ⟨sp1,sp2⟩) U7 fl_ (fun v59 _ _ hq59=>?_);exact fin _ _ _ mup (fun d hd=>by cases hd;rfl) hq59
   ·intro Rq Cq Lq hleq v47 hq47 v53 hq53 v59 hq59 fin;obtain ⟨x47,rfl⟩:=FrC.fv hq47;obtain ⟨x53,rfl⟩:=FrC.fv hq53;obtain ⟨x59,rfl⟩:=FrC.fv hq59;refine D.ah ([x47,x53,x59].map FV.enc) (fun p60 _ _ hs60=>?_);exact fin _ _ _ mup (fun d hd=>by cases hd;rfl) ⟨_,hs60,vW (FrC.m_ hq47) (FrC.m_ hq53) (FrC.m_ hq59)⟩
   intro v47 hq47 v53 hq53 v59 hq59 v60 hq60;refine D.ac ?_;refine D.vv 1 3 5 6 9 10 14 17 18 19 hR ?_;clear hR R2 hS hB2 hB R;refine G.rp 1 fun R hR=>?_;refine D.ag (Fs hq60.m_) ?_;refine D.nX 1 3 5 6 9 10 14 17 18 19 62 hR ?_;clear hR R;refine G.cd (fun h62=>?_) fun h62=>?_
   ·rw [xm] at h62;have hin:iA pts (p.1,p.2.1) t=false:=by simpa using h62
    refine G.rg fun R hR=>?_;refine D.ar _ ?_;refine D.q7 1 1 3 5 6 17 18 19 hR ?_;clear hR R;refine G.ax (m':=tris.length-(i+1)) om_ mup (h_7 1 3 5 6 17 18 19) ⟨i+1,⟨by omega,zZ ht hno hin⟩,Z,Z,Z⟩
   ·rw [xm] at h62;have hin:iA pts (p.1,p.2.1) t=true:=by simpa using h62
    have hfd:=Ct ht hno hin;refine G.cB [0,1,2,3,4,5,7,8,9,10,11,13,14,15,16,17] [] [(6,[]),(12,[]),(18,[]),(19,[6,12,18]),(20,[19]),(21,[]),(22,[21,20])] [(6,[]),(12,[]),(18,[]),(19,[6,12,18]),(20,[19])] [(3,0),(5,0),(9,0),(11,0),(15,0),(17,0)] Z kr_ (fun R hB hS=>?_);refine D.ps 2 ?_;refine D.aE (0) U9 (fun _=>⟨by decide,by decide,Z⟩) U2 ?_;refine D.am (fun _=>((bkT hb9 1).mono hB)) ?_;refine D.ak hf.m_ U10 om_ (bg (s5 (show fU t 0<f.length by rw [hfl.1];exact hci 0))) fl_ (fun p67 hp67=>?_);refine D.am (fun _=>(hp67.mono hB)) ?_;refine D.ac ?_;refine D.aE (1) U9 (fun _=>⟨by decide,by decide,Z⟩) U2 ?_;refine D.am (fun _=>((bkT hb9 1).mono hB)) ?_;refine D.ak hf.m_ U10 om_ (bg (s5 (show fU t 1<f.length by rw [hfl.1];exact hci 1))) fl_ (fun p73 hp73=>?_);refine D.am (fun _=>(hp73.mono hB)) ?_;refine D.ac ?_;refine D.aE (2) U9 (fun _=>⟨by decide,by decide,Z⟩) U2 ?_;refine D.am (fun _=>((bkT hb9 1).mono hB)) ?_;refine D.ak hf.m_ U10 om_ (bg (s5 (show fU t 2<f.length by rw [hfl.1];exact hci 2))) fl_ (fun p79 hp79=>?_);refine D.am (fun _=>(hp79.mono hB)) ?_;refine hS [⟨21,22,20,111,[.bool false,.slice none 0 0,.slice none 0 0]⟩] (fun iq vq Cz=>(bn [(6,frS (f.getD (fU t 0) 0)),(12,frS (f.getD (fU t 1) 0)),(18,frS (f.getD (fU t 2) 0)),(19,flS [f.getD (fU t 0) 0,f.getD (fU t 1) 0,f.getD (fU t 2) 0]),(20,frS (DZ pts t f (p.1,p.2.1)))] iq).1 vq Cz) kr_ (fun iq vq Cz Cy hl h=>(bn _ iq).2 vq Cz Cy hl h) Z ⟨?_, ?_, ?_, ?_, ?_,trivial⟩ ⟨?_, ?_,trivial⟩ (fun R2 hB2 hR Cq hleq=>?_)
    ·intro Rq Cq Lq hleq fin;refine D.au (bC _ _ ((hgq 0).le dc_)) U7 fl_ (fun v69 _ _ hq69=>?_);exact fin _ _ _ mup (fun d hd=>by cases hd;rfl) hq69
    ·intro Rq Cq Lq hleq fin;refine D.au (bC _ _ ((hgq 1).le dc_)) U7 fl_ (fun v75 _ _ hq75=>?_);exact fin _ _ _ mup (fun d hd=>by cases hd;rfl) hq75
    ·intro Rq Cq Lq hleq fin;refine D.au (bC _ _ ((hgq 2).le dc_)) U7 fl_ (fun v81 _ _ hq81=>?_);exact fin _ _ _ mup (fun d hd=>by cases hd;rfl) hq81
    ·intro Rq Cq Lq hleq v69 hq69 v75 hq75 v81 hq81 fin;obtain ⟨x69,rfl⟩:=FrC.fv hq69;obtain ⟨x75,rfl⟩:=FrC.fv hq75;obtain ⟨x81,rfl⟩:=FrC.fv hq81;refine D.ah ([x69,x75,x81].map FV.enc) (fun p82 _ _ hs82=>?_);exact fin _ _ _ mup (fun d hd=>by cases hd;rfl) ⟨_,hs82,vW (FrC.m_ hq69) (FrC.m_ hq75) (FrC.m_ hq81)⟩
    ·intro Rq Cq Lq hleq v82 hq82 fin;refine D.az (HA hT.m_ hq60.m_ hq82 s0 s1 s2 (hgs 0) (hgs 1) (hgs 2)) (fun v83 _ _ hq83=>?_);exact fin _ _ _ mup (fun d hd=>by cases hd;rfl) hq83
    ·intro Rq Cq Lq hleq fin;refine D.ai (fun bq=>?_);exact fin _ bq (fun d hd=>by cases hd;rfl)
    ·intro Rq Cq Lq bq v83 hleq hq83 fin;obtain ⟨x,rfl⟩:=FrC.fv hq83;refine D.ae (j:=0) ?_;exact fin _
    intro v69 hq69 v75 hq75 v81 hq81 v82 hq82 v83 hq83 v15 hq15 _ _;obtain ⟨b15,rfl⟩:=hq15;obtain ⟨x15,rfl⟩:=FrC.fv hq83;refine D.e3 6 10 15 hR ?_;clear hR R2 hS hB2 hB R;refine G.be (L':=[.obj b15 (.cells ⟨x15.enc⟩ 111 (0,0)),.obj b6 (.cells ⟨fzC⟩ 111 (0,0))]) Z ?_;refine G.freeze 0 Z (fun _ _ hb15=>?_);have sN:SmQ 6000 (DZ pts t f (p.1,p.2.1)):=(Sm3.dot (a:=(_,_,_)) (b:=(_,_,_)) ⟨s0,s1,s2⟩ ⟨hgs 0,hgs 1,hgs 2⟩).le dc_;have hne:eE (cn pts t 0) (cn pts t 1) (cn pts t 2)≠0:=by have:=nL hG.ok htm;grind
    refine G.cB [0,1,2,3,4,5,6] [9,10] [(7,[]),(8,[7])] [(7,[]),(8,[7])] [(0,0),(2,0),(4,0),(6,0)] Z kr_ (fun R hB hS=>?_);refine D.am (fun _=>((bkT hb15 3).mono hB)) ?_;refine D.aE (0) U9 (fun _=>⟨by decide,by decide,Z⟩) U2 ?_;refine D.am (fun _=>((bkT hb10 6).mono hB)) ?_;refine D.aE (6) U9 (fun _=>⟨by decide,by decide,Z⟩) U2 ?_;refine D.am (fun _=>((bkT hb10 6).mono hB)) ?_;refine D.aE (12) U9 (fun _=>⟨by decide,by decide,Z⟩) U2 ?_;refine D.am (fun _=>((bkT hb10 6).mono hB)) ?_;refine hS [] (fun iq vq Cz=>(bn [(7,frS (eE (cn pts t 0) (cn pts t 1) (cn pts t 2))),(8,frS (nh pts t f (p.1,p.2.1)))] iq).1 vq Cz) kr_ (fun iq vq Cz Cy hl h=>(bn _ iq).2 vq Cz Cy hl h) Z ⟨?_, ?_,trivial⟩ trivial (fun R2 hB2 hR Cq hleq=>?_)
    ·intro Rq Cq Lq hleq fin;refine D.au (l5 _ _ _ _ (cn pts t 0) (cn pts t 1) (cn pts t 2) 200 dc_ g0.m_ g1.m_ g2.m_ (hcs 0) (hcs 1) (hcs 2)) U7 fl_ (fun v91 _ _ hq91=>?_);exact fin _ _ _ mup (fun d hd=>by cases hd;rfl) hq91
    ·intro Rq Cq Lq hleq v91 hq91 fin;refine D.au (nA (FrC.m_ hq83) (FrC.m_ hq91) sN sA dc_ hne) U7 fl_ (fun v92 _ _ hq92=>?_);exact fin _ _ _ mup (fun d hd=>by cases hd;rfl) hq92
    intro v91 hq91 v92 hq92;obtain ⟨x6,rfl⟩:=FrC.fv hq92;refine D.ae (j:=0) ?_;refine D.ac ?_;refine D.e2 6 7 hR ?_;clear hR R2 hS hB2 hB R;refine G.be (L':=[.obj b6 (.cells ⟨x6.enc⟩ 111 (0,0))]) Z ?_;refine G.aB (G.DK (.head _) Z Z Z Z Z ?_);exact ⟨Z,x6,by rw [hfd];rfl,fun u hu=>by rw [hfd] at hu;cases hu;exact hq92⟩
 ·have hil:i=tris.length:=by
   have:=dj h20;omega
  rw [hil,cK] at hno;have hfd:=Cr hno;refine G.rg fun R hR=>?_;refine D.ap fzC ?_;refine D.ae (j:=0) ?_;refine D.q2 1 6 7 hR ?_;clear hR R;refine G.aB (G.DK (.head _) Z Z Z Z Z ?_);exact ⟨Z,default,by rw [hfd];rfl,fun u hu=>by rw [hfd] at hu;cases hu⟩

def unV (n:Int)(b:Bool)(u:Str)(x y z:FV):List Value:=.int .i64 n::.bool b::aA u::(x.enc++(y.enc++z.enc))
def UnC (C:Mem)(v:Value)(n:Int)(o:Option Str)(p:V3):Prop:=∃ x y z,v=.agg ⟨unV n o.isSome (o.getD []) x y z⟩/\V3s C x y z p
theorem JC {pts:List Pt}{tris:List Tri}(hM:MeshOk pts tris){t:Tri}(ht:t∈tris){p:Pt}(sp:SmQ 200 p.1/\SmQ 200 p.2){f:List Rat}(hf:∀ q∈f,QB 1 q):SmQ 8000 (nh pts t f p):=by
 have hcp:=fun k=>(kY hM ht k).1.le' (show 1<=22 by decide);have hcs:∀ k,SmQ 200 (cn pts t k).1/\SmQ 200 (cn pts t k).2:=fun k=>⟨ek (hcp k).1,ek (hcp k).2⟩;have aS:∀ {a b c:Pt},SmQ 200 a.1/\SmQ 200 a.2->SmQ 200 b.1/\SmQ 200 b.2->SmQ 200 c.1/\SmQ 200 c.2->SmQ 1700 (eE a b c):=fun ha hb hc=>(((hb.1.sub ha.1).mul (hc.2.sub ha.2)).sub ((hb.2.sub ha.2).mul (hc.1.sub ha.1))).le dc_;have hgs:=fun k=>ek ((kO dc_ hf (fU t k)).le (show 1<=22 by decide));have sA:=aS (hcs 0) (hcs 1) (hcs 2);have sw:∀ i,SmQ 1700 (arW pts t p i):=fun i=>aS (hcs _) (hcs _) sp;have sN:SmQ 6000 (DZ pts t f p):=(Sm3.dot (a:=(_,_,_)) (b:=(_,_,_)) ⟨sw 0,sw 1,sw 2⟩ ⟨hgs 0,hgs 1,hgs 2⟩).le dc_;exact (SmQ.div sN sA (by have:=nL hM ht;grind)).le dc_
theorem Fu {α:Type}{f:α->Bool}{l:List α}{n:Nat}{x:α}(h:l[n]?=some x):((l.take (n+1)).filter f).length=((l.take n).filter f).length+(if f x then 1 else 0):=by
 rw [xO,h,Od,eh];cases hx:f x <;> simp [hx]
theorem AE (C:Mem)(hT:Tabs C)(mv:Value)(pts:List Pt)(tris:List Tri)(hm:MeshIn C mv pts tris)(hG:Good pts tris)(e:Evt)(hE:EvO pts.length e)(hk:e.kd=1)(A1 A2 A3:Option Addr)(n1 n2 c1 c2 c3:Nat)(vp:Value)(p:V3)(hp:VcC C vp p)(hq3:Q3 2 p)
  (hb:Sl C 1 (.slice A1 n1 c1) (e.base.map gK)) (hu:Sl C 1 (.slice A2 n2 c2) (e.units.map bN)) (hs:FldsIn C (.slice A3 e.surf.length c3) e.surf) :
  Pur cx.P 70 [mv,.agg ⟨[.slice A1 n1 c1,.slice A2 n2 c2,.slice A3 e.surf.length c3]⟩,vp] C fun u D=>UnC D u (tW pts tris e.base e.surf p) (gJ e (tW pts tris e.base e.surf p)) p:=by
 have hm0:=hm;have hp0:=hp;obtain ⟨v1,v2,rfl,h1,h2⟩:=id hm.ex;obtain ⟨vs,hs1,hsl,hsf⟩:=hs;obtain ⟨xp,yp,zp,rfl,hp1,hp2,hp3⟩:=hp;have hu2:=hE.u2;have hun:=hE.un;have hs3:=Q3.sm (hq3.le (show 2<=22 by decide));have gp:∀ D,C.le D->V3s D xp yp zp p:=fun D h=>⟨FrC.mono hp1 mup,FrC.mono hp2 mup,FrC.mono hp3 mup⟩;refine Fn.it kr_ Tryz.func70 65 fun w0=>?_;refine G.rg fun R hR=>?_;refine D.aD (fun b3=>?_);refine D.aD (fun b4=>?_);refine D.aD (fun b5=>?_);refine D.ai (fun b6=>?_);refine D.e4 3 4 5 6 hR ?_;refine G.freeze 3 Z (fun _ _ hb3=>?_);refine G.freeze 2 Z (fun _ _ hb4=>?_);refine G.freeze 1 Z (fun _ _ hb5=>?_);refine G.rg fun R hR=>?_;refine D.aa (bkT hb3 2) ?_;refine D.ac ?_;refine D.aa (bkT hb4 1) ?_;refine D.aa (bkT hb5 9) ?_;refine D.az (py _ hT.m_ _ pts tris hm0.m_ hG _ e.base hb.m_ ⟨hE.bl,hE.bq⟩ _ p hp0.m_ hq3) (fun v19 _ _ hq19=>?_);obtain ⟨x7,rfl,hx7⟩:=hq19;refine D.ps 3 ?_;refine D.ai (fun b7=>?_);refine D.ae (j:=0) ?_;refine D.q6 1 3 4 5 6 7 8 hR ?_;refine G.freeze 0 Z (fun _ _ hb7=>?_);refine G.z6 3 3 4 5 6 7 22 ?_;refine G.cd (fun h22=>?_) fun h22=>?_
 ·have hF:tris.find? (iA pts (p.1,p.2.1))=none:=by
   cases h:tris.find? (iA pts (p.1,p.2.1)) with
   | none=>rfl
   | some t=>rw [h] at h22;cases h22
  have hd:tW pts tris e.base e.surf p=-2:=by unfold tW;rw [hF]
  refine G.rg fun R hR=>?_;refine D.aa (bkT hb5 9) ?_;refine D.ap (unV (-2) true [] xp yp zp) ?_;refine D.ae (j:=0) ?_;refine D.e1 6 hR ?_;refine G.aB (G.aR (.head _) U4 ?_);exact ⟨Z,xp,yp,zp,by rw [hd];unfold gJ;rw [bW ⟨hk,Z⟩];rfl,gp _ mup⟩
 ·obtain ⟨t,hF⟩:∃ t,tris.find? (iA pts (p.1,p.2.1))=some t:=by
   cases h:tris.find? (iA pts (p.1,p.2.1)) with
   | none=>rw [h] at h22;cases h22
   | some t=>exact ⟨t,rfl⟩
  have hx7:=hx7 t hF;have htm:=List.mem_of_find?_eq_some hF;have hin:=List.find?_some hF;have hsm:=fun f (hf:∀ q∈f,QB 1 q)=>JC hG.ok htm (p:=(p.1,p.2.1)) ⟨hs3.1,hs3.2.1⟩ hf;refine G.rg fun R hR=>?_;refine D.aE (6) U9 (fun _=>⟨by decide,by decide,Z⟩) U2 ?_;refine D.aa (bkT hb5 3) ?_;refine D.aa (bkT hb7 3) ?_;refine D.au (kP (p:=p.2.2) (FrC.m_ hp3) (FrC.m_ hx7) hs3.2.2 (hsm _ hE.bq) dc_) U7 fl_ (fun v31 _ _ hq31=>?_);obtain rfl:=hq31;refine D.q5 2 3 4 5 6 27 hR ?_;refine G.cd (fun h27=>?_) fun h27=>?_
  ·rw [qV] at h27;have hd:tW pts tris e.base e.surf p=-1:=by unfold tW;rw [hF];exact bW (bi h27)
   refine G.rg fun R hR=>?_;refine D.aa (bkT hb5 9) ?_;refine D.ap (unV (-1) false [] xp yp zp) ?_;refine D.ae (j:=0) ?_;refine D.e1 6 hR ?_;refine G.aB (G.aR (.head _) U4 ?_);exact ⟨Z,xp,yp,zp,by rw [hd];unfold gJ;rw [a7 om_,a7 om_,a7 om_];rfl,gp _ mup⟩
  ·rw [qV] at h27;refine G.z5 1 3 4 5 6 9 ?_;refine G.rp 1 fun R hR=>?_;refine D.aa (bkT hb4 1) ?_;refine D.q8 2 3 4 5 6 9 36 37 38 hR ?_;refine G.loop (fun fr C' L' μ=>∃ (n k:Nat),(n<=e.surf.length/\k=((e.surf.take n).filter fun f=>decide (nh pts t f (p.1,p.2.1)<=p.2.2)).length)/\fr=[(3,[],.pointer (some ⟨b3,0,none⟩)),(4,[],.pointer (some ⟨b4,0,none⟩)),(5,[],.pointer (some ⟨b5,0,none⟩)),(6,[],.pointer (some ⟨b6,0,none⟩)),(9,[],.int .i64 k),(36,[],.slice A3 e.surf.length c3),(37,[],.int .i64 e.surf.length),(38,[],.int .i64 n)]/\L'=[.obj b6 (.cells ⟨unV 0 false [] default default default⟩ 116 (0,0))]/\μ=e.surf.length-n) (h_8 3 4 5 6 9 36 37 38) ⟨0,0,⟨ch _,Z⟩,Z,Z,Z⟩ (fun fr C0' L0' m _ hI=>?_);obtain ⟨n,k,⟨hn,hkn⟩,rfl,rfl,rfl⟩:=hI;refine G.z9 1 3 4 5 6 9 36 37 38 39 ?_;refine G.cd (fun h39=>?_) fun h39=>?_
   ·have hnl:n<e.surf.length:=by simpa using h39
    obtain ⟨f,hfn⟩:∃ f,e.surf[n]?=some f:=⟨e.surf[n],aq hnl⟩;obtain ⟨w,hwn⟩:∃ w,vs[n]?=some w:=⟨vs[n]'om_,aq om_⟩;have hfw:=hsf n w f hwn hfn;have hfs:=hE.sl f (ba hfn);have hst:=Fu (f:=fun f=>decide (nh pts t f (p.1,p.2.1)<=p.2.2)) hfn;refine G.rg fun R hR=>?_;refine D.ak hs1.m_ U10 om_ (show (vs.map fun w=>[w])[((n:Nat):Int).toNat]?=some [w] by rw [L5,bX,hwn];rfl) fl_ (fun p40 hp40=>?_);refine D.aa hp40 ?_;refine D.q9 1 3 4 5 6 9 11 36 37 38 hR ?_;refine G.rg fun R hR=>?_;refine D.aa (bkT hb3 2) ?_;refine D.ac ?_;refine D.aa (bkT hb5 9) ?_;refine D.az (py _ hT.m_ _ pts tris hm0.m_ hG _ f hfw.m_ hfs _ p hp0.m_ hq3) (fun v46 _ _ hq46=>?_);obtain ⟨x12,rfl,hx12⟩:=hq46;have hx12:=hx12 t hF;refine D.ps 3 ?_;refine D.ai (fun b12=>?_);refine D.ae (j:=0) ?_;refine D.q9 1 3 4 5 6 9 12 36 37 38 hR ?_;refine G.freeze 0 Z (fun _ _ hb12=>?_);refine G.rg fun R hR=>?_;refine D.aa (bkT hb12 3) ?_;refine D.aE (6) U9 (fun _=>⟨by decide,by decide,Z⟩) U2 ?_;refine D.aa (bkT hb5 3) ?_;refine D.au (kP (q:=p.2.2) (FrC.m_ hx12) (FrC.m_ hp3) (hsm _ hfs.2) hs3.2.2 dc_) U7 fl_ (fun v52 _ _ hq52=>?_);obtain rfl:=hq52;refine D.q9 1 3 4 5 6 9 36 37 38 53 hR ?_;refine G.cd (fun h53=>?_) fun h53=>?_
    ·rw [qX] at h53;have hk2:k<=n:=by have:=NT (fun f=>decide (nh pts t f (p.1,p.2.1)<=p.2.2)) (e.surf.take n);rw [eB] at this;omega
     rw [h53] at hst;refine G.rp 1 fun R hR=>?_;refine D.ar _ ?_;refine D.q8 1 3 4 5 6 9 36 37 38 hR ?_;refine G.rg fun R hR=>?_;refine D.ar _ ?_;refine D.q8 1 3 4 5 6 9 36 37 38 hR ?_;refine G.ax (m':=e.surf.length-(n+1)) om_ mup (h_8 3 4 5 6 9 36 37 38) ⟨n+1,k+1,⟨hnl,by rw [hst,hkn];rfl⟩,Z,Z,Z⟩
    ·rw [qX] at h53;rw [h53] at hst;refine G.rg fun R hR=>?_;refine D.ar _ ?_;refine D.q8 1 3 4 5 6 9 36 37 38 hR ?_;refine G.ax (m':=e.surf.length-(n+1)) om_ mup (h_8 3 4 5 6 9 36 37 38) ⟨n+1,k,⟨hnl,by rw [hst,hkn];rfl⟩,Z,Z,Z⟩
   ·have hil:n=e.surf.length:=by
     have:=dj h39;omega
    rw [hil,cK,H3 hG.ok htm hE p.2.2 hin] at hkn;subst hkn;obtain ⟨m,hmd⟩:∃ m,Bc (fun f=>decide (nh pts t f (p.1,p.2.1)<=p.2.2)) e.surf=m:=⟨_,rfl⟩;rw [hmd];have hml:m<=e.surf.length:=by rw [<- hmd];exact qo _ _
    have hd:tW pts tris e.base e.surf p=(m:Int):=by unfold tW;rw [hF];show (if _ then _ else _)=_;rw [a7 (dj h27),hmd]
    have hut:e.units[m]?=some (e.units.getD m []):=by rw [aF,aq om_];rfl
    refine G.aG [0,1,2,3,4,5,6,7,8] [] Z kr_ (fun R hB hR=>?_);refine D.ps 2 ?_;refine D.aa (bkT hb4 1) ?_;refine D.ac ?_;refine D.ak hu.m_ U10 om_ (bg hut) fl_ (fun p61 hp61=>?_);refine D.aa hp61 ?_;refine D.aa (bkT hb5 9) ?_;refine D.ap (unV m true (e.units.getD m []) xp yp zp) ?_;refine D.ae (j:=0) ?_;refine D.e1 6 hR ?_;refine G.aB (G.aR (.head _) U4 ?_);exact ⟨Z,xp,yp,zp,by rw [hd];unfold gJ;rw [a7 om_,bW ⟨hk,by omega⟩];rfl,gp _ mup⟩
end Go.Proofs.YtgfiffppookakaaGreatDoor
