/- Laws that the proofs of this seat share, part 9. -/
import Derived.Test.YtllimhhofkcgpaaGreatDoorG8
import Derived.Test.YtllimhhofkcgpaaGreatDoorShelf
set_option maxHeartbeats 4000000
namespace Go.Proofs.YtllimhhofkcgpaaGreatDoor
open Go Go.Jog
set_option maxRecDepth 100000

theorem facM_new {l:List (Nat × Rat)}{k:Nat}(q:Rat)(h:k ∉ l.map (·.1)):mset (facM l) ((k:Nat):Int) (strV (qtx q))=facM (l++[(k,q)]):=by
 rw [mset_new (by
  rw [bi]
  unfold facM
  rw [List.map_map]
  intro hm
  obtain ⟨x,hx,he⟩:=List.mem_map.1 hm
  have:x.1=k:=by
   have h2:((x.1:Nat):Int)=(k:Int):=he
   omega
  exact h (this ▸ List.mem_map_of_mem (f:=(·.1)) hx))]
 simp [facM]
theorem area_same (a c:Pt):bB a a c=0/\bB c a a=0/\bB a c a=0:=by
 unfold bB
 refine ⟨?_, ?_, ?_⟩ <;> grind
theorem tri_diff {pts:List Pt}{tris:List Tri}(hM:MeshOk pts tris){t:Tri}(ht:t∈tris):t.1≠t.2.1/\t.1≠t.2.2/\t.2.1≠t.2.2:=by
 have h:=good_pos hM ht
 refine ⟨fun e=>h ?_,fun e=>h ?_,fun e=>h ?_⟩
 ·have:cor pts t 1=cor pts t 0:=by show pts.getD t.2.1 _=pts.getD t.1 _;rw [e]
  rw [this];exact (area_same _ _).1
 ·have:cor pts t 2=cor pts t 0:=by show pts.getD t.2.2 _=pts.getD t.1 _;rw [e]
  rw [this];exact (area_same _ _).2.2
 ·have:cor pts t 2=cor pts t 1:=by show pts.getD t.2.2 _=pts.getD t.2.1 _;rw [e]
  rw [this];exact (area_same _ _).2.1
def atT (t:Tri)(f:Nat->Rat):List (Nat × Rat):=[(t.1,f 0),(t.2.1,f 1),(t.2.2,f 2)]
theorem atT_nodup {t:Tri}(f:Nat->Rat)(h:t.1≠t.2.1/\t.1≠t.2.2/\t.2.1≠t.2.2):((atT t f).map (·.1)).Nodup:=by
 simp [atT,h.1,h.2.1,h.2.2]
theorem cheight_fn (C:Mem)(hT:Tabs C)(mv:Value)(pts:List Pt)(tris:List Tri)(p:Pt)(i:Nat)(r:List Nat)(t:Tri)(hm:MeshIn C mv pts tris)(hG:Good pts tris)(hq:QP 23 p)(hr:PtR p)(hl:locL pts tris p=i::r)(ht:tris[i]?=some t)(hw:∀ j,QB 22 (wgt pts t p j)) :
  Pur cx.P 63 [mv,ptV p] C fun u D=>∃ b,u=.tuple #[.map (some b),.int .i64 (i:Nat),.int .i64 0]/\D b=some (aD keyZ.enc (facM (atT t (wgt pts t p)))):=by
 have hM:=hG.ok
 have hm0:=hm
 have hil:=(List.getElem?_eq_some_iff.1 ht).1
 obtain ⟨hd1,hd2,hd3⟩:=tri_diff hM (List.mem_of_getElem? ht)
 obtain ⟨v1,v2,rfl,h1,h2⟩:=id hm.ex
 obtain ⟨A2,c2,rfl,hq3,hq4,_⟩:=id h2
 have hmx:maxLen<=9223372036854775807:=by simp [maxLen]
 simp only [List.length_map] at h2 hm0 hq3 ⊢
 refine Fn.it kr_ Tryz.func63 54 fun w0=>?_
 refine G.rg fun R hR=>?_
 refine D.aB (fun b2=>?_)
 refine D.aB (fun b3=>?_)
 refine D.q2 3 2 3 hR ?_
 refine G.freeze 1 rfl (fun C2 hle2 hb2=>?_)
 refine G.freeze 0 rfl (fun C3 hle3 hb3=>?_)
 refine G.rg fun R hR=>?_
 refine D.aa (bkT hb2 2) ?_
 refine D.aa (bkT hb3 2) ?_
 refine D.aX (locate_fn _ (hT.mono mup) _ pts tris p (hm0.mono mup) hG hq hr) (fun v14 C14 hle14 hq14=>?_)
 obtain ⟨wv,rfl,hwv⟩:=hq14
 rw [hl] at hwv
 obtain ⟨Aw,cw,hwe,_⟩:=id hwv
 rw [List.length_map] at hwe
 subst hwe
 refine D.q4 5 2 3 6 7 hR ?_
 refine G.z5 2 2 3 6 7 18 ?_
 refine G.cd (fun h18=>?_) fun h18=>?_
 ·exact absurd h18 (by decide)
 ·refine G.aH [0,1,2,3,4,5,6,7,8,9,10,11] [(5,1)] rfl kr_ (fun R hB hR=>?_)
  refine D.aa (bkT hb2 2) ?_
  refine D.ac ?_
  refine D.al (hwv.mono mup) rfl rfl rfl rfl rfl rfl rfl rfl rfl rfl om_ (rfl:(List.map encN (i::r))[0]?=some (encN i)) fl_ (fun p23 hp23=>?_)
  refine D.aa hp23 ?_
  refine D.aa (bkT hb3 2) ?_
  refine D.aW (fun _=>(shares_fn _ (hT.mono mup) _ pts tris p i t (hm0.mono mup) hG hq hr ht hw)) ?_
  refine D.ps 3 ?_
  refine D.aj (fun b8=>?_)
  refine D.ag (j:=0) ?_
  refine D.q4 1 2 6 7 8 hR ?_
  refine G.z5 2 2 6 7 8 30 ?_
  refine G.cd (fun h30=>?_) fun h30=>?_
  ·exact absurd h30 (by decide)
  ·refine G.freeze 0 rfl (fun C8 hle8 hb8=>?_)
   refine G.rg fun R hR=>?_
   refine D.makeMap keyZ rfl rfl rfl rfl fl_ (fun b32=>?_)
   refine D.q4 1 2 4 7 8 hR ?_
   refine G.aH [0,1,2,3,4,5,6,7] [] rfl kr_ (fun R hB hR=>?_)
   refine D.ac ?_
   refine D.aa (bkT hb2 1) ?_
   refine D.ac ?_
   refine D.al (hwv.mono mup) rfl rfl rfl rfl rfl rfl rfl rfl rfl rfl om_ (rfl:(List.map encN (i::r))[0]?=some (encN i)) fl_ (fun p36 hp36=>?_)
   refine D.aa hp36 ?_
   refine D.al (h2.mono mup) rfl rfl rfl rfl rfl rfl rfl rfl rfl rfl om_ (bt ht) fl_ (fun p38 hp38=>?_)
   refine D.aa hp38 ?_
   refine D.q5 1 4 7 8 39 40 hR ?_
   refine G.loop (fun fr C' L' μ=>∃ (j:Nat),(j<=3)/\fr=[(4,[],.map (some b32)),(7,[],.slice Aw (i::r).length cw),(8,[],.pointer (some ⟨b8,0,none⟩)),(39,[],.agg ⟨encT t⟩),(40,[],.int .i64 j)]/\L'=[.obj b32 (aD keyZ.enc (facM ((atT t (wgt pts t p)).take j)))]/\μ=3-j) (h_5 4 7 8 39 40) ⟨0,Nat.zero_le _,rfl,rfl,rfl⟩ (fun fr C0' L0' m hle0 hI=>?_)
   obtain ⟨j,hj,rfl,rfl,rfl⟩:=hI
   refine G.z6 1 4 7 8 39 40 41 ?_
   refine G.cd (fun h41=>?_) fun h41=>?_
   ·have hjl:j<3:=by
     simp only [decide_eq_true_eq] at h41
     omega
    rcases (by omega:j=0∨j=1∨j=2) with rfl | rfl | rfl
    ·refine G.rp 1 fun R hR=>?_
     refine D.bI rfl rfl rfl rfl rfl rfl rfl rfl rfl rfl rfl (fun _=>⟨by decide,by decide,rfl⟩) rfl rfl ?_
     refine D.q7 2 4 7 8 9 10 39 40 hR ?_
     refine G.rp 3 fun R hR=>?_
     refine D.ar (_) rfl rfl rfl rfl rfl rfl rfl rfl rfl (fun _=>⟨by decide,by decide,rfl⟩) rfl rfl ?_
     refine D.aa (bkT hb8 1) ?_
     refine D.mapUpdate keyZ (j:=0) rfl rfl rfl rfl rfl rfl rfl rfl rfl rfl kr_ ?_
     refine D.e5 4 7 8 39 40 hR ?_
     refine G.rg fun R hR=>?_
     refine D.am _ ?_
     refine D.q5 1 4 7 8 39 40 hR ?_
     refine G.aY (L':=[.obj b32 (aD keyZ.enc (facM ((atT t (wgt pts t p)).take 1)))]) (congrArg (fun m=>[Ent.obj b32 (aD keyZ.enc m)]) (facM_new (l:=[]) _ (by simp))) ?_
     refine G.ax (m':=2) om_ hle0 (h_5 4 7 8 39 40) ⟨1,by decide,rfl,rfl,rfl⟩
    ·refine G.rp 1 fun R hR=>?_
     refine D.bI rfl rfl rfl rfl rfl rfl rfl rfl rfl rfl rfl (fun _=>⟨by decide,by decide,rfl⟩) rfl rfl ?_
     refine D.q7 2 4 7 8 9 10 39 40 hR ?_
     refine G.rp 3 fun R hR=>?_
     refine D.ar (_) rfl rfl rfl rfl rfl rfl rfl rfl rfl (fun _=>⟨by decide,by decide,rfl⟩) rfl rfl ?_
     refine D.aa (bkT hb8 1) ?_
     refine D.mapUpdate keyZ (j:=0) rfl rfl rfl rfl rfl rfl rfl rfl rfl rfl kr_ ?_
     refine D.e5 4 7 8 39 40 hR ?_
     refine G.rg fun R hR=>?_
     refine D.am _ ?_
     refine D.q5 1 4 7 8 39 40 hR ?_
     refine G.aY (L':=[.obj b32 (aD keyZ.enc (facM ((atT t (wgt pts t p)).take 2)))]) (congrArg (fun m=>[Ent.obj b32 (aD keyZ.enc m)]) (facM_new (l:=[(t.1,wgt pts t p 0)]) _ (by simpa using hd1.symm))) ?_
     refine G.ax (m':=1) om_ hle0 (h_5 4 7 8 39 40) ⟨2,by decide,rfl,rfl,rfl⟩
    ·refine G.rp 1 fun R hR=>?_
     refine D.bI rfl rfl rfl rfl rfl rfl rfl rfl rfl rfl rfl (fun _=>⟨by decide,by decide,rfl⟩) rfl rfl ?_
     refine D.q7 2 4 7 8 9 10 39 40 hR ?_
     refine G.rp 3 fun R hR=>?_
     refine D.ar (_) rfl rfl rfl rfl rfl rfl rfl rfl rfl (fun _=>⟨by decide,by decide,rfl⟩) rfl rfl ?_
     refine D.aa (bkT hb8 1) ?_
     refine D.mapUpdate keyZ (j:=0) rfl rfl rfl rfl rfl rfl rfl rfl rfl rfl kr_ ?_
     refine D.e5 4 7 8 39 40 hR ?_
     refine G.rg fun R hR=>?_
     refine D.am _ ?_
     refine D.q5 1 4 7 8 39 40 hR ?_
     refine G.aY (L':=[.obj b32 (aD keyZ.enc (facM ((atT t (wgt pts t p)).take 3)))]) (congrArg (fun m=>[Ent.obj b32 (aD keyZ.enc m)]) (facM_new (l:=[(t.1,wgt pts t p 0),(t.2.1,wgt pts t p 1)]) _ (by simp [hd2.symm,hd3.symm]))) ?_
     refine G.ax (m':=0) om_ hle0 (h_5 4 7 8 39 40) ⟨3,by decide,rfl,rfl,rfl⟩
   ·have hjl:j=3:=by
     simp only [decide_eq_false_iff_not] at h41
     omega
    subst hjl
    refine G.freeze 0 rfl (fun Cm hlem hbm=>?_)
    refine G.aH [0,1,2,3,4,5,6] [] rfl kr_ (fun R hB hR=>?_)
    refine D.ps 2 ?_
    refine D.al (hwv.mono mup) rfl rfl rfl rfl rfl rfl rfl rfl rfl rfl om_ (rfl:(List.map encN (i::r))[0]?=some (encN i)) fl_ (fun p52 hp52=>?_)
    refine D.aa hp52 ?_
    refine D.q3 3 4 5 6 hR ?_
    refine G.az (G.dropAll (G.eM rfl rfl rfl rfl ?_))
    exact ⟨rfl,b32,rfl,hbm⟩
theorem bQ (t:Tri)(f:Nat->Rat)(j:Nat)(hj:j<3)(h:t.1≠t.2.1/\t.1≠t.2.2/\t.2.1≠t.2.2):mset (facM ((atT t f).take j)) ((triN t j:Nat):Int) (strV (qtx (f j)))=facM ((atT t f).take (j+1)):=by
 rcases (by omega:j=0∨j=1∨j=2) with rfl | rfl | rfl
 ·exact facM_new (l:=[]) _ (by simp)
 ·exact facM_new (l:=[(t.1,f 0)]) (k:=t.2.1) _ (by simpa using h.1.symm)
 ·exact facM_new (l:=[(t.1,f 0),(t.2.1,f 1)]) (k:=t.2.2) _ (by simp [h.2.1.symm,h.2.2.symm])
def unitF (n k:Nat):List Rat:=rowF n [(k,1)]
def slf (pts:List Pt)(t:Tri)(j:Nat):Pt:=cJ pts (unitF pts.length (triN t j)) t
theorem d6 (n k:Nat):(unitF n k).length=n:=rowF_len n _
theorem unitF_01 {n k:Nat}:∀ q∈unitF n k,q=0∨q=1:=by
 intro q hq
 unfold unitF rowF at hq
 obtain ⟨j,_,rfl⟩:=List.mem_map.1 hq
 simp only [mget]
 split
 ·exact .inr rfl
 ·exact .inl rfl
theorem unitF_qb {n k:Nat}:∀ q∈unitF n k,QB 1 q:=by
 intro q hq
 rcases unitF_01 q hq with rfl | rfl
 ·exact QB_zero
 ·exact QB_one
theorem cslopes_fn (C:Mem)(hT:Tabs C)(mv:Value)(pts:List Pt)(tris:List Tri)(i:Nat)(t:Tri)(hm:MeshIn C mv pts tris)(hG:Good pts tris)(ht:tris[i]?=some t)(hw:∀ j,QP 22 (slf pts t j)) :
  Pur cx.P 69 [mv,.int .i64 i] C fun u D=>∃ be bn,u=.tuple #[.map (some be),.map (some bn),.int .i64 0]/\D be=some (aD keyZ.enc (facM (atT t fun j=>(slf pts t j).1)))/\D bn=some (aD keyZ.enc (facM (atT t fun j=>(slf pts t j).2))):=by
 have hM:=hG.ok
 have hm0:=hm
 have hlp:=hM.lp
 have hti:=hM.ins t (List.mem_of_getElem? ht)
 obtain ⟨hti1,hti2,hti3⟩:=id hti
 have hil:=(List.getElem?_eq_some_iff.1 ht).1
 obtain ⟨hd1,hd2,hd3⟩:=tri_diff hM (List.mem_of_getElem? ht)
 obtain ⟨v1,v2,rfl,h1,h2⟩:=id hm.ex
 obtain ⟨A1,c1,rfl,hq1,hq2,_⟩:=id h1
 obtain ⟨A2,c2,rfl,hq3,hq4,_⟩:=id h2
 have hmx:maxLen<=9223372036854775807:=by simp [maxLen]
 simp only [List.length_map] at h1 h2 hm0 hq3 ⊢
 refine Fn.it kr_ Tryz.func69 51 fun w0=>?_
 refine G.rg fun R hR=>?_
 refine D.aB (fun b2=>?_)
 refine D.q2 3 1 2 hR ?_
 refine G.freeze 0 rfl (fun C2 hle2 hb2=>?_)
 refine G.rg fun R hR=>?_
 refine D.makeMap keyZ rfl rfl rfl rfl fl_ (fun b12=>?_)
 refine D.makeMap keyZ rfl rfl rfl rfl fl_ (fun b13=>?_)
 refine D.q4 2 1 2 4 5 hR ?_
 refine G.rp 1 fun R hR=>?_
 refine D.aa (bkT hb2 1) ?_
 refine D.ac ?_
 refine D.al (h2.mono mup) rfl rfl rfl rfl rfl rfl rfl rfl rfl rfl om_ (bt ht) fl_ (fun p17 hp17=>?_)
 refine D.aa hp17 ?_
 refine D.q6 1 1 2 4 5 18 19 hR ?_
 refine G.perm (L':=[.obj b12 (aD keyZ.enc (facM [])),.obj b13 (aD keyZ.enc (facM []))]) (List.Perm.swap _ _ _) ?_
 refine G.loop (fun fr C' L' μ=>∃ (j:Nat),(j<=3)/\fr=[(1,[],.int .i64 i),(2,[],.pointer (some ⟨b2,0,none⟩)),(4,[],.map (some b12)),(5,[],.map (some b13)),(18,[],.agg ⟨encT t⟩),(19,[],.int .i64 j)]/\L'=[.obj b12 (aD keyZ.enc (facM ((atT t fun j=>(slf pts t j).1).take j))),.obj b13 (aD keyZ.enc (facM ((atT t fun j=>(slf pts t j).2).take j)))]/\μ=3-j) (h_6 1 2 4 5 18 19) ⟨0,Nat.zero_le _,rfl,rfl,rfl⟩ (fun fr C0' L0' m hle0 hI=>?_)
 obtain ⟨j,hj,rfl,rfl,rfl⟩:=hI
 refine G.z7 1 1 2 4 5 18 19 20 ?_
 refine G.cd (fun h20=>?_) fun h20=>?_
 ·have hjl:j<3:=by
   simp only [decide_eq_true_eq] at h20
   omega
  rcases (by omega:j=0∨j=1∨j=2) with rfl | rfl | rfl
  ·refine G.rg fun R hR=>?_
   refine D.bI rfl rfl rfl rfl rfl rfl rfl rfl rfl rfl rfl (fun _=>⟨by decide,by decide,rfl⟩) rfl rfl ?_
   refine D.q7 1 1 2 4 5 8 18 19 hR ?_
   refine G.aI [(4,3)] rfl (fun R hR=>?_)
   refine D.ah [[strV [48]]] (fun p22 C22 hle22 hs22=>?_)
   refine D.ac ?_
   refine D.aa (bkT hb2 1) ?_
   refine D.ac ?_
   refine D.call (repeatF_fn _ _ pts.length [48] (hs22.mono mup) om_) rfl (.inr (by decide)) rfl rfl rfl rfl rfl rfl (List.Perm.refl _) fl_ (fun v26 C26 L26 hle26 hq26=>?_)
   refine D.q8 1 1 2 4 5 8 9 18 19 hR ?_
   obtain ⟨bz,rfl,rfl⟩:=hq26
   have hkp:triN t 0<pts.length:=dg hti 0
   refine G.aY (L':=[.arr (.slice (some ⟨bz,0,none⟩) pts.length pts.length) 32 1 pts.length (facV pts.length []),.obj b12 (aD keyZ.enc (facM ((atT t fun j=>(slf pts t j).1).take 0))),.obj b13 (aD keyZ.enc (facM ((atT t fun j=>(slf pts t j).2).take 0)))]) (by rw [facV_nil];rfl) ?_
   refine G.rp 2 fun R hR=>?_
   refine D.ce ((triN t 0)) rfl rfl rfl rfl rfl rfl rfl rfl rfl rfl (fun _=>⟨by omega,by omega,(Nat.mul_one _).symm⟩) rfl rfl ?_
   refine D.bH (j:=0) rfl rfl rfl rfl rfl rfl rfl rfl rfl rfl rfl (by rw [facV_len];simp;omega) ?_
   refine D.e8 1 2 4 5 8 9 18 19 hR ?_
   refine G.aY (L':=[.arr (.slice (some ⟨bz,0,none⟩) pts.length pts.length) 32 1 pts.length (facV pts.length [(triN t 0,1)]),.obj b12 (aD keyZ.enc (facM ((atT t fun j=>(slf pts t j).1).take 0))),.obj b13 (aD keyZ.enc (facM ((atT t fun j=>(slf pts t j).2).take 0)))]) (by rw [<- facV_store [] 1 hkp,eo];rfl) ?_
   refine G.freezeArr 0 ((unitF pts.length (triN t 0)).map encQ) rfl (facV_flat _ _) (by intro r hr;obtain ⟨y,_,rfl⟩:=List.mem_map.1 hr;rfl) (by rw [List.length_map,d6]) (fun Cz hz hsz=>?_)
   refine G.rg fun R hR=>?_
   refine D.aa (bkT hb2 2) ?_
   refine D.ps 2 ?_
   refine D.ai (slope_fn _ (hT.mono mup) _ _ pts tris (unitF pts.length (triN t 0)) 1 (by decide) (by decide) (hm0.mono mup) hG (hsz.mono mup) (d6 _ _) unitF_qb (fun q hq=>ba ((unitF_qb q hq).le (by decide))) i t ht (hw 0)) rfl rfl rfl rfl rfl rfl rfl fl_ ?_
   refine D.ps 3 ?_
   refine D.aj (fun b10=>?_)
   refine D.ag (j:=0) ?_
   refine D.q9 1 1 2 4 5 8 10 11 18 19 hR ?_
   refine G.z10 2 1 2 4 5 8 10 11 18 19 38 ?_
   refine G.cd (fun h38=>?_) fun h38=>?_
   ·exact absurd h38 (by decide)
   ·refine G.freeze 0 rfl (fun C10 hle10 hb10=>?_)
    refine G.cut (fun fr C' L' μ=>(True)/\fr=[(1,[],.int .i64 i),(2,[],.pointer (some ⟨b2,0,none⟩)),(4,[],.map (some b12)),(5,[],.map (some b13)),(18,[],.agg ⟨encT t⟩),(19,[],.int .i64 ((0:Nat):Int))]/\L'=[.obj b12 (aD keyZ.enc (facM ((atT t fun j=>(slf pts t j).1).take (0+1)))),.obj b13 (aD keyZ.enc (facM ((atT t fun j=>(slf pts t j).2).take (0+1))))]) ?_ (fun fr Cr10 Lr10 μ hler10 hI=>?_)
    ·refine G.cX (.cut [0,1,2,3,4,5,6] (.alt 7 (.fin [8,9]) (.alt 8 (.fin [7,9]) .stop))) [] rfl rfl kr_ (fun R hB hR hH=>?_)
     refine D.ps 5 ?_
     refine D.aa (bkT hb10 1) ?_
     refine D.ac ?_
     refine D.bJ hH rfl ⟨?_, ?_,trivial⟩
     ·refine D.aa (bkT hb10 1) ?_
      first | refine D.mapUpdate keyZ (j:=0) rfl rfl rfl rfl rfl rfl rfl rfl rfl rfl kr_ ?_ | refine D.mapUpdate keyZ (j:=1) rfl rfl rfl rfl rfl rfl rfl rfl rfl rfl kr_ ?_
      first | refine D.mapUpdate keyZ (j:=1) rfl rfl rfl rfl rfl rfl rfl rfl rfl rfl kr_ ?_ | refine D.mapUpdate keyZ (j:=0) rfl rfl rfl rfl rfl rfl rfl rfl rfl rfl kr_ ?_
      refine D.e6 1 2 4 5 18 19 hR ?_
      refine G.perm (L':=[.obj b12 (aD keyZ.enc (facM ((atT t fun j=>(slf pts t j).1).take (0+1)))),.obj b13 (aD keyZ.enc (facM ((atT t fun j=>(slf pts t j).2).take (0+1))))]) (by
       rw [<- bQ t (fun j=>(slf pts t j).1) 0 (by decide) ⟨hd1,hd2,hd3⟩,<- bQ t (fun j=>(slf pts t j).2) 0 (by decide) ⟨hd1,hd2,hd3⟩]
       first | exact List.Perm.refl _ | exact List.Perm.swap _ _ _) ?_
      exact G.aw 0 (Mem.le.refl _) (h_6 1 2 4 5 18 19) ⟨trivial,rfl,rfl⟩
     ·first | refine D.mapUpdate keyZ (j:=0) rfl rfl rfl rfl rfl rfl rfl rfl rfl rfl kr_ ?_ | refine D.mapUpdate keyZ (j:=1) rfl rfl rfl rfl rfl rfl rfl rfl rfl rfl kr_ ?_
      refine D.aa (bkT hb10 1) ?_
      first | refine D.mapUpdate keyZ (j:=1) rfl rfl rfl rfl rfl rfl rfl rfl rfl rfl kr_ ?_ | refine D.mapUpdate keyZ (j:=0) rfl rfl rfl rfl rfl rfl rfl rfl rfl rfl kr_ ?_
      refine D.e6 1 2 4 5 18 19 hR ?_
      refine G.perm (L':=[.obj b12 (aD keyZ.enc (facM ((atT t fun j=>(slf pts t j).1).take (0+1)))),.obj b13 (aD keyZ.enc (facM ((atT t fun j=>(slf pts t j).2).take (0+1))))]) (by
       rw [<- bQ t (fun j=>(slf pts t j).1) 0 (by decide) ⟨hd1,hd2,hd3⟩,<- bQ t (fun j=>(slf pts t j).2) 0 (by decide) ⟨hd1,hd2,hd3⟩]
       first | exact List.Perm.refl _ | exact List.Perm.swap _ _ _) ?_
      exact G.aw 0 (Mem.le.refl _) (h_6 1 2 4 5 18 19) ⟨trivial,rfl,rfl⟩
    obtain ⟨_,rfl,rfl⟩:=hI
    refine G.rg fun R hR=>?_
    refine D.am _ ?_
    refine D.q6 1 1 2 4 5 18 19 hR ?_
    refine G.ax (m':=2) om_ mup (h_6 1 2 4 5 18 19) ⟨1,by decide,rfl,rfl,rfl⟩
  ·refine G.rg fun R hR=>?_
   refine D.bI rfl rfl rfl rfl rfl rfl rfl rfl rfl rfl rfl (fun _=>⟨by decide,by decide,rfl⟩) rfl rfl ?_
   refine D.q7 1 1 2 4 5 8 18 19 hR ?_
   refine G.aI [(4,3)] rfl (fun R hR=>?_)
   refine D.ah [[strV [48]]] (fun p22 C22 hle22 hs22=>?_)
   refine D.ac ?_
   refine D.aa (bkT hb2 1) ?_
   refine D.ac ?_
   refine D.call (repeatF_fn _ _ pts.length [48] (hs22.mono mup) om_) rfl (.inr (by decide)) rfl rfl rfl rfl rfl rfl (List.Perm.refl _) fl_ (fun v26 C26 L26 hle26 hq26=>?_)
   refine D.q8 1 1 2 4 5 8 9 18 19 hR ?_
   obtain ⟨bz,rfl,rfl⟩:=hq26
   have hkp:triN t 1<pts.length:=dg hti 1
   refine G.aY (L':=[.arr (.slice (some ⟨bz,0,none⟩) pts.length pts.length) 32 1 pts.length (facV pts.length []),.obj b12 (aD keyZ.enc (facM ((atT t fun j=>(slf pts t j).1).take 1))),.obj b13 (aD keyZ.enc (facM ((atT t fun j=>(slf pts t j).2).take 1)))]) (by rw [facV_nil];rfl) ?_
   refine G.rp 2 fun R hR=>?_
   refine D.ce ((triN t 1)) rfl rfl rfl rfl rfl rfl rfl rfl rfl rfl (fun _=>⟨by omega,by omega,(Nat.mul_one _).symm⟩) rfl rfl ?_
   refine D.bH (j:=0) rfl rfl rfl rfl rfl rfl rfl rfl rfl rfl rfl (by rw [facV_len];simp;omega) ?_
   refine D.e8 1 2 4 5 8 9 18 19 hR ?_
   refine G.aY (L':=[.arr (.slice (some ⟨bz,0,none⟩) pts.length pts.length) 32 1 pts.length (facV pts.length [(triN t 1,1)]),.obj b12 (aD keyZ.enc (facM ((atT t fun j=>(slf pts t j).1).take 1))),.obj b13 (aD keyZ.enc (facM ((atT t fun j=>(slf pts t j).2).take 1)))]) (by rw [<- facV_store [] 1 hkp,eo];rfl) ?_
   refine G.freezeArr 0 ((unitF pts.length (triN t 1)).map encQ) rfl (facV_flat _ _) (by intro r hr;obtain ⟨y,_,rfl⟩:=List.mem_map.1 hr;rfl) (by rw [List.length_map,d6]) (fun Cz hz hsz=>?_)
   refine G.rg fun R hR=>?_
   refine D.aa (bkT hb2 2) ?_
   refine D.ps 2 ?_
   refine D.ai (slope_fn _ (hT.mono mup) _ _ pts tris (unitF pts.length (triN t 1)) 1 (by decide) (by decide) (hm0.mono mup) hG (hsz.mono mup) (d6 _ _) unitF_qb (fun q hq=>ba ((unitF_qb q hq).le (by decide))) i t ht (hw 1)) rfl rfl rfl rfl rfl rfl rfl fl_ ?_
   refine D.ps 3 ?_
   refine D.aj (fun b10=>?_)
   refine D.ag (j:=0) ?_
   refine D.q9 1 1 2 4 5 8 10 11 18 19 hR ?_
   refine G.z10 2 1 2 4 5 8 10 11 18 19 38 ?_
   refine G.cd (fun h38b=>?_) fun h38b=>?_
   ·exact absurd h38b (by decide)
   ·refine G.freeze 0 rfl (fun C10 hle10 hb10=>?_)
    refine G.cut (fun fr C' L' μ=>(True)/\fr=[(1,[],.int .i64 i),(2,[],.pointer (some ⟨b2,0,none⟩)),(4,[],.map (some b12)),(5,[],.map (some b13)),(18,[],.agg ⟨encT t⟩),(19,[],.int .i64 ((1:Nat):Int))]/\L'=[.obj b12 (aD keyZ.enc (facM ((atT t fun j=>(slf pts t j).1).take (1+1)))),.obj b13 (aD keyZ.enc (facM ((atT t fun j=>(slf pts t j).2).take (1+1))))]) ?_ (fun fr Cr10b Lr10b μ hler10b hI=>?_)
    ·refine G.cX (.cut [0,1,2,3,4,5,6] (.alt 7 (.fin [8,9]) (.alt 8 (.fin [7,9]) .stop))) [] rfl rfl kr_ (fun R hB hR hH=>?_)
     refine D.ps 5 ?_
     refine D.aa (bkT hb10 1) ?_
     refine D.ac ?_
     refine D.bJ hH rfl ⟨?_, ?_,trivial⟩
     ·refine D.aa (bkT hb10 1) ?_
      first | refine D.mapUpdate keyZ (j:=0) rfl rfl rfl rfl rfl rfl rfl rfl rfl rfl kr_ ?_ | refine D.mapUpdate keyZ (j:=1) rfl rfl rfl rfl rfl rfl rfl rfl rfl rfl kr_ ?_
      first | refine D.mapUpdate keyZ (j:=1) rfl rfl rfl rfl rfl rfl rfl rfl rfl rfl kr_ ?_ | refine D.mapUpdate keyZ (j:=0) rfl rfl rfl rfl rfl rfl rfl rfl rfl rfl kr_ ?_
      refine D.e6 1 2 4 5 18 19 hR ?_
      refine G.perm (L':=[.obj b12 (aD keyZ.enc (facM ((atT t fun j=>(slf pts t j).1).take (1+1)))),.obj b13 (aD keyZ.enc (facM ((atT t fun j=>(slf pts t j).2).take (1+1))))]) (by
       rw [<- bQ t (fun j=>(slf pts t j).1) 1 (by decide) ⟨hd1,hd2,hd3⟩,<- bQ t (fun j=>(slf pts t j).2) 1 (by decide) ⟨hd1,hd2,hd3⟩]
       first | exact List.Perm.refl _ | exact List.Perm.swap _ _ _) ?_
      exact G.aw 0 (Mem.le.refl _) (h_6 1 2 4 5 18 19) ⟨trivial,rfl,rfl⟩
     ·first | refine D.mapUpdate keyZ (j:=0) rfl rfl rfl rfl rfl rfl rfl rfl rfl rfl kr_ ?_ | refine D.mapUpdate keyZ (j:=1) rfl rfl rfl rfl rfl rfl rfl rfl rfl rfl kr_ ?_
      refine D.aa (bkT hb10 1) ?_
      first | refine D.mapUpdate keyZ (j:=1) rfl rfl rfl rfl rfl rfl rfl rfl rfl rfl kr_ ?_ | refine D.mapUpdate keyZ (j:=0) rfl rfl rfl rfl rfl rfl rfl rfl rfl rfl kr_ ?_
      refine D.e6 1 2 4 5 18 19 hR ?_
      refine G.perm (L':=[.obj b12 (aD keyZ.enc (facM ((atT t fun j=>(slf pts t j).1).take (1+1)))),.obj b13 (aD keyZ.enc (facM ((atT t fun j=>(slf pts t j).2).take (1+1))))]) (by
       rw [<- bQ t (fun j=>(slf pts t j).1) 1 (by decide) ⟨hd1,hd2,hd3⟩,<- bQ t (fun j=>(slf pts t j).2) 1 (by decide) ⟨hd1,hd2,hd3⟩]
       first | exact List.Perm.refl _ | exact List.Perm.swap _ _ _) ?_
      exact G.aw 0 (Mem.le.refl _) (h_6 1 2 4 5 18 19) ⟨trivial,rfl,rfl⟩
    obtain ⟨_,rfl,rfl⟩:=hI
    refine G.rg fun R hR=>?_
    refine D.am _ ?_
    refine D.q6 1 1 2 4 5 18 19 hR ?_
    refine G.ax (m':=1) om_ mup (h_6 1 2 4 5 18 19) ⟨2,by decide,rfl,rfl,rfl⟩
  ·refine G.rg fun R hR=>?_
   refine D.bI rfl rfl rfl rfl rfl rfl rfl rfl rfl rfl rfl (fun _=>⟨by decide,by decide,rfl⟩) rfl rfl ?_
   refine D.q7 1 1 2 4 5 8 18 19 hR ?_
   refine G.aI [(4,3)] rfl (fun R hR=>?_)
   refine D.ah [[strV [48]]] (fun p22 C22 hle22 hs22=>?_)
   refine D.ac ?_
   refine D.aa (bkT hb2 1) ?_
   refine D.ac ?_
   refine D.call (repeatF_fn _ _ pts.length [48] (hs22.mono mup) om_) rfl (.inr (by decide)) rfl rfl rfl rfl rfl rfl (List.Perm.refl _) fl_ (fun v26 C26 L26 hle26 hq26=>?_)
   refine D.q8 1 1 2 4 5 8 9 18 19 hR ?_
   obtain ⟨bz,rfl,rfl⟩:=hq26
   have hkp:triN t 2<pts.length:=dg hti 2
   refine G.aY (L':=[.arr (.slice (some ⟨bz,0,none⟩) pts.length pts.length) 32 1 pts.length (facV pts.length []),.obj b12 (aD keyZ.enc (facM ((atT t fun j=>(slf pts t j).1).take 2))),.obj b13 (aD keyZ.enc (facM ((atT t fun j=>(slf pts t j).2).take 2)))]) (by rw [facV_nil];rfl) ?_
   refine G.rp 2 fun R hR=>?_
   refine D.ce ((triN t 2)) rfl rfl rfl rfl rfl rfl rfl rfl rfl rfl (fun _=>⟨by omega,by omega,(Nat.mul_one _).symm⟩) rfl rfl ?_
   refine D.bH (j:=0) rfl rfl rfl rfl rfl rfl rfl rfl rfl rfl rfl (by rw [facV_len];simp;omega) ?_
   refine D.e8 1 2 4 5 8 9 18 19 hR ?_
   refine G.aY (L':=[.arr (.slice (some ⟨bz,0,none⟩) pts.length pts.length) 32 1 pts.length (facV pts.length [(triN t 2,1)]),.obj b12 (aD keyZ.enc (facM ((atT t fun j=>(slf pts t j).1).take 2))),.obj b13 (aD keyZ.enc (facM ((atT t fun j=>(slf pts t j).2).take 2)))]) (by rw [<- facV_store [] 1 hkp,eo];rfl) ?_
   refine G.freezeArr 0 ((unitF pts.length (triN t 2)).map encQ) rfl (facV_flat _ _) (by intro r hr;obtain ⟨y,_,rfl⟩:=List.mem_map.1 hr;rfl) (by rw [List.length_map,d6]) (fun Cz hz hsz=>?_)
   refine G.rg fun R hR=>?_
   refine D.aa (bkT hb2 2) ?_
   refine D.ps 2 ?_
   refine D.ai (slope_fn _ (hT.mono mup) _ _ pts tris (unitF pts.length (triN t 2)) 1 (by decide) (by decide) (hm0.mono mup) hG (hsz.mono mup) (d6 _ _) unitF_qb (fun q hq=>ba ((unitF_qb q hq).le (by decide))) i t ht (hw 2)) rfl rfl rfl rfl rfl rfl rfl fl_ ?_
   refine D.ps 3 ?_
   refine D.aj (fun b10=>?_)
   refine D.ag (j:=0) ?_
   refine D.q9 1 1 2 4 5 8 10 11 18 19 hR ?_
   refine G.z10 2 1 2 4 5 8 10 11 18 19 38 ?_
   refine G.cd (fun h38c=>?_) fun h38c=>?_
   ·exact absurd h38c (by decide)
   ·refine G.freeze 0 rfl (fun C10 hle10 hb10=>?_)
    refine G.cut (fun fr C' L' μ=>(True)/\fr=[(1,[],.int .i64 i),(2,[],.pointer (some ⟨b2,0,none⟩)),(4,[],.map (some b12)),(5,[],.map (some b13)),(18,[],.agg ⟨encT t⟩),(19,[],.int .i64 ((2:Nat):Int))]/\L'=[.obj b12 (aD keyZ.enc (facM ((atT t fun j=>(slf pts t j).1).take (2+1)))),.obj b13 (aD keyZ.enc (facM ((atT t fun j=>(slf pts t j).2).take (2+1))))]) ?_ (fun fr Cr10c Lr10c μ hler10c hI=>?_)
    ·refine G.cX (.cut [0,1,2,3,4,5,6] (.alt 7 (.fin [8,9]) (.alt 8 (.fin [7,9]) .stop))) [] rfl rfl kr_ (fun R hB hR hH=>?_)
     refine D.ps 5 ?_
     refine D.aa (bkT hb10 1) ?_
     refine D.ac ?_
     refine D.bJ hH rfl ⟨?_, ?_,trivial⟩
     ·refine D.aa (bkT hb10 1) ?_
      first | refine D.mapUpdate keyZ (j:=0) rfl rfl rfl rfl rfl rfl rfl rfl rfl rfl kr_ ?_ | refine D.mapUpdate keyZ (j:=1) rfl rfl rfl rfl rfl rfl rfl rfl rfl rfl kr_ ?_
      first | refine D.mapUpdate keyZ (j:=1) rfl rfl rfl rfl rfl rfl rfl rfl rfl rfl kr_ ?_ | refine D.mapUpdate keyZ (j:=0) rfl rfl rfl rfl rfl rfl rfl rfl rfl rfl kr_ ?_
      refine D.e6 1 2 4 5 18 19 hR ?_
      refine G.perm (L':=[.obj b12 (aD keyZ.enc (facM ((atT t fun j=>(slf pts t j).1).take (2+1)))),.obj b13 (aD keyZ.enc (facM ((atT t fun j=>(slf pts t j).2).take (2+1))))]) (by
       rw [<- bQ t (fun j=>(slf pts t j).1) 2 (by decide) ⟨hd1,hd2,hd3⟩,<- bQ t (fun j=>(slf pts t j).2) 2 (by decide) ⟨hd1,hd2,hd3⟩]
       first | exact List.Perm.refl _ | exact List.Perm.swap _ _ _) ?_
      exact G.aw 0 (Mem.le.refl _) (h_6 1 2 4 5 18 19) ⟨trivial,rfl,rfl⟩
     ·first | refine D.mapUpdate keyZ (j:=0) rfl rfl rfl rfl rfl rfl rfl rfl rfl rfl kr_ ?_ | refine D.mapUpdate keyZ (j:=1) rfl rfl rfl rfl rfl rfl rfl rfl rfl rfl kr_ ?_
      refine D.aa (bkT hb10 1) ?_
      first | refine D.mapUpdate keyZ (j:=1) rfl rfl rfl rfl rfl rfl rfl rfl rfl rfl kr_ ?_ | refine D.mapUpdate keyZ (j:=0) rfl rfl rfl rfl rfl rfl rfl rfl rfl rfl kr_ ?_
      refine D.e6 1 2 4 5 18 19 hR ?_
      refine G.perm (L':=[.obj b12 (aD keyZ.enc (facM ((atT t fun j=>(slf pts t j).1).take (2+1)))),.obj b13 (aD keyZ.enc (facM ((atT t fun j=>(slf pts t j).2).take (2+1))))]) (by
       rw [<- bQ t (fun j=>(slf pts t j).1) 2 (by decide) ⟨hd1,hd2,hd3⟩,<- bQ t (fun j=>(slf pts t j).2) 2 (by decide) ⟨hd1,hd2,hd3⟩]
       first | exact List.Perm.refl _ | exact List.Perm.swap _ _ _) ?_
      exact G.aw 0 (Mem.le.refl _) (h_6 1 2 4 5 18 19) ⟨trivial,rfl,rfl⟩
    obtain ⟨_,rfl,rfl⟩:=hI
    refine G.rg fun R hR=>?_
    refine D.am _ ?_
    refine D.q6 1 1 2 4 5 18 19 hR ?_
    refine G.ax (m':=0) om_ mup (h_6 1 2 4 5 18 19) ⟨3,by decide,rfl,rfl,rfl⟩
 ·have hjl:j=3:=by
   simp only [decide_eq_false_iff_not] at h20
   omega
  subst hjl
  refine G.freeze 0 rfl (fun Cm hlem hbm=>?_)
  refine G.freeze 0 rfl (fun Cn hlen hbn=>?_)
  refine G.z3 5 4 5 6 ?_
  refine G.az (G.dropAll (G.eM rfl rfl rfl rfl ?_))
  exact ⟨rfl,b12,b13,rfl,Mem.get hbm mup,hbn⟩

theorem cloneR_fn (C:Mem)(v:Value)(l:List Rat)(hv:Sl C 1 v (l.map encQ))(hl:l.length<=1000000):Jog.Fn cx.P 109 [v] C [] fun u _C' L'=>∃ A n c,u=.slice A n c/\L'=[.arr (.slice A n c) 32 1 l.length (l.map encQ).flatten]:=by
 obtain ⟨A0,c0,rfl,hc1,hc2,hc3,hc4⟩:=id hv
 have hmx:maxLen<=9223372036854775807:=by simp [maxLen]
 simp only [List.length_map] at hv hc1 ⊢
 refine Fn.it kr_ Tryz.func109 8 fun w0=>?_
 refine G.z1 1 0 ?_
 refine G.rp 1 fun R hR=>?_
 refine D.nilEq rfl rfl rfl rfl rfl rfl rfl rfl rfl ?_
 refine D.e2 0 4 hR ?_
 refine G.cd (fun h4=>?_) fun h4=>?_
 ·have hA:A0=none:=by
   cases A0 with
   | none=>rfl
   | some a=>cases h4
  have hnil:l=[]:=by
   cases l with
   | nil=>rfl
   | cons q r =>
    obtain ⟨a,ha,_⟩:=hc4 0 (encQ q) rfl
    rw [hA] at ha
    cases ha
  refine G.z1 1 2 ?_
  refine G.nilArr 32 1 ?_
  refine G.az (G.fin1 rfl rfl ?_)
  exact ⟨none,0,0,rfl,by rw [hnil];rfl⟩
 ·refine G.rg fun R hR=>?_
  refine D.bK [] rfl rfl rfl rfl rfl rfl rfl rfl rfl rfl rfl rfl fl_ (fun b5=>?_)
  refine D.ac ?_
  refine D.aS (j:=0) rfl rfl rfl rfl rfl rfl rfl rfl rfl rfl rfl (hv.mono mup) (by simp [encQ,oneB,strV]) (by simp only [List.length_map,List.length_nil,maxLen];omega) (by simp only [List.length_map,List.length_nil];omega) fl_ (fun A7 n7 c7=>?_)
  refine D.q1 1 2 hR ?_
  refine G.aY (L':=[.arr (.slice A7 n7 c7) 32 1 l.length (l.map encQ).flatten]) (by simp) ?_
  refine G.az (G.fin1 rfl rfl ?_)
  exact ⟨A7,n7,c7,rfl,rfl⟩

def RowR (r:RowQ):Prop:=(∀ q∈r.f,QB 22 q)/\QB 22 r.b
theorem rowCells_at {vs:List Value}{rows:List RowQ}{i:Nat}{w:Value}{r:RowQ}(h1:vs[i]?=some w)(h2:rows[i]?=some r):(bd vs rows)[i]?=some [w,strV (qtx r.b)]:=by
 unfold bd
 rw [List.getElem?_zipWith,h1,h2]
theorem bounded_fn (C:Mem)(hT:Tabs C)(v:Value)(rows:List RowQ)(hv:RowsIn C v rows)(hr:∀ r∈rows,RowR r)(hfl:∀ r∈rows,r.f.length<=1000)(hrl:rows.length<=100000) :
  Gives cx.P 71 [v] C (.tuple #[v,.int .i64 0]):=by
 obtain ⟨vs,hok,hsv⟩:=hv
 obtain ⟨A0,c0,rfl,hc1,hc2,_⟩:=id hsv
 have hmx:maxLen<=9223372036854775807:=by simp [maxLen]
 simp only [dO hok.1] at hsv hc1 ⊢
 refine Fn.it kr_ Tryz.func71 32 fun w0=>?_
 refine G.z1 2 0 ?_
 refine G.z4 3 0 8 9 10 ?_
 refine G.loop (fun fr C' L' μ=>∃ (i:Nat),(i<=rows.length)/\fr=[(0,[],.slice A0 rows.length c0),(8,[],.slice A0 rows.length c0),(9,[],.int .i64 rows.length),(10,[],.int .i64 i)]/\L'=[]/\μ=rows.length-i) (h_4 0 8 9 10) ⟨0,Nat.zero_le _,rfl,rfl,rfl⟩ (fun fr C0' L0' m hle0 hI=>?_)
 obtain ⟨i,hi,rfl,rfl,rfl⟩:=hI
 refine G.z5 1 0 8 9 10 11 ?_
 refine G.cd (fun h11=>?_) fun h11=>?_
 ·have hil:i<rows.length:=by simpa using h11
  obtain ⟨r,hx⟩:∃ r,rows[i]?=some r:=⟨rows[i],List.getElem?_eq_getElem hil⟩
  obtain ⟨w,hw⟩:∃ w,vs[i]?=some w:=⟨vs[i]'(by rw [hok.1];exact hil),List.getElem?_eq_getElem _⟩
  have hrm:=List.mem_of_getElem? hx
  obtain ⟨hrf,hrb⟩:=hr r hrm
  have hfl1:=hfl r hrm
  have hlb:(r.f++[r.b]).length<=1001:=by simp;omega
  have hsw:=hok.2 i w r hw hx
  obtain ⟨Aw,cw,rfl,_⟩:=id hsw
  refine G.rg fun R hR=>?_
  refine D.al (hsv.mono mup) rfl rfl rfl rfl rfl rfl rfl rfl rfl rfl om_ (rowCells_at hw hx) fl_ (fun p12 hp12=>?_)
  refine D.aa hp12 ?_
  refine D.aj (fun b5=>?_)
  refine D.ag (j:=0) ?_
  refine D.e5 0 5 8 9 10 hR ?_
  refine G.freeze 0 rfl (fun C5 hle5 hb5=>?_)
  refine G.cut (fun fr C' L' μ=>∃ (A20:Option Addr)(c20:Nat),(Sl C' 1 (.slice A20 (r.f++[r.b]).length c20) ((r.f++[r.b]).map encQ))/\fr=[(0,[],.slice A0 rows.length c0),(8,[],.slice A0 rows.length c0),(9,[],.int .i64 rows.length),(10,[],.int .i64 i),(20,[],.slice A20 (r.f++[r.b]).length c20),(21,[],.int .i64 (r.f++[r.b]).length),(22,[],.int .i64 0)]/\L'=[]) ?_ (fun fr Cr4 Lr4 μ hler4 hI=>?_)
  ·refine G.cX (.cut [0,1,3,8] (.alt 2 (.fin [4,5,6,7]) (.alt 4 (.cut [] (.alt 2 (.fin [5,6,7]) (.alt 5 (.fin [2,6,7]) .stop))) .stop))) [(2,3)] rfl rfl kr_ (fun R hB hR hH=>?_)
   refine D.ac ?_
   refine D.aa (bkT hb5 1) ?_
   refine D.ps 2 ?_
   refine D.bJ hH rfl ⟨?_, ?_,trivial⟩
   ·refine D.call (cloneR_fn _ _ r.f (hsw.mono mup) om_) rfl (.inr (by decide)) rfl rfl rfl rfl rfl rfl (List.Perm.refl _) fl_ (fun v16 C16 L16 hle16 hq16=>?_)
    refine D.aa (bkT hb5 1) ?_
    refine D.ah [encQ r.b] (fun p19 C19 hle19 hs19=>?_)
    obtain ⟨Ac,nc,cc,rfl,rfl⟩:=hq16
    refine D.aS (j:=0) rfl rfl rfl rfl rfl rfl rfl rfl rfl rfl rfl (hs19.mono mup) (by simp [encQ,oneB,strV]) (by simp only [List.length_singleton,maxLen];omega) (by simp only [List.length_singleton];omega) fl_ (fun A20 n20 c20=>?_)
    refine D.q7 1 0 8 9 10 20 21 22 hR ?_
    refine G.freezeArr 0 ((r.f++[r.b]).map encQ) rfl (by simp) (by intro r hr;obtain ⟨y,_,rfl⟩:=List.mem_map.1 hr;rfl) (by simp) (fun Cz hz hsz=>?_)
    obtain ⟨Az,cz,hze,_⟩:=id hsz
    cases hze
    simp only [List.length_map] at hsz ⊢
    refine G.dropAll ?_
    exact G.aw 0 mup (h_7 0 8 9 10 20 21 22) ⟨_,_,hsz,rfl,rfl⟩
   ·refine D.aa (bkT hb5 1) ?_
    refine D.bJ hH rfl ⟨?_, ?_,trivial⟩
    ·refine D.call (cloneR_fn _ _ r.f (hsw.mono mup) om_) rfl (.inr (by decide)) rfl rfl rfl rfl rfl rfl (List.Perm.refl _) fl_ (fun v16 C16 L16 hle16 hq16=>?_)
     refine D.ah [encQ r.b] (fun p19 C19 hle19 hs19=>?_)
     obtain ⟨Ac,nc,cc,rfl,rfl⟩:=hq16
     refine D.aS (j:=0) rfl rfl rfl rfl rfl rfl rfl rfl rfl rfl rfl (hs19.mono mup) (by simp [encQ,oneB,strV]) (by simp only [List.length_singleton,maxLen];omega) (by simp only [List.length_singleton];omega) fl_ (fun A20 n20 c20=>?_)
     refine D.q7 1 0 8 9 10 20 21 22 hR ?_
     refine G.freezeArr 0 ((r.f++[r.b]).map encQ) rfl (by simp) (by intro r hr;obtain ⟨y,_,rfl⟩:=List.mem_map.1 hr;rfl) (by simp) (fun Cz hz hsz=>?_)
     obtain ⟨Az,cz,hze,_⟩:=id hsz
     cases hze
     simp only [List.length_map] at hsz ⊢
     refine G.dropAll ?_
     exact G.aw 0 mup (h_7 0 8 9 10 20 21 22) ⟨_,_,hsz,rfl,rfl⟩
    ·refine D.ah [encQ r.b] (fun p19 C19 hle19 hs19=>?_)
     refine D.call (cloneR_fn _ _ r.f (hsw.mono mup) om_) rfl (.inr (by decide)) rfl rfl rfl rfl rfl rfl (List.Perm.refl _) fl_ (fun v16 C16 L16 hle16 hq16=>?_)
     obtain ⟨Ac,nc,cc,rfl,rfl⟩:=hq16
     refine D.aS (j:=0) rfl rfl rfl rfl rfl rfl rfl rfl rfl rfl rfl (hs19.mono mup) (by simp [encQ,oneB,strV]) (by simp only [List.length_singleton,maxLen];omega) (by simp only [List.length_singleton];omega) fl_ (fun A20 n20 c20=>?_)
     refine D.q7 1 0 8 9 10 20 21 22 hR ?_
     refine G.freezeArr 0 ((r.f++[r.b]).map encQ) rfl (by simp) (by intro r hr;obtain ⟨y,_,rfl⟩:=List.mem_map.1 hr;rfl) (by simp) (fun Cz hz hsz=>?_)
     obtain ⟨Az,cz,hze,_⟩:=id hsz
     cases hze
     simp only [List.length_map] at hsz ⊢
     refine G.dropAll ?_
     exact G.aw 0 mup (h_7 0 8 9 10 20 21 22) ⟨_,_,hsz,rfl,rfl⟩
  obtain ⟨A20,c20,hs20,rfl,rfl⟩:=hI
  refine G.loop (fun fr C' L' μ=>∃ (j:Nat),(j<=(r.f++[r.b]).length)/\fr=[(0,[],.slice A0 rows.length c0),(8,[],.slice A0 rows.length c0),(9,[],.int .i64 rows.length),(10,[],.int .i64 i),(20,[],.slice A20 (r.f++[r.b]).length c20),(21,[],.int .i64 (r.f++[r.b]).length),(22,[],.int .i64 j)]/\L'=[]/\μ=(r.f++[r.b]).length-j) (h_7 0 8 9 10 20 21 22) ⟨0,Nat.zero_le _,rfl,rfl,rfl⟩ (fun fr C1' L1' m hle1 hI=>?_)
  obtain ⟨j,hj,rfl,rfl,rfl⟩:=hI
  refine G.z8 1 0 8 9 10 20 21 22 23 ?_
  refine G.cd (fun h23=>?_) fun h23=>?_
  ·have hjl:j<(r.f++[r.b]).length:=by
    have:=of_decide_eq_true h23
    omega
   obtain ⟨q,hq⟩:∃ q,(r.f++[r.b])[j]?=some q:=⟨(r.f++[r.b])[j],List.getElem?_eq_getElem hjl⟩
   have hqq:QB 22 q:=by
    rcases List.mem_append.1 (List.mem_of_getElem? hq) with h | h
    ·exact hrf q h
    ·rw [List.mem_singleton.1 h];exact hrb
   refine G.rg fun R hR=>?_
   refine D.al (hs20.mono mup) rfl rfl rfl rfl rfl rfl rfl rfl rfl rfl om_ (bt hq) fl_ (fun p24 hp24=>?_)
   refine D.aa hp24 ?_
   refine D.q8 1 0 7 8 9 10 20 21 22 hR ?_
   refine G.rp 1 fun R hR=>?_
   refine D.af (cL _ (hT.mono mup) _ (r22_len hqq)) ?_
   refine D.q8 1 0 8 9 10 20 21 22 28 hR ?_
   refine G.cd (fun h28=>?_) fun h28=>?_
   ·exfalso
    rw [chk_ok hqq] at h28
    exact absurd h28 (by decide)
   ·refine G.rg fun R hR=>?_
    refine D.am _ ?_
    refine D.q7 1 0 8 9 10 20 21 22 hR ?_
    refine G.ax (m':=(r.f++[r.b]).length-(j+1)) om_ mup (h_7 0 8 9 10 20 21 22) ⟨j+1,om_,rfl,rfl,rfl⟩
  ·refine G.rg fun R hR=>?_
   refine D.am _ ?_
   refine D.q4 1 0 8 9 10 hR ?_
   refine G.ax (m':=rows.length-(i+1)) om_ mup (h_4 0 8 9 10) ⟨i+1,om_,rfl,rfl,rfl⟩
 ·refine G.z2 3 2 3 ?_
  refine G.az (G.dropAll (G.aK rfl rfl rfl ?_))
  exact ⟨rfl,rfl⟩
def rowR (s p k:Nat)(fm:List (Nat × Rat))(b sg:Rat):RowQ:=⟨rowN s p k fm sg,sg*b⟩
theorem addRow_fn (C:Mem)(hT:Tabs C)(s p surface b b14 b3:Nat)(fm:List (Nat × Rat))(bound:Rat)(sgs:List Rat)(sv w:Value)(vs:List Value)(rows:List RowQ)(hsp:s*p<=60)(hs:surface<s)(hb3:C b3=some (.cells ⟨[.int .i64 (s:Nat),.int .i64 (p:Nat)]⟩ 95 (0,0)))(hm:C b=some (aD keyZ.enc (facM fm)))(hkeys:(fm.map (·.1)).Nodup)(hin:∀ x∈fm,x.1<p)(hfq:∀ x∈fm,QB 23 x.2)(hbd:QB 23 bound)
  (hsv:Sl C 1 sv (sgs.map encQ)) (hsq:∀ q∈sgs,QB 1 q) (hsl:sgs.length<=2) (hok:RowsOk C vs rows) (hrl:rows.length<=10000) :
  Jog.Fn cx.P 66 [.int .i64 surface,.map (some b),strV (qtx bound),sv,.pointer (some ⟨b14,0,none⟩),.pointer (some ⟨b3,0,none⟩)] C [.obj b14 (.cells ⟨[w]⟩ 61 (0,0)),.arr w 81 2 rows.length (bd vs rows).flatten]
   fun u C' L'=>∃ vs' w',u=.tuple #[]/\L'=[.obj b14 (.cells ⟨[w']⟩ 61 (0,0)),.arr w' 81 2 (rows++sgs.map (rowR s p surface fm bound)).length (bd vs' (rows++sgs.map (rowR s p surface fm bound))).flatten]/\RowsOk C' vs' (rows++sgs.map (rowR s p surface fm bound)):=by
 obtain ⟨A0,c0,rfl,hc1,hc2,_⟩:=id hsv
 have hmx:maxLen<=9223372036854775807:=by simp [maxLen]
 simp only [List.length_map] at hsv hc1 ⊢
 refine Fn.it kr_ Tryz.func66 28 fun w0=>?_
 refine G.z8 3 0 1 2 4 5 12 13 14 ?_
 refine G.aY (L':=[.obj b14 (.cells ⟨[w]⟩ 61 (0,0)),.arr w 81 2 (rows++(sgs.take 0).map (rowR s p surface fm bound)).length (bd vs (rows++(sgs.take 0).map (rowR s p surface fm bound))).flatten]) (by simp) ?_
 refine G.loop (fun fr C' L' μ=>∃ (i:Nat)(vs2:List Value)(w2:Value),(i<=sgs.length/\RowsOk C' vs2 (rows++(sgs.take i).map (rowR s p surface fm bound)))/\fr=[(0,[],.int .i64 surface),(1,[],.map (some b)),(2,[],strV (qtx bound)),(4,[],.pointer (some ⟨b14,0,none⟩)),(5,[],.pointer (some ⟨b3,0,none⟩)),(12,[],.slice A0 sgs.length c0),(13,[],.int .i64 sgs.length),(14,[],.int .i64 i)]/\L'=[.obj b14 (.cells ⟨[w2]⟩ 61 (0,0)),.arr w2 81 2 (rows++(sgs.take i).map (rowR s p surface fm bound)).length (bd vs2 (rows++(sgs.take i).map (rowR s p surface fm bound))).flatten]/\μ=sgs.length-i) (h_8 0 1 2 4 5 12 13 14) ⟨0,vs,w,⟨Nat.zero_le _,by simpa using hok⟩,rfl,rfl,rfl⟩ (fun fr C0' L0' m hle0 hI=>?_)
 obtain ⟨i,vs2,w2,⟨hi,hrow⟩,rfl,rfl,rfl⟩:=hI
 refine G.z9 1 0 1 2 4 5 12 13 14 15 ?_
 refine G.cd (fun h15=>?_) fun h15=>?_
 ·have hil:i<sgs.length:=by simpa using h15
  obtain ⟨sg,hsg⟩:∃ sg,sgs[i]?=some sg:=⟨sgs[i],List.getElem?_eq_getElem hil⟩
  have hsq1:=hsq sg (List.mem_of_getElem? hsg)
  have hRl:(rows++(sgs.take i).map (rowR s p surface fm bound)).length<=10002:=by
   rw [List.length_append,List.length_map,List.length_take]
   omega
  have htk:rows++(sgs.take (i+1)).map (rowR s p surface fm bound)=rows++(sgs.take i).map (rowR s p surface fm bound)++[rowR s p surface fm bound sg]:=by
   rw [List.take_add_one,hsg]
   simp
  refine G.rg fun R hR=>?_
  refine D.al (hsv.mono mup) rfl rfl rfl rfl rfl rfl rfl rfl rfl rfl om_ (bt hsg) fl_ (fun p16 hp16=>?_)
  refine D.aa hp16 ?_
  refine D.q9 1 0 1 2 4 5 11 12 13 14 hR ?_
  refine G.aH [0,1,2,3,4,5,6,7,8,9] [] rfl kr_ (fun R hB hR=>?_)
  refine D.ae (.head _) ?_
  refine D.aa (bkT hb3 2) ?_
  refine D.ps 4 ?_
  refine D.aP (row_fn _ (hT.mono mup) s p surface b fm sg bound 23 (by decide) (by decide) om_ hs (Mem.get hm mup) hkeys hin hfq (hsq1.le (by decide)) hbd) rfl rfl rfl rfl rfl rfl rfl fl_ (fun v24 C24 hle24 hq24=>?_)
  obtain ⟨fv,rfl,hfv⟩:=hq24
  obtain ⟨Af,cf,rfl,_⟩:=id hfv
  simp only [List.length_map] at hfv ⊢
  refine D.ah [[.slice Af (rowN s p surface fm sg).length cf,strV (qtx (sg*bound))]] (fun p25 C25 hle25 hs25=>?_)
  refine D.aS (j:=1) rfl rfl rfl rfl rfl rfl rfl rfl rfl rfl rfl (hs25.mono mup) rfl (by simp only [List.length_singleton,maxLen];omega) (by simp only [List.length_singleton];omega) fl_ (fun A26 n26 c26=>?_)
  refine D.ag (j:=1) ?_
  refine D.e8 0 1 2 4 5 12 13 14 hR ?_
  refine G.rg fun R hR=>?_
  refine D.am _ ?_
  refine D.q8 1 0 1 2 4 5 12 13 14 hR ?_
  have hone:=RowsOk.snoc (r:=rowR s p surface fm bound sg) (hrow.mono mup) hfv
  refine G.aY (L':=[.obj b14 (.cells ⟨[.slice A26 n26 c26]⟩ 61 (0,0)),.arr (.slice A26 n26 c26) 81 2 (rows++(sgs.take (i+1)).map (rowR s p surface fm bound)).length (bd (vs2++[.slice Af (rowN s p surface fm sg).length cf]) (rows++(sgs.take (i+1)).map (rowR s p surface fm bound))).flatten]) (by rw [htk,rowCells_snoc hrow.1];simp [rowR,au];omega) ?_
  refine G.ax (m':=sgs.length-(i+1)) om_ mup (h_8 0 1 2 4 5 12 13 14) ⟨i+1,vs2++[.slice Af (rowN s p surface fm sg).length cf],_,⟨by omega,by rw [htk];exact hone.mono mup⟩,rfl,rfl,rfl⟩
 ·have hil:i=sgs.length:=by
   have:¬ i<sgs.length:=by simpa using h15
   omega
  rw [hil,List.take_length] at hrow ⊢
  refine G.end0 rfl ?_
  exact ⟨vs2,w2,rfl,rfl,hrow.mono mup⟩

noncomputable def eastQ (o:Obs):Rat:=-cm o.nx / cm o.nz
noncomputable def northQ (o:Obs):Rat:=-cm o.ny / cm o.nz
def upN (B:Bk)(o:Obs):Nat:=(idxF (isU o.upper) B.col 0).toNat
noncomputable def rowsO (B:Bk)(o:Obs)(p:Pt)(t:Tri)(z:Rat):List RowQ :=
 if o.kind=1 then (if 0<upN B o then [rowR (bs B) (bp B) (upN B o-1) (atT t (wgt B.pts t p)) (hgtQ o z) 1] else [])++(if upN B o<bs B then [rowR (bs B) (bp B) (upN B o) (atT t (wgt B.pts t p)) (hgtQ o z) (-1)] else [])
 else if o.kind=2 then (bF B.col o).flatMap fun k=>[1, -1].map (rowR (bs B) (bp B) k (atT t (wgt B.pts t p)) (hgtQ o z))
 else (bF B.col o).flatMap fun k=>[1, -1].map (rowR (bs B) (bp B) k (atT t fun j=>(slf B.pts t j).1) (eastQ o))++[1, -1].map (rowR (bs B) (bp B) k (atT t fun j=>(slf B.pts t j).2) (northQ o))
structure Fine (B:Bk)(fs:List Rat)(o:Obs)(p:Pt)(ti:Nat)(t:Tri)(z:Rat):Prop where
 place:ObsAt o p
 loc:∃ r,locL B.pts B.tris p=ti::r
 tri:B.tris[ti]?=some t
 val:valV B.pts B.tris fs p=.tuple #[strV (qtx z),.int .i64 0]
 qz:QB 22 z
 qh:QB 22 (hgtQ o z)
 w:∀ j,QB 22 (wgt B.pts t p j)
 up:0<=idxF (isU o.upper) B.col 0
 sl:∀ j,QP 22 (slf B.pts t j)
 nr:o.kind≠1->o.kind≠2->(aV o.nx=true/\aV o.ny=true/\aV o.nz=true)/\QB 11 (cm o.nx)/\QB 11 (cm o.ny)/\QB 11 (cm o.nz)/\cm o.nz≠0
 rows:∀ r∈rowsO B o p t z,RowR r
theorem sg_one {C:Mem}{v:Value}(h:Sl C 1 v [[strV [49]]]):Sl C 1 v (([1]:List Rat).map encQ):=by rw [<- eo] at h;exact h
theorem sg_neg {C:Mem}{v:Value}(h:Sl C 1 v [[strV [45,49]]]):Sl C 1 v (([-1]:List Rat).map encQ):=by rw [<- qtx_neg_one] at h;exact h
theorem sg_two {C:Mem}{v:Value}(h:Sl C 1 v [[strV [49]],[strV [45,49]]]):Sl C 1 v (([1, -1]:List Rat).map encQ):=by rw [<- qtx_neg_one,<- eo] at h;exact h
theorem sq_one:∀ q∈([1]:List Rat),QB 1 q:=by simp;exact QB_one
theorem sq_neg:∀ q∈([-1]:List Rat),QB 1 q:=by simp;exact neg_one_qb
theorem sq_two:∀ q∈([1, -1]:List Rat),QB 1 q:=by
 intro q hq
 simp only [List.mem_cons,List.not_mem_nil,or_false] at hq
 rcases hq with rfl | rfl
 ·exact QB_one
 ·exact neg_one_qb
theorem atT_mem {t:Tri}{f:Nat->Rat}{P:Nat × Rat->Prop}(h0:P (t.1,f 0))(h1:P (t.2.1,f 1))(h2:P (t.2.2,f 2)):∀ x∈atT t f,P x:=by
 intro x hx
 simp only [atT,List.mem_cons,List.not_mem_nil,or_false] at hx
 rcases hx with rfl | rfl | rfl <;> assumption
theorem surfN_in {lo hi:Int}{n k:Nat}(h:k∈surfN lo hi n):k<n:=by
 unfold surfN at h
 rw [List.mem_filter,List.mem_range] at h
 exact h.1
theorem flatMap_take {α β:Type}(f:α->List β){l:List α}{j:Nat}{x:α}(h:l[j]?=some x):(l.take (j+1)).flatMap f=(l.take j).flatMap f++f x:=by
 rw [List.take_add_one,h,List.flatMap_append]
 simp
theorem dH {α β:Type}{f:α->List β}{c:Nat}(h:∀ x,(f x).length=c):∀ l:List α,(l.flatMap f).length=c*l.length
 | []=>by simp
 | x::l=>by rw [List.flatMap_cons,List.length_append,h,dH h l,List.length_cons,Nat.mul_succ,Nat.add_comm]
theorem rowsO_fl {B:Bk}{o:Obs}{p:Pt}{t:Tri}{z:Rat}:∀ r∈rowsO B o p t z,r.f.length=bs B*bp B:=by
 have key:∀ k fm b sg,(rowR (bs B) (bp B) k fm b sg).f.length=bs B*bp B:=fun k fm b sg=>rowF_len _ _
 intro r hr
 unfold rowsO at hr
 split at hr
 ·rcases List.mem_append.1 hr with h | h
  ·split at h
   ·rw [List.mem_singleton.1 h];exact key _ _ _ _
   ·cases h
  ·split at h
   ·rw [List.mem_singleton.1 h];exact key _ _ _ _
   ·cases h
 ·split at hr
  ·obtain ⟨k,_,hk⟩:=List.mem_flatMap.1 hr
   obtain ⟨sg,_,rfl⟩:=List.mem_map.1 hk
   exact key _ _ _ _
  ·obtain ⟨k,_,hk⟩:=List.mem_flatMap.1 hr
   rcases List.mem_append.1 hk with h | h
   ·obtain ⟨sg,_,rfl⟩:=List.mem_map.1 h
    exact key _ _ _ _
   ·obtain ⟨sg,_,rfl⟩:=List.mem_map.1 h
    exact key _ _ _ _
theorem rowsO_len {B:Bk}{o:Obs}{p:Pt}{t:Tri}{z:Rat}(h:(bF B.col o).length<=60):(rowsO B o p t z).length<=240:=by
 unfold rowsO
 split
 ·rw [List.length_append]
  have h1:∀ (c:Prop)[Decidable c] (r:RowQ),(if c then [r] else []).length<=1:=fun c _ r=>by split <;> simp
  have:=h1 (0<upN B o) (rowR (bs B) (bp B) (upN B o-1) (atT t (wgt B.pts t p)) (hgtQ o z) 1)
  have:=h1 (upN B o<bs B) (rowR (bs B) (bp B) (upN B o) (atT t (wgt B.pts t p)) (hgtQ o z) (-1))
  omega
 ·split
  ·rw [dH (c:=2) (fun k=>by simp)];omega
  ·rw [dH (c:=4) (fun k=>by simp)];omega
theorem rows_fn (C:Mem)(hT:Tabs C)(bv:Value)(B:Bk)(fs:List Rat)(i:Nat)(o:Obs)(p:Pt)(ti:Nat)(t:Tri)(z:Rat)(hB:BookIn C bv B)(hG:Good B.pts B.tris)(hbR:BookR B)(hbz:bookZ B=0)(hF:Terr B fs)(ho:B.obs[i]?=some o)(hFi:Fine B fs o p ti t z)(h60:bs B*bp B<=60)(hcz:colZ B.col=0)(hcl:bs B+1=B.col.length)(hcs:B.col.length<=60) :
  Pur cx.P 31 [shapeV (bs B) (bp B),bv,.int .i64 i] C fun u D=>∃ v,u=.tuple #[v,.int .i64 0]/\RowsIn D v (rowsO B o p t z):=by
 have hB0:=hB
 have hM:=hG.ok
 obtain ⟨r,hloc⟩:=hFi.loc
 have htm:=List.mem_of_getElem? hFi.tri
 have hti:=hM.ins t htm
 have hdiff:=tri_diff hM htm
 have hil:=(List.getElem?_eq_some_iff.1 ho).1
 have hO:=hFi.place
 obtain ⟨u,hu⟩:∃ u:Nat,idxF (isU o.upper) B.col 0=(u:Nat):=⟨_,(Int.toNat_of_nonneg hFi.up).symm⟩
 have hup:upN B o=u:=by unfold upN;rw [hu];rfl
 have hul:u<B.col.length:=by
  rcases idxF_cases (isU o.upper) B.col with ⟨h,_⟩ | ⟨k,x,h,h2,_⟩
  ·rw [hu] at h;omega
  ·have:=(List.getElem?_eq_some_iff.1 h2).1
   rw [hu] at h
   omega
 have hkw:=atT_nodup (wgt B.pts t p) hdiff
 have hiw:∀ x∈atT t (wgt B.pts t p),x.1<bp B:=atT_mem (P:=fun x=>x.1<bp B) hti.1 hti.2.1 hti.2.2
 have hqw:∀ x∈atT t (wgt B.pts t p),QB 23 x.2:=atT_mem (P:=fun x=>QB 23 x.2) ((hFi.w 0).le (by decide)) ((hFi.w 1).le (by decide)) ((hFi.w 2).le (by decide))
 have hqh:QB 23 (hgtQ o z):=hFi.qh.le (by decide)
 have hsl:(bF B.col o).length<=bs B:=by
  unfold bF surfN
  refine Nat.le_trans (List.length_filter_le _ _) ?_
  rw [List.length_range]
  unfold bs
  omega
 have hsin:∀ k∈bF B.col o,k<bs B:=fun k hk=>surfN_in hk
 obtain ⟨v1,v2,tv,cv,ov,rfl,h1,h2,h3,h4,h5⟩:=id hB.ex
 have hmi:MeshIn C (.agg ⟨[v1,v2]⟩) B.pts B.tris:=⟨v1,v2,rfl,h1,h2⟩
 obtain ⟨A5,c5,rfl,hq5,hq6,_⟩:=id h5
 have hmx:maxLen<=9223372036854775807:=by simp [maxLen]
 simp only [List.length_map] at h5 hq5 hB0 ⊢
 refine Fn.it kr_ Tryz.func31 172 fun w0=>?_
 refine G.rg fun R hR=>?_
 refine D.aB (fun b3=>?_)
 refine D.aB (fun b4=>?_)
 refine D.q3 2 2 3 4 hR ?_;clear hR R
 refine G.freeze 1 rfl (fun C3 hle3 hb3=>?_)
 refine G.freeze 0 rfl (fun C4 hle4 hb4=>?_)
 refine G.rp 1 fun R hR=>?_
 refine D.aa (bkT hb4 1) ?_
 refine D.ac ?_
 refine D.al (h5.mono mup) rfl rfl rfl rfl rfl rfl rfl rfl rfl rfl om_ (bt ho) fl_ (fun p33 hp33=>?_)
 refine D.aa hp33 ?_
 refine D.aj (fun b8=>?_)
 refine D.ag (j:=0) ?_
 refine D.e4 2 3 4 8 hR ?_;clear hR R
 refine G.freeze 0 rfl (fun C8 hle8 hb8=>?_)
 refine G.rp 1 fun R hR=>?_
 refine D.aa (bkT hb4 2) ?_
 refine D.ac ?_
 refine D.aa (bkT hb8 2) ?_
 refine D.aP (by have h:=cheight_fn C8 (hT.mono mup) _ B.pts B.tris p ti r t (hmi.mono mup) hG hO.q hO.r hloc hFi.tri hFi.w;rw [<- obsAt_val hO] at h;exact h) rfl rfl rfl rfl rfl rfl rfl fl_ (fun v40 C40 hle40 hq40=>?_)
 obtain ⟨bw,rfl,hbw⟩:=hq40
 refine D.q7 7 2 3 4 8 9 10 11 hR ?_;clear hR R
 refine G.z8 2 2 3 4 8 9 10 11 45 ?_
 refine G.cd (fun h45=>?_) fun h45=>?_
 ·exact absurd h45 (by decide)
 ·refine G.rg fun R hR=>?_
  refine D.aa (bkT hb4 5) ?_
  refine D.ac ?_
  refine D.af (heightX_fn _ (hT.mono mup) _ B fs i o p z (hB0.mono mup) hG hbR hbz hF ho hO hFi.val hFi.qz hFi.qh) ?_
  refine D.q8 5 2 3 4 8 9 10 11 12 hR ?_;clear hR R
  refine G.z9 2 2 3 4 8 9 10 11 12 54 ?_
  refine G.cd (fun h54=>?_) fun h54=>?_
  ·exact absurd h54 (by decide)
  ·refine G.rg fun R hR=>?_
   refine D.aa (bkT hb4 5) ?_
   refine D.ac ?_
   refine D.aX (surfacesX_fn _ (hT.mono mup) _ B i o (hB0.mono mup) hG hbR hbz ho) (fun v59 C59 hle59 hq59=>?_)
   obtain ⟨lv,rfl,hlv⟩:=hq59
   obtain ⟨Al,cl,hle0',_⟩:=id hlv
   rw [List.length_map] at hle0'
   subst hle0'
   refine D.q8 5 3 4 8 9 10 11 12 13 hR ?_;clear hR R
   refine G.z9 2 3 4 8 9 10 11 12 13 63 ?_
   refine G.cd (fun h63=>?_) fun h63=>?_
   ·exact absurd h63 (by decide)
   ·refine G.rg fun R hR=>?_
    refine D.aj (fun b14=>?_)
    refine D.e8 3 4 8 9 10 12 13 14 hR ?_;clear hR R
    refine G.nilArr 81 2 (G.perm (L':=[.obj b14 (.cells ⟨[.slice none 0 0]⟩ 61 (0,0)),.arr (.slice none 0 0) 81 2 0 []]) (List.Perm.swap _ _ _) ?_)
    refine G.z9 2 3 4 8 9 10 12 13 14 15 ?_
    refine G.rp 1 fun R hR=>?_
    refine D.aa (bkT hb8 1) ?_
    refine D.e10 3 4 8 9 10 12 13 14 15 67 hR ?_;clear hR R
    refine G.z11 2 3 4 8 9 10 12 13 14 15 67 120 ?_
    refine G.cut (fun fr C' L' μ=>∃ (vs:List Value)(w:Value),(RowsOk C' vs (rowsO B o p t z))/\fr=[(14,[],.pointer (some ⟨b14,0,none⟩))]/\L'=[.obj b14 (.cells ⟨[w]⟩ 61 (0,0)),.arr w 81 2 (rowsO B o p t z).length (bd vs (rowsO B o p t z)).flatten]) ?_ (fun fr C120 L120 μ hle120 hI=>?_)
    ·refine G.cd (fun h120=>?_) fun h120=>?_
     ·have hk:o.kind=1:=bA h120
      obtain ⟨R1,hR1⟩:∃ R1,(if 0<u then [rowR (bs B) (bp B) (u-1) (atT t (wgt B.pts t p)) (hgtQ o z) 1] else [])=R1:=⟨_,rfl⟩
      have hRO:rowsO B o p t z=R1++(if u<bs B then [rowR (bs B) (bp B) u (atT t (wgt B.pts t p)) (hgtQ o z) (-1)] else []):=by unfold rowsO;rw [if_pos hk,hup,hR1]
      refine G.rp 1 fun R hR=>?_
      refine D.aa (bkT hb4 1) ?_
      refine D.ac ?_
      refine D.aa (bkT hb8 1) ?_
      refine D.af (colIndex_fn _ (hT.mono mup) _ B.col o.upper (h4.mono mup) hbR.col hcz u hu) ?_
      refine D.q7 7 3 9 12 14 15 16 18 hR ?_;clear hR R
      refine G.z8 2 3 9 12 14 15 16 18 132 ?_
      refine G.cd (fun h132=>?_) fun h132=>?_
      ·exact absurd h132 (by decide)
      ·refine G.z7 2 3 9 12 14 15 16 135 ?_
       refine G.cut (fun fr C' L' μ=>∃ (vs:List Value)(w:Value),(RowsOk C' vs R1)/\fr=[(3,[],.pointer (some ⟨b3,0,none⟩)),(9,[],.map (some bw)),(12,[],strV (qtx (hgtQ o z))),(14,[],.pointer (some ⟨b14,0,none⟩)),(15,[],.func (.func 66) #[] #[.pointer (some ⟨b14,0,none⟩),.pointer (some ⟨b3,0,none⟩)]),(16,[],.int .i64 u)]/\L'=[.obj b14 (.cells ⟨[w]⟩ 61 (0,0)),.arr w 81 2 R1.length (bd vs R1).flatten]) ?_ (fun fr C135 L135 μ hle135 hI=>?_)
       ·refine G.cd (fun h135=>?_) fun h135=>?_
        ·have hu0:0<u:=by
          have:=of_decide_eq_true h135
          omega
         rw [if_pos hu0] at hR1
         subst hR1
         refine G.aI [(6,3)] rfl (fun R hR=>?_)
         refine D.ps 2 ?_
         refine D.cG (((u-1:Nat):Int)) rfl rfl rfl rfl om_ om_ om_ rfl rfl ?_
         refine D.ps 2 ?_
         refine D.ah [[strV [49]]] (fun p141 C141 hle141 hs141=>?_)
         refine D.call (addRow_fn _ (hT.mono mup) (bs B) (bp B) (u-1) bw b14 b3 (atT t (wgt B.pts t p)) (hgtQ o z) [1] _ (.slice none 0 0) [] [] h60 om_ (Mem.get hb3 mup) (Mem.get hbw mup) hkw hiw hqw hqh ((sg_one hs141).mono mup) sq_one (by decide) (RowsOk.nil _) (by decide)) rfl (.inr (by decide)) rfl rfl rfl rfl rfl rfl (List.Perm.refl _) fl_ (fun v142 C142 L142 hle142 hq142=>?_)
         refine D.e6 3 9 12 14 15 16 hR ?_;clear hR R
         obtain ⟨vs1,w1,rfl,rfl,hok1⟩:=hq142
         refine G.aw 0 mup (h_6 3 9 12 14 15 16) ⟨vs1,w1,hok1,rfl,rfl⟩
        ·have hu0:¬ 0<u:=by
          have:=of_decide_eq_false h135
          omega
         rw [if_neg hu0] at hR1
         subst hR1
         refine G.aw 0 (Mem.le.refl _) (h_6 3 9 12 14 15 16) ⟨[],.slice none 0 0,RowsOk.nil _,rfl,rfl⟩
       ·obtain ⟨vs ,w,hrow1,rfl,rfl⟩:=hI
        refine G.rp 2 fun R hR=>?_
        refine D.aa (bkT hb3 1) ?_
        refine D.q6 1 9 12 14 15 16 146 hR ?_;clear hR R
        refine G.cd (fun h146=>?_) fun h146=>?_
        ·have hus:u<bs B:=by
          have:=of_decide_eq_true h146
          omega
         rw [if_pos hus] at hRO
         have hR1l:R1.length<=1:=by rw [<- hR1];split <;> simp
         refine G.aI [(5,3)] rfl (fun R hR=>?_)
         refine D.ps 4 ?_
         refine D.ah [[strV [45,49]]] (fun p151 C151 hle151 hs151=>?_)
         refine D.call (addRow_fn _ (hT.mono mup) (bs B) (bp B) u bw b14 b3 (atT t (wgt B.pts t p)) (hgtQ o z) [-1] _ w vs R1 h60 hus (Mem.get hb3 mup) (Mem.get hbw mup) hkw hiw hqw hqh ((sg_neg hs151).mono mup) sq_neg (by decide) (hrow1.mono mup) om_) rfl (.inr (by decide)) rfl rfl rfl rfl rfl rfl (List.Perm.refl _) fl_ (fun v152 C152 L152 hle152 hq152=>?_)
         refine D.e1 14 hR ?_;clear hR R
         obtain ⟨vs2,w2,rfl,rfl,hok2⟩:=hq152
         rw [show R1++([-1]:List Rat).map (rowR (bs B) (bp B) u (atT t (wgt B.pts t p)) (hgtQ o z))=rowsO B o p t z from hRO.symm] at hok2 ⊢
         refine G.aw 0 mup (h_1 14) ⟨vs2,w2,hok2,rfl,rfl⟩
        ·have hus:¬ u<bs B:=by
          have:=of_decide_eq_false h146
          omega
         rw [if_neg hus,List.append_nil] at hRO
         rw [<- hRO] at hrow1 ⊢
         refine G.aw 0 mup (h_1 14) ⟨vs,w,hrow1.mono mup,rfl,rfl⟩
     ·have hk1:¬ o.kind=1:=by
       intro e
       rw [show ((o.kind == 1)=true) by rw [e];rfl] at h120
       cases h120
      refine G.z9 2 4 8 9 10 12 13 14 15 153 ?_
      refine G.cd (fun h153=>?_) fun h153=>?_
      ·have hk2:o.kind=2:=bA h153
       obtain ⟨f2,hf2⟩:∃ f2,(fun k=>([1, -1]:List Rat).map (rowR (bs B) (bp B) k (atT t (wgt B.pts t p)) (hgtQ o z)))=f2:=⟨_,rfl⟩
       have hRO:rowsO B o p t z=(bF B.col o).flatMap f2:=by unfold rowsO;rw [if_neg hk1,if_pos hk2,<- hf2]
       have hl2:∀ k,(f2 k).length=2:=fun k=>by rw [<- hf2];rfl
       refine G.z7 3 9 12 14 15 155 156 157 ?_
       refine G.loop (fun fr C' L' μ=>∃ (j:Nat)(vs:List Value)(w:Value),(j<=(bF B.col o).length/\RowsOk C' vs (((bF B.col o).take j).flatMap f2))/\fr=[(9,[],.map (some bw)),(12,[],strV (qtx (hgtQ o z))),(14,[],.pointer (some ⟨b14,0,none⟩)),(15,[],.func (.func 66) #[] #[.pointer (some ⟨b14,0,none⟩),.pointer (some ⟨b3,0,none⟩)]),(155,[],.slice Al (bF B.col o).length cl),(156,[],.int .i64 (bF B.col o).length),(157,[],.int .i64 j)]/\L'=[.obj b14 (.cells ⟨[w]⟩ 61 (0,0)),.arr w 81 2 (((bF B.col o).take j).flatMap f2).length (bd vs (((bF B.col o).take j).flatMap f2)).flatten]/\μ=(bF B.col o).length-j) (h_7 9 12 14 15 155 156 157) ⟨0,[],.slice none 0 0,⟨Nat.zero_le _,RowsOk.nil _⟩,rfl,rfl,rfl⟩ (fun fr C0' L0' m hle0 hI=>?_)
       obtain ⟨j,vs,w,⟨hj,hrow2⟩,rfl,rfl,rfl⟩:=hI
       refine G.z8 1 9 12 14 15 155 156 157 158 ?_
       refine G.cd (fun h158=>?_) fun h158=>?_
       ·have hjl:j<(bF B.col o).length:=by
         have:=of_decide_eq_true h158
         omega
        obtain ⟨k,hkj⟩:∃ k,(bF B.col o)[j]?=some k:=⟨(bF B.col o)[j],List.getElem?_eq_getElem hjl⟩
        have hks:=hsin k (List.mem_of_getElem? hkj)
        have hcnt:=dH hl2 ((bF B.col o).take j)
        rw [List.length_take] at hcnt
        have hstep:=flatMap_take f2 hkj
        refine G.rg fun R hR=>?_
        refine D.al (hlv.mono mup) rfl rfl rfl rfl rfl rfl rfl rfl rfl rfl om_ (bt hkj) fl_ (fun p159 hp159=>?_)
        refine D.aa hp159 ?_
        refine D.q8 1 9 12 14 15 20 155 156 157 hR ?_;clear hR R
        refine G.aI [(5,3)] rfl (fun R hR=>?_)
        refine D.ps 4 ?_
        refine D.ah [[strV [49]],[strV [45,49]]] (fun p165 C165 hle165 hs165=>?_)
        refine D.call (addRow_fn _ (hT.mono mup) (bs B) (bp B) k bw b14 b3 (atT t (wgt B.pts t p)) (hgtQ o z) [1, -1] _ w vs _ h60 hks (Mem.get hb3 mup) (Mem.get hbw mup) hkw hiw hqw hqh ((sg_two hs165).mono mup) sq_two (by decide) (hrow2.mono mup) om_) rfl (.inr (by decide)) rfl rfl rfl rfl rfl rfl (List.Perm.refl _) fl_ (fun v166 C166 L166 hle166 hq166=>?_)
        refine D.e7 9 12 14 15 155 156 157 hR ?_;clear hR R
        refine G.rg fun R hR=>?_
        refine D.am _ ?_
        refine D.q7 1 9 12 14 15 155 156 157 hR ?_;clear hR R
        obtain ⟨vs3,w3,rfl,rfl,hok3⟩:=hq166
        rw [show ((bF B.col o).take j).flatMap f2++([1, -1]:List Rat).map (rowR (bs B) (bp B) k (atT t (wgt B.pts t p)) (hgtQ o z))=((bF B.col o).take (j+1)).flatMap f2 by rw [hstep,<- hf2]] at hok3 ⊢
        refine G.ax (m':=(bF B.col o).length-(j+1)) om_ mup (h_7 9 12 14 15 155 156 157) ⟨j+1,vs3,w3,⟨by omega,hok3⟩,rfl,rfl,rfl⟩
       ·have hjl:j=(bF B.col o).length:=by
         have:=of_decide_eq_false h158
         omega
        rw [hjl,List.take_length,<- hRO] at hrow2 ⊢
        refine G.aw 0 mup (h_1 14) ⟨vs,w,hrow2.mono mup,rfl,rfl⟩
      ·have hk2:¬ o.kind=2:=by
        intro e
        rw [show ((o.kind == 2)=true) by rw [e];rfl] at h153
        cases h153
       obtain ⟨⟨hn1,hn2,hn3⟩,hn4,hn5,hn6,hn7⟩:=hFi.nr hk1 hk2
       obtain ⟨e1,q1⟩:=bW hn1
       obtain ⟨e2,q2⟩:=bW hn2
       obtain ⟨e3,q3⟩:=bW hn3
       have hle1:(qtx (cm o.nx)).length<=1000000:=Nat.le_trans (bk q1 (by decide)) (by decide)
       have hle2:(qtx (cm o.ny)).length<=1000000:=Nat.le_trans (bk q2 (by decide)) (by decide)
       have hqe:QB 23 (eastQ o):=(QB_div (QB_neg hn4) hn6 hn7).le (by decide)
       have hqn:QB 23 (northQ o):=(QB_div (QB_neg hn5) hn6 hn7).le (by decide)
       obtain ⟨f3,hf3⟩:∃ f3,(fun k=>([1, -1]:List Rat).map (rowR (bs B) (bp B) k (atT t fun j=>(slf B.pts t j).1) (eastQ o))++([1, -1]:List Rat).map (rowR (bs B) (bp B) k (atT t fun j=>(slf B.pts t j).2) (northQ o)))=f3:=⟨_,rfl⟩
       have hRO:rowsO B o p t z=(bF B.col o).flatMap f3:=by unfold rowsO;rw [if_neg hk1,if_neg hk2,<- hf3]
       have hl4:∀ k,(f3 k).length=4:=fun k=>by rw [<- hf3];rfl
       have hke:=atT_nodup (fun j=>(slf B.pts t j).1) hdiff
       have hkn:=atT_nodup (fun j=>(slf B.pts t j).2) hdiff
       have hie:∀ x∈atT t (fun j=>(slf B.pts t j).1),x.1<bp B:=atT_mem (P:=fun x=>x.1<bp B) hti.1 hti.2.1 hti.2.2
       have hin2:∀ x∈atT t (fun j=>(slf B.pts t j).2),x.1<bp B:=atT_mem (P:=fun x=>x.1<bp B) hti.1 hti.2.1 hti.2.2
       have hqe2:∀ x∈atT t (fun j=>(slf B.pts t j).1),QB 23 x.2:=atT_mem (P:=fun x=>QB 23 x.2) ((hFi.sl 0).1.le (by decide)) ((hFi.sl 1).1.le (by decide)) ((hFi.sl 2).1.le (by decide))
       have hqn2:∀ x∈atT t (fun j=>(slf B.pts t j).2),QB 23 x.2:=atT_mem (P:=fun x=>QB 23 x.2) ((hFi.sl 0).2.le (by decide)) ((hFi.sl 1).2.le (by decide)) ((hFi.sl 2).2.le (by decide))
       refine G.rp 1 fun R hR=>?_
       refine D.aa (bkT hb4 2) ?_
       refine D.ac ?_
       refine D.aX (cslopes_fn _ (hT.mono mup) _ B.pts B.tris ti t (hmi.mono mup) hG hFi.tri hFi.sl) (fun v72 C72 hle72 hq72=>?_)
       obtain ⟨be,bn,rfl,hbe,hbn⟩:=hq72
       refine D.q7 7 8 13 14 15 21 22 23 hR ?_;clear hR R
       refine G.z8 2 8 13 14 15 21 22 23 77 ?_
       refine G.cd (fun h77=>?_) fun h77=>?_
       ·exact absurd h77 (by decide)
       ·refine G.aH [0,1,2,3,4,5,6,7,8,9,10,11,12] [(3,1),(7,1)] rfl kr_ (fun R hB hR=>?_)
        refine D.ps 2 ?_
        refine D.aa (bkT hb8 1) ?_
        refine D.aC (fun _=>(by have h:=rneg_fn C72 (cm o.nx) hle1;rw [<- e1] at h;exact h)) rfl rfl rfl rfl rfl rfl rfl rfl rfl ?_
        refine D.ps 2 ?_
        refine D.aa (bkT hb8 1) ?_
        refine D.aC (fun _=>(by have h:=rdiv_fn C72 (hT.mono mup) (-cm o.nx) (cm o.nz) 11 (by decide) (by decide) (QB_neg hn4) hn6 hn7;rw [<- e3] at h;exact h)) rfl rfl rfl rfl rfl rfl rfl rfl rfl ?_
        refine D.ps 5 ?_
        refine D.e7 8 13 14 15 21 22 24 hR ?_;clear hR hB R
        refine G.aH [0,1,2,3,4,5,6,7,8,9,10,11,12] [(3,1),(7,1)] rfl kr_ (fun R hB hR=>?_)
        refine D.ps 2 ?_
        refine D.aa (bkT hb8 1) ?_
        refine D.aC (fun _=>(by have h:=rneg_fn C72 (cm o.ny) hle2;rw [<- e2] at h;exact h)) rfl rfl rfl rfl rfl rfl rfl rfl rfl ?_
        refine D.ps 2 ?_
        refine D.aa (bkT hb8 1) ?_
        refine D.aC (fun _=>(by have h:=rdiv_fn C72 (hT.mono mup) (-cm o.ny) (cm o.nz) 11 (by decide) (by decide) (QB_neg hn5) hn6 hn7;rw [<- e3] at h;exact h)) rfl rfl rfl rfl rfl rfl rfl rfl rfl ?_
        refine D.ps 5 ?_
        refine D.e7 13 14 15 21 22 24 26 hR ?_;clear hR hB R
        refine G.z9 3 14 15 21 22 24 26 101 102 103 ?_
        refine G.loop (fun fr C' L' μ=>∃ (j:Nat)(vs:List Value)(w:Value),(j<=(bF B.col o).length/\RowsOk C' vs (((bF B.col o).take j).flatMap f3))/\fr=[(14,[],.pointer (some ⟨b14,0,none⟩)),(15,[],.func (.func 66) #[] #[.pointer (some ⟨b14,0,none⟩),.pointer (some ⟨b3,0,none⟩)]),(21,[],.map (some be)),(22,[],.map (some bn)),(24,[],strV (qtx (eastQ o))),(26,[],strV (qtx (northQ o))),(101,[],.slice Al (bF B.col o).length cl),(102,[],.int .i64 (bF B.col o).length),(103,[],.int .i64 j)]/\L'=[.obj b14 (.cells ⟨[w]⟩ 61 (0,0)),.arr w 81 2 (((bF B.col o).take j).flatMap f3).length (bd vs (((bF B.col o).take j).flatMap f3)).flatten]/\μ=(bF B.col o).length-j) (h_9 14 15 21 22 24 26 101 102 103) ⟨0,[],.slice none 0 0,⟨Nat.zero_le _,RowsOk.nil _⟩,rfl,rfl,rfl⟩ (fun fr C1' L1' m hle1 hI=>?_)
        obtain ⟨j,vs,w,⟨hj,hrow2⟩,rfl,rfl,rfl⟩:=hI
        refine G.z10 1 14 15 21 22 24 26 101 102 103 104 ?_
        refine G.cd (fun h104=>?_) fun h104=>?_
        ·have hjl:j<(bF B.col o).length:=by
          have:=of_decide_eq_true h104
          omega
         obtain ⟨k,hkj⟩:∃ k,(bF B.col o)[j]?=some k:=⟨(bF B.col o)[j],List.getElem?_eq_getElem hjl⟩
         have hks:=hsin k (List.mem_of_getElem? hkj)
         have hcnt:=dH hl4 ((bF B.col o).take j)
         rw [List.length_take] at hcnt
         have hstep:=flatMap_take f3 hkj
         refine G.rg fun R hR=>?_
         refine D.al (hlv.mono mup) rfl rfl rfl rfl rfl rfl rfl rfl rfl rfl om_ (bt hkj) fl_ (fun p105 hp105=>?_)
         refine D.aa hp105 ?_
         refine D.q10 1 14 15 21 22 24 26 29 101 102 103 hR ?_;clear hR R
         refine G.aI [(5,3)] rfl (fun R hR=>?_)
         refine D.ps 4 ?_
         refine D.ah [[strV [49]],[strV [45,49]]] (fun p111 C111 hle111 hs111=>?_)
         refine D.call (addRow_fn _ (hT.mono mup) (bs B) (bp B) k be b14 b3 (atT t fun j=>(slf B.pts t j).1) (eastQ o) [1, -1] _ w vs _ h60 hks (Mem.get hb3 mup) (Mem.get hbe mup) hke hie hqe2 hqe ((sg_two hs111).mono mup) sq_two (by decide) (hrow2.mono mup) om_) rfl (.inr (by decide)) rfl rfl rfl rfl rfl rfl (List.Perm.refl _) fl_ (fun v112 C112 L112 hle112 hq112=>?_)
         refine D.e10 14 15 21 22 24 26 29 101 102 103 hR ?_;clear hR R
         obtain ⟨vs3,w3,rfl,rfl,hok3⟩:=hq112
         refine G.aI [(5,3)] rfl (fun R hR=>?_)
         refine D.ps 4 ?_
         refine D.ah [[strV [49]],[strV [45,49]]] (fun p117 C117 hle117 hs117=>?_)
         refine D.call (addRow_fn _ (hT.mono mup) (bs B) (bp B) k bn b14 b3 (atT t fun j=>(slf B.pts t j).2) (northQ o) [1, -1] _ w3 vs3 _ h60 hks (Mem.get hb3 mup) (Mem.get hbn mup) hkn hin2 hqn2 hqn ((sg_two hs117).mono mup) sq_two (by decide) (hok3.mono mup) (by rw [List.length_append,hcnt];simp;omega)) rfl (.inr (by decide)) rfl rfl rfl rfl rfl rfl (List.Perm.refl _) fl_ (fun v118 C118 L118 hle118 hq118=>?_)
         refine D.e9 14 15 21 22 24 26 101 102 103 hR ?_;clear hR R
         refine G.rg fun R hR=>?_
         refine D.am _ ?_
         refine D.q9 1 14 15 21 22 24 26 101 102 103 hR ?_;clear hR R
         obtain ⟨vs4,w4,rfl,rfl,hok4⟩:=hq118
         rw [show ((bF B.col o).take j).flatMap f3++([1, -1]:List Rat).map (rowR (bs B) (bp B) k (atT t fun j=>(slf B.pts t j).1) (eastQ o))++([1, -1]:List Rat).map (rowR (bs B) (bp B) k (atT t fun j=>(slf B.pts t j).2) (northQ o))=((bF B.col o).take (j+1)).flatMap f3 by rw [hstep,<- hf3,List.append_assoc]] at hok4 ⊢
         refine G.ax (m':=(bF B.col o).length-(j+1)) om_ mup (h_9 14 15 21 22 24 26 101 102 103) ⟨j+1,vs4,w4,⟨by omega,hok4⟩,rfl,rfl,rfl⟩
        ·have hjl:j=(bF B.col o).length:=by
          have:=of_decide_eq_false h104
          omega
         rw [hjl,List.take_length,<- hRO] at hrow2 ⊢
         refine G.aw 0 mup (h_1 14) ⟨vs,w,hrow2.mono mup,rfl,rfl⟩
    ·obtain ⟨vs ,w,hrows,rfl,rfl⟩:=hI
     refine G.freezeArr 1 (bd vs (rowsO B o p t z)) rfl rfl (rowCells_two _ _) (dO hrows.1) (fun Cr hcr hsr=>?_)
     have hin:RowsIn Cr w (rowsO B o p t z):=⟨vs,hrows.mono mup,hsr⟩
     refine G.rg fun R hR=>?_
     refine D.ae (.head _) ?_
     refine D.ai (bounded_fn _ (hT.mono mup) w (rowsO B o p t z) (hin.mono mup) hFi.rows (fun r hr=>by rw [rowsO_fl r hr];omega) (Nat.le_trans (rowsO_len (by unfold bs at hsl;omega)) (by decide))) rfl rfl rfl rfl rfl rfl rfl fl_ ?_
     refine D.q2 4 6 7 hR ?_;clear hR R
     refine G.az (G.dropAll (G.aK rfl rfl rfl ?_))
     exact ⟨rfl,w,rfl,hin.mono mup⟩
end Go.Proofs.YtllimhhofkcgpaaGreatDoor
namespace Go.Jog
open Go

section
variable {cx:Cx} {n:Nat} {ds:List (Option Nat)} {R:Rg n ds} {its:List It} {fr:Fr} {C:Mem} {L:List Ent} {i k d:Nat} {o:Oper} {g:GL} {v:Value}
end
end Go.Jog
namespace Go.Proofs.YtllimhhofkcgpaaGreatDoor
open Go Go.Jog
set_option maxRecDepth 100000

structure Rich (B:Bk)(fs:List Rat)(RO:Nat->List RowQ):Prop where
 good:Good B.pts B.tris
 br:BookR B
 bz:bookZ B=0
 terr:Terr B fs
 h60:bs B*bp B<=60
 fine:∀ i o,B.obs[i]?=some o->∃ p ti t z,Fine B fs o p ti t z/\RO i=rowsO B o p t z
theorem bookZ_col {B:Bk}(h:bookZ B=0):colZ B.col=0:=by
 unfold bookZ at h
 split at h
 ·rename_i h1;exact absurd h h1
 ·split at h
  ·rename_i h1;exact absurd h h1
  ·rename_i h1;exact Classical.byContradiction h1
theorem colZ_len {l:List Lay}(h:colZ l=0):l≠[]/\l.length<=60:=by
 unfold colZ at h
 split at h
 ·exact absurd h (by decide)
 ·rename_i h0
  split at h
  ·exact absurd h (by decide)
  ·exact ⟨h0,by omega⟩
theorem Rich.bookz {C:Mem}{bv:Value}{B:Bk}{fs:List Rat}{RO:Nat->List RowQ}(h:Rich B fs RO)(hT:Tabs C)(hB:BookIn C bv B):BookZ C bv B 0 :=
 ⟨hB,fun D hD=>by have h2:=checkAll_fn D (hT.mono hD) bv B (hB.mono hD) h.good h.br;rwa [h.bz] at h2,fun _=>(colZ_len (bookZ_col h.bz)).1,Nat.le_trans (colZ_len (bookZ_col h.bz)).2 (by decide),h.good.ok.lp⟩
theorem Rich.scol {B:Bk}{fs:List Rat}{RO:Nat->List RowQ}(h:Rich B fs RO):bs B+1=B.col.length/\B.col.length<=60:=by
 obtain ⟨h1,h2⟩:=colZ_len (bookZ_col h.bz)
 have:=List.length_pos_iff.2 h1
 unfold bs
 omega
theorem rowsX (C:Mem)(hT:Tabs C)(bv:Value)(B:Bk)(fs:List Rat)(RO:Nat->List RowQ)(i:Nat)(hB:BookIn C bv B)(hR:Rich B fs RO)(hi:i<B.obs.length) :
  Pur cx.P 31 [shapeV (bs B) (bp B),bv,.int .i64 i] C fun u D=>∃ v,u=.tuple #[v,.int .i64 0]/\RowsIn D v (RO i):=by
 have ho:B.obs[i]?=some B.obs[i]:=List.getElem?_eq_getElem hi
 obtain ⟨p,ti,t,z,hF,hE⟩:=hR.fine i _ ho
 have h:=rows_fn C hT bv B fs i _ p ti t z hB hR.good hR.br hR.bz hR.terr ho hF hR.h60 (bookZ_col hR.bz) hR.scol.1 hR.scol.2
 rwa [<- hE] at h
theorem of_rows (C:Mem)(hT:Tabs C)(bv:Value)(B:Bk)(fs:List Rat)(RO:Nat->List RowQ)(hB:BookIn C bv B)(hRr:Rich B fs RO)(x:Int) :
  Pur cx.P 12 [bv,.int .i64 x] C fun u D=>∃ v,u=.tuple #[v,.int .i64 (if x<0∨(B.obs.length:Int)<=x then 3 else 0)]/\RowsIn D v (if x<0∨(B.obs.length:Int)<=x then [] else RO x.toNat):=by
 have hB0:=hB
 have hZ:=hRr.bookz hT hB
 obtain ⟨v1,v2,tv,cv,ov,rfl,h1,h2,h3,h4,h5⟩:=id hB.ex
 obtain ⟨A5,c5,rfl,hq5,hq6,_⟩:=id h5
 have hmx:maxLen<=9223372036854775807:=by simp [maxLen]
 simp only [List.length_map] at h5 hq5 hB0 hZ ⊢
 refine Fn.it kr_ Tryz.func12 31 fun w0=>?_
 refine G.rg fun R hR=>?_
 refine D.aB (fun b2=>?_)
 refine D.q2 2 1 2 hR ?_;clear hR R
 refine G.rg fun R hR=>?_
 refine D.ae (.head _) ?_
 refine D.af (of_ok _ _ B (hZ.mono mup) hRr.h60) ?_
 refine D.ps 3 ?_
 refine D.aj (fun b6=>?_)
 refine D.ag (j:=0) ?_
 refine D.q4 1 1 2 6 7 hR ?_;clear hR R
 refine G.z5 2 1 2 6 7 14 ?_
 refine G.cd (fun h14=>?_) fun h14=>?_
 ·exact absurd h14 (by decide)
 ·refine G.rp 5 fun R hR=>?_
  refine D.ae (.tail _ (.head _)) ?_
  refine D.ps 2 ?_
  refine D.aF rfl rfl rfl rfl rfl rfl rfl rfl ?_
  refine D.e4 1 2 6 24 hR ?_;clear hR R
  refine G.cd (fun h24=>?_) fun h24=>?_
  ·have hc:x<0∨(B.obs.length:Int)<=x:=by
    simp only [Bool.or_eq_true,decide_eq_true_eq] at h24
    omega
   refine G.z2 2 4 5 ?_
   refine G.az (G.dropAll (G.aK rfl rfl rfl ?_))
   exact ⟨rfl,.slice none 0 0,by rw [if_pos hc],by rw [if_pos hc];exact ⟨[],RowsOk.nil _,Sl.nil _ _⟩⟩
  ·have hc:¬ (x<0∨(B.obs.length:Int)<=x):=by
    simp only [Bool.or_eq_false_iff,decide_eq_false_iff_not] at h24
    omega
   obtain ⟨i,hi⟩:∃ i:Nat,x=(i:Int):=⟨x.toNat,by omega⟩
   subst hi
   refine G.rg fun R hR=>?_
   refine D.ae (.head _) ?_
   refine D.ae (.tail _ (.head _)) ?_
   refine D.ac ?_
   refine D.aP (rowsX _ (hT.mono mup) _ B fs RO i (hB0.mono mup) hRr om_) rfl rfl rfl rfl rfl rfl rfl fl_ (fun v28 C28 hle28 hq28=>?_)
   obtain ⟨rv,rfl,hrv⟩:=hq28
   refine D.q2 4 4 5 hR ?_;clear hR R
   refine G.az (G.dropAll (G.aK rfl rfl rfl ?_))
   exact ⟨rfl,rv,by rw [if_neg hc],by rw [if_neg hc];exact hrv⟩
/-! Rows with their sources. -/
structure SrcQ where
 n:Int
 r:RowQ
def SrcsOk (C:Mem)(vs:List Value)(l:List SrcQ):Prop:=RowsOk C vs (l.map SrcQ.r)
theorem SrcsOk.mono {C D:Mem}{vs:List Value}{l:List SrcQ}(h:SrcsOk C vs l)(hl:C.le D):SrcsOk D vs l:=RowsOk.mono h hl
theorem SrcsOk.snoc {C:Mem}{vs:List Value}{l:List SrcQ}{v:Value}{s:SrcQ}(h:SrcsOk C vs l)(hv:Sl C 1 v (s.r.f.map encQ)):SrcsOk C (vs++[v]) (l++[s]):=by
 unfold SrcsOk at h ⊢
 rw [List.map_append]
 exact RowsOk.snoc h hv



def FieldsIn (C:Mem)(v:Value)(ls:List (List Str)):Prop:=∃ vs:List Value,vs.length=ls.length/\(∀ (i:Nat)(w:Value)(l:List Str),vs[i]?=some w->ls[i]?=some l->Sl C 1 w (l.map encS1))/\Sl C 1 v (vs.map fun w=>[w])
theorem FieldsIn.mono {C D:Mem}{v:Value}{ls:List (List Str)}(h:FieldsIn C v ls)(hl:C.le D):FieldsIn D v ls:=by
 obtain ⟨vs,h1,h2,h3⟩:=h
 exact ⟨vs,h1,fun i w l h4 h5=>(h2 i w l h4 h5).mono hl,h3.mono hl⟩
end Go.Proofs.YtllimhhofkcgpaaGreatDoor
