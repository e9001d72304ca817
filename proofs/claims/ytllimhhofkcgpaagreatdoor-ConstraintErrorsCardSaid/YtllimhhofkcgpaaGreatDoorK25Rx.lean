/- FOR ANY PLAN, ANY NUMBER AND ANY OBSERVATION ConstraintErrors ANSWERS true, and leaves them as they were. -/
import Derived.Test.YtllimhhofkcgpaaGreatDoorG10
import Derived.Test.YtllimhhofkcgpaaGreatDoorShelf
set_option maxHeartbeats 4000000
namespace Go.Proofs.YtllimhhofkcgpaaGreatDoor
open Go Go.Jog
set_option maxRecDepth 100000

section
variable {H:Type} {enc:TypeId × Value->H} {W:World} {spare:Nat->Bool} {held:Bool}
theorem ej {t:TypeId}{n:Nat}{c:Value}{y:DataW H × List MemPlace}(ht:Tryz.prog.underlying t=some .string)(h:DataW.trod enc Tryz.prog W 0 spare held n t [c]=some y):∃ s:Str,c=strV s/\s.length<=9223372036854775807:=by
 obtain ⟨⟨⟨l⟩⟩,h1,_,h2⟩:=DataW.trod_string ht h
 simp only [List.cons.injEq,and_true] at h1
 have hm:maxLen<=9223372036854775807:=by simp [maxLen]
 exact ⟨l,h1,Nat.le_trans h2 hm⟩
theorem field_of {P:Program}{t:TypeId}{fs:Array Field}{fuel:Nat}{cs:List Value}{x:DataW H × List MemPlace}(ht:P.underlying t=some (.struct fs))(h:DataW.trod enc P W 0 spare held fuel t cs=some x) :
  cs.length=P.cellsOf t/\∃ n,∀ (i:Nat)(f:Field),fs[i]?=some f->∃ y,DataW.trod enc P W 0 spare held n f.type ((cs.drop f.offset).take (P.cellsOf f.type))=some y:=by
 obtain ⟨xs,n,_,rfl,hl,hlen,hf⟩:=DataW.trod_struct ht h
 refine ⟨hl,n,fun i f hi=>?_⟩
 have h1:=hf i f hi
 have h2:i<xs.length:=by rw [hlen];exact (Array.getElem?_eq_some_iff.1 hi).1
 rw [List.getElem?_eq_getElem h2] at h1
 exact ⟨_,h1⟩
theorem trod_struct7 {P:Program}{t:TypeId}{f0 f1 f2 f3 f4 f5 f6:Field}{fuel:Nat}{cs:List Value}{x:DataW H × List MemPlace}(ht:P.underlying t=some (.struct #[f0,f1,f2,f3,f4,f5,f6]))(h:DataW.trod enc P W 0 spare held fuel t cs=some x) :
  cs.length=P.cellsOf t/\∃ n,(∃ y,DataW.trod enc P W 0 spare held n f0.type ((cs.drop f0.offset).take (P.cellsOf f0.type))=some y)/\(∃ y,DataW.trod enc P W 0 spare held n f1.type ((cs.drop f1.offset).take (P.cellsOf f1.type))=some y)/\(∃ y,DataW.trod enc P W 0 spare held n f2.type ((cs.drop f2.offset).take (P.cellsOf f2.type))=some y)/\(∃ y,DataW.trod enc P W 0 spare held n f3.type ((cs.drop f3.offset).take (P.cellsOf f3.type))=some y)/\(∃ y,DataW.trod enc P W 0 spare held n f4.type ((cs.drop f4.offset).take (P.cellsOf f4.type))=some y)/\(∃ y,DataW.trod enc P W 0 spare held n f5.type ((cs.drop f5.offset).take (P.cellsOf f5.type))=some y)/\(∃ y,DataW.trod enc P W 0 spare held n f6.type ((cs.drop f6.offset).take (P.cellsOf f6.type))=some y):=by
 obtain ⟨hl,n,hf⟩:=field_of ht h
 exact ⟨hl,n,hf 0 f0 rfl,hf 1 f1 rfl,hf 2 f2 rfl,hf 3 f3 rfl,hf 4 f4 rfl,hf 5 f5 rfl,hf 6 f6 rfl⟩
theorem obs_of {n:Nat}{cs:List Value}{y:DataW H × List MemPlace}(h:DataW.trod enc Tryz.prog W 0 spare held n 38 cs=some y):∃ o:Obs,cs=encO o/\ObsR o:=by
 obtain ⟨hl,n',⟨_,h0⟩,⟨_,h1⟩,⟨_,h2⟩,⟨_,h3⟩,⟨_,h4⟩,⟨_,h5⟩,⟨_,h6⟩⟩:=trod_struct7 Tryz.underlying38 h
 have hc:Tryz.prog.cellsOf 38=10:=by kernel_rfl
 have ki:Tryz.prog.cellsOf 3=1:=by kernel_rfl
 have ks:Tryz.prog.cellsOf 9=1:=by kernel_rfl
 have kr:Tryz.prog.cellsOf 32=1:=by kernel_rfl
 have kp:Tryz.prog.cellsOf 34=2:=by kernel_rfl
 have kv:Tryz.prog.cellsOf 36=3:=by kernel_rfl
 rw [hc] at hl
 match cs,hl with
 | [c0,c1,c2,c3,c4,c5,c6,c7,c8,c9],_ =>
  simp only [ki,ks,kr,kp,kv] at h0 h1 h2 h3 h4 h5 h6
  obtain ⟨_,_,_,_,_,p0,p1⟩:=Go.ChangeShapes.trod_struct2 Tryz.underlying34 h2
  obtain ⟨_,_,_,_,_,_,q0,q1,q2⟩:=Go.Deep.trod_struct3 Tryz.underlying36 h6
  simp only [kr] at p0 p1 q0 q1 q2
  obtain ⟨kd,rfl⟩:=int_of h0
  obtain ⟨nm,rfl,r1⟩:=ej Tryz.underlying9 h1
  obtain ⟨x,rfl,r2⟩:=ej Tryz.underlying32 p0
  obtain ⟨y,rfl,r3⟩:=ej Tryz.underlying32 p1
  obtain ⟨dp,rfl,r4⟩:=ej Tryz.underlying32 h3
  obtain ⟨up,rfl,r5⟩:=ej Tryz.underlying9 h4
  obtain ⟨lo,rfl,r6⟩:=ej Tryz.underlying9 h5
  obtain ⟨nx,rfl,r7⟩:=ej Tryz.underlying32 q0
  obtain ⟨ny,rfl,r8⟩:=ej Tryz.underlying32 q1
  obtain ⟨nz,rfl,r9⟩:=ej Tryz.underlying32 q2
  exact ⟨⟨kd,nm,x,y,dp,up,lo,nx,ny,nz⟩,rfl,⟨r1,r2,r3,r4,r5,r6,r7,r8,r9⟩⟩
end

theorem ne_off {e:Int}(h0:e≠0)(h:(!decide (e=0))=false):False:=by simp [h0] at h
theorem variable_err (C:Mem)(bv:Value)(B:Bk)(z e:Int)(hZ:BookZ C bv B z)(he:ofE z (bs B) (bp B)=e)(h0:e≠0)(a b:Int):Gives cx.P 9 [bv,.int .i64 a,.int .i64 b] C (.tuple #[.int .i64 0,.int .i64 e]):=by
 obtain ⟨v1,v2,tv,cv,ov,rfl,g1,g2,g3,g4,g5⟩:=id hZ.i.ex
 refine Fn.it kr_ Tryz.func9 40 fun w0=>?_
 refine G.rg fun R hR=>?_
 refine D.aB (fun b3=>?_)
 refine D.q3 2 1 2 3 hR ?_
 refine G.freeze 0 rfl (fun C1 hle1 hb1=>?_)
 refine G.rg fun R hR=>?_
 refine D.aa (bkT hb1 5) ?_
 refine D.af (of_bad _ _ B z e (hZ.mono mup) he h0) ?_
 refine D.ps 3 ?_
 refine D.aj (fun b8=>?_)
 refine D.ag (j:=0) ?_
 refine D.q4 1 1 2 8 9 hR ?_
 refine G.z5 2 1 2 8 9 16 ?_
 refine G.cd (fun h16=>?_) fun h16=>?_
 ·refine G.z2 3 6 7 ?_
  refine G.az (G.dropAll (G.aK rfl rfl rfl ?_))
  exact ⟨rfl,rfl⟩
 ·exact (ne_off h0 h16).elim
theorem place_err (C:Mem)(bv:Value)(B:Bk)(z e:Int)(hZ:BookZ C bv B z)(he:ofE z (bs B) (bp B)=e)(h0:e≠0)(x:Int):Gives cx.P 10 [bv,.int .i64 x] C (.tuple #[.int .i64 0,.int .i64 0,.int .i64 e]):=by
 obtain ⟨v1,v2,tv,cv,ov,rfl,g1,g2,g3,g4,g5⟩:=id hZ.i.ex
 refine Fn.it kr_ Tryz.func10 32 fun w0=>?_
 refine G.rg fun R hR=>?_
 refine D.aB (fun b2=>?_)
 refine D.q2 3 1 2 hR ?_
 refine G.freeze 0 rfl (fun C1 hle1 hb1=>?_)
 refine G.rg fun R hR=>?_
 refine D.aa (bkT hb1 5) ?_
 refine D.af (of_bad _ _ B z e (hZ.mono mup) he h0) ?_
 refine D.ps 3 ?_
 refine D.aj (fun b7=>?_)
 refine D.ag (j:=0) ?_
 refine D.q3 1 1 6 7 hR ?_
 refine G.z4 2 1 6 7 14 ?_
 refine G.cd (fun h14=>?_) fun h14=>?_
 ·refine G.z3 4 4 5 6 ?_
  refine G.az (G.dropAll (G.eM rfl rfl rfl rfl ?_))
  exact ⟨rfl,rfl⟩
 ·exact (ne_off h0 h14).elim
theorem thick_err (C:Mem)(bv:Value)(B:Bk)(z e:Int)(hZ:BookZ C bv B z)(he:ofE z (bs B) (bp B)=e)(h0:e≠0) :Gives cx.P 11 [bv] C (.tuple #[.slice none 0 0,.int .i64 e]):=by
 obtain ⟨v1,v2,tv,cv,ov,rfl,g1,g2,g3,g4,g5⟩:=id hZ.i.ex
 refine Fn.it kr_ Tryz.func11 18 fun w0=>?_
 refine G.rg fun R hR=>?_
 refine D.aB (fun b1=>?_)
 refine D.q1 2 1 hR ?_
 refine G.freeze 0 rfl (fun C1 hle1 hb1=>?_)
 refine G.rg fun R hR=>?_
 refine D.aa (bkT hb1 5) ?_
 refine D.af (of_bad _ _ B z e (hZ.mono mup) he h0) ?_
 refine D.ps 3 ?_
 refine D.aj (fun b4=>?_)
 refine D.ag (j:=0) ?_
 refine D.q3 1 1 4 5 hR ?_
 refine G.z4 2 1 4 5 12 ?_
 refine G.cd (fun h12=>?_) fun h12=>?_
 ·refine G.z2 3 2 3 ?_
  refine G.az (G.dropAll (G.aK rfl rfl rfl ?_))
  exact ⟨rfl,rfl⟩
 ·exact (ne_off h0 h12).elim
theorem of_err (C:Mem)(bv:Value)(B:Bk)(z e:Int)(hZ:BookZ C bv B z)(he:ofE z (bs B) (bp B)=e)(h0:e≠0)(x:Int):Gives cx.P 12 [bv,.int .i64 x] C (.tuple #[.slice none 0 0,.int .i64 e]):=by
 obtain ⟨v1,v2,tv,cv,ov,rfl,g1,g2,g3,g4,g5⟩:=id hZ.i.ex
 refine Fn.it kr_ Tryz.func12 31 fun w0=>?_
 refine G.rg fun R hR=>?_
 refine D.aB (fun b2=>?_)
 refine D.q2 2 1 2 hR ?_
 refine G.freeze 0 rfl (fun C1 hle1 hb1=>?_)
 refine G.rg fun R hR=>?_
 refine D.aa (bkT hb1 5) ?_
 refine D.af (of_bad _ _ B z e (hZ.mono mup) he h0) ?_
 refine D.ps 3 ?_
 refine D.aj (fun b6=>?_)
 refine D.ag (j:=0) ?_
 refine D.q4 1 1 2 6 7 hR ?_
 refine G.z5 2 1 2 6 7 14 ?_
 refine G.cd (fun h14=>?_) fun h14=>?_
 ·refine G.z2 3 4 5 ?_
  refine G.az (G.dropAll (G.aK rfl rfl rfl ?_))
  exact ⟨rfl,rfl⟩
 ·exact (ne_off h0 h14).elim
theorem all_err (C:Mem)(bv:Value)(B:Bk)(z e:Int)(hZ:BookZ C bv B z)(he:ofE z (bs B) (bp B)=e)(h0:e≠0) :Gives cx.P 13 [bv] C (.tuple #[.slice none 0 0,.int .i64 e]):=by
 obtain ⟨v1,v2,tv,cv,ov,rfl,g1,g2,g3,g4,g5⟩:=id hZ.i.ex
 refine Fn.it kr_ Tryz.func13 33 fun w0=>?_
 refine G.rg fun R hR=>?_
 refine D.aB (fun b1=>?_)
 refine D.q1 2 1 hR ?_
 refine G.freeze 0 rfl (fun C1 hle1 hb1=>?_)
 refine G.rg fun R hR=>?_
 refine D.aa (bkT hb1 5) ?_
 refine D.af (of_bad _ _ B z e (hZ.mono mup) he h0) ?_
 refine D.ps 3 ?_
 refine D.aj (fun b4=>?_)
 refine D.ag (j:=0) ?_
 refine D.q3 1 1 4 5 hR ?_
 refine G.z4 2 1 4 5 14 ?_
 refine G.cd (fun h14=>?_) fun h14=>?_
 ·refine G.z2 3 2 3 ?_
  refine G.az (G.dropAll (G.aK rfl rfl rfl ?_))
  exact ⟨rfl,rfl⟩
 ·exact (ne_off h0 h14).elim
theorem chosen_err (C:Mem)(bv:Value)(B:Bk)(z e:Int)(hZ:BookZ C bv B z)(he:ofE z (bs B) (bp B)=e)(h0:e≠0)(w:Value):Gives cx.P 14 [bv,w] C (.tuple #[.slice none 0 0,.int .i64 e]):=by
 obtain ⟨v1,v2,tv,cv,ov,rfl,g1,g2,g3,g4,g5⟩:=id hZ.i.ex
 refine Fn.it kr_ Tryz.func14 46 fun w0=>?_
 refine G.rg fun R hR=>?_
 refine D.aB (fun b2=>?_)
 refine D.q2 2 1 2 hR ?_
 refine G.freeze 0 rfl (fun C1 hle1 hb1=>?_)
 refine G.rg fun R hR=>?_
 refine D.aa (bkT hb1 5) ?_
 refine D.af (of_bad _ _ B z e (hZ.mono mup) he h0) ?_
 refine D.ps 3 ?_
 refine D.aj (fun b6=>?_)
 refine D.ag (j:=0) ?_
 refine D.q4 1 1 2 6 7 hR ?_
 refine G.z5 2 1 2 6 7 16 ?_
 refine G.cd (fun h16=>?_) fun h16=>?_
 ·refine G.z2 3 4 5 ?_
  refine G.az (G.dropAll (G.aK rfl rfl rfl ?_))
  exact ⟨rfl,rfl⟩
 ·exact (ne_off h0 h16).elim
theorem values_err (C:Mem)(bv:Value)(B:Bk)(z e:Int)(hZ:BookZ C bv B z)(he:ofE z (bs B) (bp B)=e)(h0:e≠0)(w:Value):Gives cx.P 15 [bv,w] C (.tuple #[.slice none 0 0,.int .i64 e]):=by
 obtain ⟨v1,v2,tv,cv,ov,rfl,g1,g2,g3,g4,g5⟩:=id hZ.i.ex
 refine Fn.it kr_ Tryz.func15 22 fun w0=>?_
 refine G.rg fun R hR=>?_
 refine D.aB (fun b2=>?_)
 refine D.q2 2 1 2 hR ?_
 refine G.freeze 0 rfl (fun C1 hle1 hb1=>?_)
 refine G.rg fun R hR=>?_
 refine D.aa (bkT hb1 5) ?_
 refine D.af (of_bad _ _ B z e (hZ.mono mup) he h0) ?_
 refine D.ps 3 ?_
 refine D.aj (fun b6=>?_)
 refine D.ag (j:=0) ?_
 refine D.q4 1 1 2 6 7 hR ?_
 refine G.z5 2 1 2 6 7 14 ?_
 refine G.cd (fun h14=>?_) fun h14=>?_
 ·refine G.z2 3 4 5 ?_
  refine G.az (G.dropAll (G.aK rfl rfl rfl ?_))
  exact ⟨rfl,rfl⟩
 ·exact (ne_off h0 h14).elim
theorem fields_err (C:Mem)(bv:Value)(B:Bk)(z e:Int)(hZ:BookZ C bv B z)(he:ofE z (bs B) (bp B)=e)(h0:e≠0)(w:Value):Gives cx.P 16 [bv,w] C (.tuple #[.slice none 0 0,.int .i64 e]):=by
 obtain ⟨v1,v2,tv,cv,ov,rfl,g1,g2,g3,g4,g5⟩:=id hZ.i.ex
 refine Fn.it kr_ Tryz.func16 60 fun w0=>?_
 refine G.rg fun R hR=>?_
 refine D.aB (fun b2=>?_)
 refine D.q2 2 1 2 hR ?_
 refine G.freeze 0 rfl (fun C1 hle1 hb1=>?_)
 refine G.rg fun R hR=>?_
 refine D.aa (bkT hb1 5) ?_
 refine D.af (of_bad _ _ B z e (hZ.mono mup) he h0) ?_
 refine D.ps 3 ?_
 refine D.aj (fun b6=>?_)
 refine D.ag (j:=0) ?_
 refine D.q3 1 1 6 7 hR ?_
 refine G.z4 2 1 6 7 19 ?_
 refine G.cd (fun h19=>?_) fun h19=>?_
 ·refine G.z2 3 4 5 ?_
  refine G.az (G.dropAll (G.aK rfl rfl rfl ?_))
  exact ⟨rfl,rfl⟩
 ·exact (ne_off h0 h19).elim
theorem fails_err (C:Mem)(bv:Value)(B:Bk)(z e:Int)(hZ:BookZ C bv B z)(he:ofE z (bs B) (bp B)=e)(h0:e≠0)(w:Value):Gives cx.P 17 [bv,w] C (.tuple #[.slice none 0 0,.int .i64 e]):=by
 obtain ⟨v1,v2,tv,cv,ov,rfl,g1,g2,g3,g4,g5⟩:=id hZ.i.ex
 refine Fn.it kr_ Tryz.func17 67 fun w0=>?_
 refine G.rg fun R hR=>?_
 refine D.aB (fun b2=>?_)
 refine D.q2 2 1 2 hR ?_
 refine G.freeze 0 rfl (fun C1 hle1 hb1=>?_)
 refine G.rg fun R hR=>?_
 refine D.aa (bkT hb1 5) ?_
 refine D.af (of_bad _ _ B z e (hZ.mono mup) he h0) ?_
 refine D.ps 3 ?_
 refine D.aj (fun b6=>?_)
 refine D.ag (j:=0) ?_
 refine D.q4 1 1 2 6 7 hR ?_
 refine G.z5 2 1 2 6 7 20 ?_
 refine G.cd (fun h20=>?_) fun h20=>?_
 ·refine G.z2 3 4 5 ?_
  refine G.az (G.dropAll (G.aK rfl rfl rfl ?_))
  exact ⟨rfl,rfl⟩
 ·exact (ne_off h0 h20).elim

def towQ (a b:Pt)(s:Rat):Pt:=(a.1+s*(b.1-a.1),a.2+s*(b.2-a.2))
def oppB (u v:Rat):Bool:=decide (sgnZ u.num*sgnZ v.num<0)
def cellC (p q x y:Pt):List Pt:=(if 0<=bB p q x then [x] else [])++(if oppB (bB p q x) (bB p q y) then [towQ x y (bB p q x / (bB p q x-bB p q y))] else [])
def cellN (p q:Pt)(l:List Pt)(j:Nat):List Pt:=cellC p q (l.getD j (0,0)) (l.getD ((j+1) % l.length) (0,0))
def dL (p q:Pt)(l:List Pt)(n:Nat):List Pt:=(List.range n).flatMap (cellN p q l)
def clipS (p q:Pt)(l:List Pt):List Pt:=dL p q l l.length
def tri3 (a b c:Pt)(j:Nat):Pt:=if j=0 then a else if j=1 then b else c
def eH (l:List Pt)(b0 b1 b2:Pt):Nat->List Pt
 | 0=>l
 | n+1=>clipS (tri3 b0 b1 b2 n) (tri3 b0 b1 b2 ((n+1) % 3)) (eH l b0 b1 b2 n)
theorem clipJ_succ (p q:Pt)(l:List Pt)(n:Nat):dL p q l (n+1)=dL p q l n++cellN p q l n:=by
 unfold dL;rw [List.range_succ,List.flatMap_append];simp
theorem cellC_len (p q x y:Pt):(cellC p q x y).length<=2:=by
 unfold cellC
 split <;> split <;> simp
theorem db (p q:Pt)(l:List Pt):∀ n,(dL p q l n).length<=2*n
 | 0=>by simp [dL]
 | n+1=>by
  rw [clipJ_succ,List.length_append]
  have:=db p q l n
  have:=cellC_len p q (l.getD n (0,0)) (l.getD ((n+1) % l.length) (0,0))
  unfold cellN
  omega
theorem clipK_len {l:List Pt}(h:l.length=3)(b0 b1 b2:Pt):∀ n,n<=3->(eH l b0 b1 b2 n).length<=24
 | 0,_=>by show l.length<=24;omega
 | 1,_=>by have h1:=db (tri3 b0 b1 b2 0) (tri3 b0 b1 b2 1) l l.length;show (dL _ _ l l.length).length<=24;rw [h] at h1 ⊢;exact Nat.le_trans h1 (by decide)
 | 2,_=>by
  have h1:=db (tri3 b0 b1 b2 0) (tri3 b0 b1 b2 1) l l.length
  have h2:=db (tri3 b0 b1 b2 1) (tri3 b0 b1 b2 2) (eH l b0 b1 b2 1) (eH l b0 b1 b2 1).length
  have e1:(eH l b0 b1 b2 1).length<=6:=by show (dL _ _ l l.length).length<=6;rw [h] at h1 ⊢;exact h1
  exact Nat.le_trans h2 om_
 | 3,_=>by
  have h1:=db (tri3 b0 b1 b2 0) (tri3 b0 b1 b2 1) l l.length
  have h2:=db (tri3 b0 b1 b2 1) (tri3 b0 b1 b2 2) (eH l b0 b1 b2 1) (eH l b0 b1 b2 1).length
  have h3:=db (tri3 b0 b1 b2 2) (tri3 b0 b1 b2 0) (eH l b0 b1 b2 2) (eH l b0 b1 b2 2).length
  have e1:(eH l b0 b1 b2 1).length<=6:=by show (dL _ _ l l.length).length<=6;rw [h] at h1 ⊢;exact h1
  have e2:(eH l b0 b1 b2 2).length<=12:=Nat.le_trans h2 om_
  exact Nat.le_trans h3 om_
 | n+4,h=>by omega
theorem area2_qb {p q x:Pt}{k:Nat}(hp:QP 1 p)(hq:QP 1 q)(hx:QP k x):QB (2*k+11) (bB p q x):=by
 have h1:=cV (bO hq.1 hp.1) (bO hx.2 hp.2)
 have h2:=cV (bO hq.2 hp.2) (bO hx.1 hp.1)
 exact (bO h1 h2).le om_
theorem QB_divx {a b:Rat}{k m:Nat}(ha:QB k a)(hb:QB m b)(h0:b≠0):QB (k+m) (a / b):=by
 have h1:=QB_inv hb h0
 rw [Rat.div_def]
 exact cV ha h1
theorem opp_ne {u v:Rat}(h:oppB u v=true):u-v≠0:=by
 intro e
 have e2:u=v:=by grind
 subst e2
 unfold oppB at h
 have h1:=of_decide_eq_true h
 unfold sgnZ at h1
 split at h1
 ·omega
 ·split at h1 <;> omega
theorem tow_qb {p q x y:Pt}{k:Nat}(hp:QP 1 p)(hq:QP 1 q)(hx:QP k x)(hy:QP k y)(h:oppB (bB p q x) (bB p q y)=true) :
  QB (6*k+34) (bB p q x / (bB p q x-bB p q y))/\QP (9*k+36) (towQ x y (bB p q x / (bB p q x-bB p q y))):=by
 have hu:=area2_qb hp hq hx
 have hv:=area2_qb hp hq hy
 have hs:=(QB_divx hu (bO hu hv) (opp_ne h)).le (show 2*k+11+(2*k+11+(2*k+11)+1)<=6*k+34 by omega)
 exact ⟨hs,(QB_addx hx.1 (cV hs (bO hy.1 hx.1))).le om_,(QB_addx hx.2 (cV hs (bO hy.2 hx.2))).le om_⟩
theorem getD_all {l:List Pt}{k:Nat}(h:∀ x∈l,QP k x){j:Nat}(hj:j<l.length):QP k (l.getD j (0,0)):=by
 rw [List.getD_eq_getElem?_getD,List.getElem?_eq_getElem hj];exact h _ (List.getElem_mem hj)
theorem clipJ_qb {p q:Pt}{l:List Pt}{k:Nat}(hp:QP 1 p)(hq:QP 1 q)(h:∀ x∈l,QP k x):∀ n,n<=l.length->∀ x∈dL p q l n,QP (9*k+36) x
 | 0,_,x,hx=>by simp [dL] at hx
 | n+1,hn,x,hx=>by
  rw [clipJ_succ] at hx
  rcases List.mem_append.1 hx with hx | hx
  ·exact clipJ_qb hp hq h n om_ x hx
  ·have hx1:=getD_all h (show n<l.length by omega)
   have hy1:=getD_all h (Nat.mod_lt (n+1) (show 0<l.length by omega))
   unfold cellN cellC at hx
   rcases List.mem_append.1 hx with hx | hx
   ·split at hx
    ·simp at hx;subst hx;exact ⟨hx1.1.le om_,hx1.2.le om_⟩
    ·cases hx
   ·split at hx
    ·rename_i ho
     simp only [List.mem_singleton] at hx
     subst hx
     exact (tow_qb hp hq hx1 hy1 ho).2
    ·cases hx

theorem toward_fn (C:Mem)(hT:Tabs C)(a b:Pt)(s:Rat)(k m:Nat)(hk0:0<k)(hm:k+k+1<=m)(hk:m+(k+k+1)+k<=9000)(ha:QP k a)(hb:QP k b)(hs:QB m s):Gives cx.P 133 [ptV a,ptV b,strV (qtx s)] C (ptV (towQ a b s)):=by
 have h1:=QB_sub hb.1 ha.1
 have h2:=QB_sub hb.2 ha.2
 have p1:QB (m+(k+k+1)) (s*(b.1-a.1)):=cV hs h1
 have p2:QB (m+(k+k+1)) (s*(b.2-a.2)):=cV hs h2
 refine Fn.it kr_ Tryz.func133 28 fun w0=>?_
 refine G.rg fun R hR=>?_
 refine D.aB (fun b3=>?_)
 refine D.aB (fun b4=>?_)
 refine D.aj (fun b6=>?_)
 refine D.e4 2 3 4 6 hR ?_
 refine G.freeze 2 rfl (fun C2 hle2 hb2=>?_)
 refine G.freeze 1 rfl (fun C3 hle3 hb3=>?_)
 refine G.aH [0,1,2,3,4,5,6,7,8,9,10,11,12,13,14,15,16,17,18,19,20,21] [(7,1),(8,1),(9,1),(17,1),(18,1),(19,1)] rfl kr_ (fun R hB hR=>?_)
 refine D.ac ?_
 refine D.aa (bkT hb2 1) ?_
 refine D.ps 2 ?_
 refine D.aa (bkT hb3 1) ?_
 refine D.ac ?_
 refine D.aa (bkT hb2 1) ?_
 refine D.aC (fun _=>(bR _ (hT.mono mup) b.1 a.1 k hk0 om_ hb.1 ha.1)) rfl rfl rfl rfl rfl rfl rfl rfl rfl ?_
 refine D.aC (fun _=>(cS _ (hT.mono mup) s (b.1-a.1) m om_ om_ hs (h1.le om_))) rfl rfl rfl rfl rfl rfl rfl rfl rfl ?_
 refine D.aC (fun _=>(radd_fn _ (hT.mono mup) a.1 (s*(b.1-a.1)) (m+(k+k+1)) om_ om_ (ha.1.le om_) p1)) rfl rfl rfl rfl rfl rfl rfl rfl rfl ?_
 refine D.ac ?_
 refine D.aa (bkT hb2 1) ?_
 refine D.ps 2 ?_
 refine D.aa (bkT hb3 1) ?_
 refine D.ac ?_
 refine D.aa (bkT hb2 1) ?_
 refine D.aC (fun _=>(bR _ (hT.mono mup) b.2 a.2 k hk0 om_ hb.2 ha.2)) rfl rfl rfl rfl rfl rfl rfl rfl rfl ?_
 refine D.aC (fun _=>(cS _ (hT.mono mup) s (b.2-a.2) m om_ om_ hs (h2.le om_))) rfl rfl rfl rfl rfl rfl rfl rfl rfl ?_
 refine D.aC (fun _=>(radd_fn _ (hT.mono mup) a.2 (s*(b.2-a.2)) (m+(k+k+1)) om_ om_ (ha.2.le om_) p2)) rfl rfl rfl rfl rfl rfl rfl rfl rfl ?_
 refine D.ak (encP (towQ a b s)) ?_
 refine D.ag (j:=0) ?_
 refine D.e1 6 hR ?_
 refine G.az (G.di (.head _) rfl rfl rfl rfl ?_)
 exact ⟨rfl,rfl⟩
theorem pt_eqB (p q:Pt):((qtx p.1 == qtx q.1) && ((qtx p.2 == qtx q.2) && true))=decide (p=q):=by
 rw [Bool.and_true,Bool.eq_iff_iff,Bool.and_eq_true,beq_iff_eq,beq_iff_eq,decide_eq_true_eq]
 exact ⟨fun h=>Prod.ext (qtx_eq h.1) (qtx_eq h.2),fun h=>by rw [h];exact ⟨rfl,rfl⟩⟩
theorem index_pts (C:Mem)(v:Value)(l:List Pt)(p:Pt)(hv:Sl C 2 v (l.map encP)):Gives cx.P 134 [v,ptV p] C (.int .i64 (idxF (fun y=>decide (p=y)) l 0)):=by
 obtain ⟨A0,c0,rfl,hc1,hc2,_⟩:=id hv
 have hmx:maxLen<=9223372036854775807:=by simp [maxLen]
 simp only [List.length_map] at hv hc1 ⊢
 refine Fn.it kr_ Tryz.func134 19 fun w0=>?_
 refine G.rg fun R hR=>?_
 refine D.aB (fun b3=>?_)
 refine D.q2 1 0 3 hR ?_
 refine G.freeze 0 rfl (fun C1 hle1 hb1=>?_)
 refine G.z4 3 0 3 7 8 ?_
 refine G.loop (fun fr C' L' μ=>∃ (i:Nat),(i<=l.length/\∀ y∈l.take i,(fun y=>decide (p=y)) y=false)/\fr=[(0,[],.slice A0 l.length c0),(3,[],.pointer (some ⟨b3,0,none⟩)),(7,[],.int .i64 l.length),(8,[],.int .i64 i)]/\L'=[]/\μ=l.length-i) (h_4 0 3 7 8) ⟨0,⟨Nat.zero_le _,by simp⟩,rfl,rfl,rfl⟩ (fun fr C0' L0' m hle0 hI=>?_)
 obtain ⟨i,⟨hi,hno⟩,rfl,rfl,rfl⟩:=hI
 refine G.z5 1 0 3 7 8 9 ?_
 refine G.cd (fun h9=>?_) fun h9=>?_
 ·have hil:i<l.length:=by simpa using h9
  obtain ⟨x,hx⟩:∃ x,l[i]?=some x:=⟨l[i],List.getElem?_eq_getElem hil⟩
  refine G.z5 2 0 3 5 7 8 ?_
  refine G.aH [0,1,2,3,4,5] [] rfl kr_ (fun R hB hR=>?_)
  refine D.aa (bkT hb1 2) ?_
  refine D.ps 2 ?_
  refine D.al (hv.mono mup) rfl rfl rfl rfl rfl rfl rfl rfl rfl rfl om_ (bt hx) fl_ (fun p14 hp14=>?_)
  refine D.aa hp14 ?_
  refine D.eqAgg (decide (p=x)) kr_ rfl rfl rfl rfl rfl rfl rfl rfl (fun _=>by rw [<- pt_eqB]) rfl rfl ?_
  refine D.e6 0 3 5 7 8 16 hR ?_
  refine G.cd (fun h16=>?_) fun h16=>?_
  ·have hyes:decide (p=x)=true:=by simpa using h16
   refine G.z1 2 4 ?_
   refine G.rf ?_
   exact ⟨by rw [idxF_hit hx hyes hno,Nat.zero_add],rfl⟩
  ·have hn:decide (p=x)=false:=by simpa using h16
   refine G.rg fun R hR=>?_
   refine D.am _ ?_
   refine D.q4 1 0 3 7 8 hR ?_
   refine G.ax (m':=l.length-(i+1)) om_ mup (h_4 0 3 7 8) ⟨i+1,⟨by omega,fun y hy=>by
    rw [List.take_add_one,hx] at hy
    rcases List.mem_append.1 hy with hy | hy
    ·exact hno y hy
    ·simp only [Option.toList_some,List.mem_singleton] at hy
     subst hy
     exact hn⟩,rfl,rfl,rfl⟩
 ·have hil:i=l.length:=by
   have:¬ i<l.length:=by simpa using h9
   omega
  refine G.z1 1 4 ?_
  refine G.rf ?_
  exact ⟨by rw [hil,List.take_length] at hno;rw [idxF_miss hno],rfl⟩
theorem contains_pts (C:Mem)(v:Value)(l:List Pt)(p:Pt)(hv:Sl C 2 v (l.map encP)):Gives cx.P 92 [v,ptV p] C (.bool (decide (p∈l))):=by
 refine Fn.it kr_ Tryz.func92 9 fun w0=>?_
 refine G.rg fun R hR=>?_
 refine D.aB (fun b3=>?_)
 refine D.q2 1 0 3 hR ?_
 refine G.freeze 0 rfl (fun C1 hle1 hb1=>?_)
 refine G.rp 1 fun R hR=>?_
 refine D.aa (bkT hb1 2) ?_
 refine D.af (index_pts _ v l p (hv.mono mup)) ?_
 refine D.q1 2 4 hR ?_
 refine G.rf ?_
 refine ⟨?_,rfl⟩
 congr 1
 rw [decide_eq_decide]
 rcases idxF_cases (fun y=>decide (p=y)) l with ⟨h1,h2⟩ | ⟨i,x,h1,h2,h3,_⟩
 ·rw [h1]
  constructor
  ·intro h;omega
  ·intro h
   have:=h2 p h
   simp at this
 ·rw [h1]
  constructor
  ·intro _
   have:p=x:=of_decide_eq_true h3
   rw [this]
   exact List.mem_of_getElem? h2
  ·intro _;omega

theorem tri_ptr {C:Mem}{b:Nat}{t:TypeId}{b0 b1 b2:Pt}(h:C b=some (.cells ⟨encP b0++encP b1++encP b2⟩ t (0,0))){k:Nat}(hk:k<3):PtrTo C (.pointer (some ⟨b,k*2,none⟩)) (encP (tri3 b0 b1 b2 k)):=by
 rcases (by omega:k=0∨k=1∨k=2) with rfl | rfl | rfl
 ·exact PtrTo.blockT h 0 2
 ·exact PtrTo.blockT h 2 2
 ·exact PtrTo.blockT h 4 2
theorem tri3_qp {b0 b1 b2:Pt}(h0:QP 1 b0)(h1:QP 1 b1)(h2:QP 1 b2)(k:Nat):QP 1 (tri3 b0 b1 b2 k):=by unfold tri3;split;exact h0;split;exact h1;exact h2
def szK:Nat->Nat
 | 0=>1
 | n+1=>9*szK n+36
theorem szK_le {k:Nat}(h:k<3):szK k<=441:=by
 rcases (by omega:k=0∨k=1∨k=2) with rfl | rfl | rfl <;> decide
theorem szK_pos (k:Nat):0<szK k:=by cases k <;> simp [szK]
theorem sgn_ge (q:Rat):decide (sgnZ q.num ≥ 0)=decide (0<=q):=by
 rw [decide_eq_decide,<- Rat.num_nonneg]
 unfold sgnZ
 split
 ·omega
 ·split <;> omega
theorem sgnZ_bd (z:Int):-1<=sgnZ z/\sgnZ z<=1:=by unfold sgnZ;split;omega;split <;> omega
theorem sgn_mul (a b:Int):-1<=sgnZ a*sgnZ b/\sgnZ a*sgnZ b<=1:=by
 have h1:sgnZ a=-1∨sgnZ a=0∨sgnZ a=1:=by unfold sgnZ;split;omega;split <;> omega
 have h2:=sgnZ_bd b
 rcases h1 with h | h | h <;> rw [h] <;> omega
theorem getD_row {l:List Pt}{j:Nat}(h:j<l.length):(l.map encP)[j]?=some (encP (l.getD j (0,0))):=by
 rw [List.getElem?_map,List.getD_eq_getElem?_getD,List.getElem?_eq_getElem h];rfl
def keepL (u:Rat)(x:Pt):List Pt:=if 0<=u then [x] else []
def cutL (u v:Rat)(x y:Pt):List Pt:=if oppB u v then [towQ x y (u / (u-v))] else []
theorem clip_fn (C:Mem)(hT:Tabs C)(p0 p1 p2 q0 q1 q2:Pt)(hp0:QP 1 p0)(hp1:QP 1 p1)(hp2:QP 1 p2)(hq0:QP 1 q0)(hq1:QP 1 q1)(hq2:QP 1 q2) :
  Pur cx.P 91 [cornV p0 p1 p2,cornV q0 q1 q2] C fun u D=>Sl D 2 u ((eH [p0,p1,p2] q0 q1 q2 3).map encP):=by
 have hmx:maxLen<=9223372036854775807:=by simp [maxLen]
 refine Fn.it kr_ Tryz.func91 84 fun w0=>?_
 refine G.rg fun R hR=>?_
 refine D.aB (fun b2=>?_)
 refine D.aB (fun b3=>?_)
 refine D.q2 1 2 3 hR ?_;clear hR R
 refine G.freeze 1 rfl (fun C2 hle2 hb2=>?_)
 refine G.freeze 0 rfl (fun C3 hle3 hb3=>?_)
 have hs0:Sl C3 2 (.slice (some ⟨b2,0,none⟩) 3 3) ([p0,p1,p2].map encP):=Sl.ofBlock (rows:=[p0,p1,p2].map encP) (c:=3) (Mem.get hb2 mup) (by intro r hr;obtain ⟨y,_,rfl⟩:=List.mem_map.1 hr;rfl) (fun j v hj=>by simpa using hj) (Nat.le_refl _) (by decide)
 refine G.rg fun R hR=>?_
 refine D.sliceA 0 3 3 rfl rfl rfl rfl rfl rfl rfl rfl rfl rfl rfl rfl (fun _=>⟨.inl ⟨rfl,rfl⟩,.inl ⟨rfl,rfl⟩,.inl ⟨rfl,rfl⟩,by omega,by omega,Nat.le_refl _⟩) rfl rfl ?_
 refine D.q2 1 3 5 hR ?_;clear hR R
 refine G.z3 1 3 5 18 ?_
 refine G.loop (fun fr C' L' μ=>∃ (k:Nat)(A:Option Addr)(n c:Nat),(k<=3/\Sl C' 2 (.slice A n c) ((eH [p0,p1,p2] q0 q1 q2 k).map encP)/\∀ x∈eH [p0,p1,p2] q0 q1 q2 k,QP (szK k) x)/\fr=[(3,[],.pointer (some ⟨b3,0,none⟩)),(5,[],.slice A n c),(18,[],.int .i64 k)]/\L'=[]/\μ=3-k) (h_3 3 5 18) ⟨0,_,_,_,⟨by omega,hs0.mono mup,fun x hx=>by simp [eH] at hx;rcases hx with rfl | rfl | rfl <;> assumption⟩,rfl,rfl,rfl⟩ (fun fr C0' L0' m hle0 hI=>?_)
 obtain ⟨k,A,n,c,⟨hk,hsl,hqp⟩,rfl,rfl,rfl⟩:=hI
 refine G.z4 1 3 5 18 19 ?_
 refine G.cd (fun h19=>?_) fun h19=>?_
 ·have hk3:k<3:=by have:=of_decide_eq_true h19;omega
  have hll:=clipK_len (l:=[p0,p1,p2]) rfl q0 q1 q2 k om_
  have hP1:=tri3_qp hq0 hq1 hq2 k
  have hQ1:=tri3_qp hq0 hq1 hq2 ((k+1) % 3)
  have hm3:(k+1) % 3<3:=Nat.mod_lt _ (by decide)
  have hptP:=tri_ptr (Mem.get (D:=C0') hb3 mup) hk3
  have hptQ:=tri_ptr (Mem.get (D:=C0') hb3 mup) hm3
  obtain ⟨P,hP⟩:∃ P,tri3 q0 q1 q2 k=P:=⟨_,rfl⟩
  obtain ⟨Q,hQ⟩:∃ Q,tri3 q0 q1 q2 ((k+1) % 3)=Q:=⟨_,rfl⟩
  obtain ⟨lk,hlk⟩:∃ lk,eH [p0,p1,p2] q0 q1 q2 k=lk:=⟨_,rfl⟩
  have hnext:eH [p0,p1,p2] q0 q1 q2 (k+1)=dL P Q lk lk.length:=by show clipS _ _ _=_;rw [hP,hQ,hlk];rfl
  rw [hP] at hP1 hptP
  rw [hQ] at hQ1 hptQ
  rw [hlk] at hsl hqp hll
  have hsz:=szK_le hk3
  have hsp:=szK_pos k
  obtain ⟨_,_,hse,_⟩:=id hsl
  cases hse
  simp only [List.length_map] at hsl ⊢
  refine G.z4 2 3 5 6 18 ?_
  refine G.cX (.cut [0,1,2,3,4,5,6,7] (.alt 8 (.fin [9,10,11]) (.alt 9 (.fin [8,10,11]) .stop))) [(2,0),(7,0)] rfl rfl kr_ (fun R hB hR hH=>?_)
  refine G.share2 hR (fun b7 b8=>[(3,[],.pointer (some ⟨b3,0,none⟩)),(5,[],.slice A lk.length c),(7,[],.pointer (some ⟨b7,0,none⟩)),(8,[],.pointer (some ⟨b8,0,none⟩)),(18,[],.int .i64 k)]) (fun b7 b8=>[.obj b7 (.cells ⟨encP P⟩ 34 (0,0)),.obj b8 (.cells ⟨encP Q⟩ 34 (0,0))]) (fun hc=>?_) (fun b7 b8=>?_)
  ·refine D.ac ?_
   refine D.ar ((k*2)) rfl rfl rfl rfl rfl rfl rfl rfl rfl (fun _=>⟨by omega,by omega,by show k*2=0+(k:Int).toNat*2;omega⟩) rfl rfl ?_
   refine D.loadB (fun _=>(hptP.mono hB)) rfl rfl rfl rfl rfl rfl rfl rfl rfl ?_
   refine D.ac ?_
   refine D.cG (((k+1:Nat):Int)) rfl rfl rfl rfl om_ om_ om_ rfl rfl ?_
   refine D.df (k+1) 3 rfl rfl rfl rfl rfl rfl (by decide) rfl rfl ?_
   refine D.ar (((k+1) % 3*2)) rfl rfl rfl rfl rfl rfl rfl rfl rfl (fun _=>⟨by omega,by omega,by show (k+1) % 3*2=0+(((k+1) % 3:Nat):Int).toNat*2;omega⟩) rfl rfl ?_
   refine D.loadB (fun _=>(hptQ.mono hB)) rfl rfl rfl rfl rfl rfl rfl rfl rfl ?_
   refine D.bJ hH rfl ⟨?_, ?_,trivial⟩
   ·refine D.aj (fun b7=>?_)
    refine D.aj (fun b8=>?_)
    refine D.ag (j:=1) ?_
    refine D.ag (j:=1) ?_
    exact D.done [(3,[],_),(5,[],_),(7,[],_),(8,[],_),(18,[],_)] ⟨rfl,rfl,rfl,rfl,rfl,trivial⟩ (hR _ _ _ rfl (G.perm _ ((aN (j:=1) rfl).trans (List.Perm.cons _ (List.Perm.refl _))) (hc b7 b8)))
   ·refine D.aj (fun b8=>?_)
    refine D.aj (fun b7=>?_)
    refine D.ag (j:=0) ?_
    refine D.ag (j:=1) ?_
    exact D.done [(3,[],_),(5,[],_),(7,[],_),(8,[],_),(18,[],_)] ⟨rfl,rfl,rfl,rfl,rfl,trivial⟩ (hR _ _ _ rfl (G.perm _ ((aN (j:=1) rfl).trans (List.Perm.cons _ (List.Perm.refl _))) (hc b7 b8)))
  clear hR hH hB R
  refine G.freeze 0 rfl (fun C7 hle7 hb7=>?_)
  refine G.freeze 0 rfl (fun C8 hle8 hb8=>?_)
  refine G.z6 1 3 5 7 8 9 18 ?_
  refine G.z9 3 3 5 7 8 9 18 29 30 31 ?_
  refine G.nilArr 34 2 ?_
  refine G.loop (fun fr C' L' μ=>∃ (j:Nat)(B:Option Addr)(m d:Nat),(j<=lk.length)/\fr=[(3,[],.pointer (some ⟨b3,0,none⟩)),(5,[],.slice A lk.length c),(7,[],.pointer (some ⟨b7,0,none⟩)),(8,[],.pointer (some ⟨b8,0,none⟩)),(9,[],.slice B m d),(18,[],.int .i64 k),(29,[],.slice A lk.length c),(30,[],.int .i64 lk.length),(31,[],.int .i64 j)]/\L'=[.arr (.slice B m d) 34 2 (dL P Q lk j).length ((dL P Q lk j).map encP).flatten]/\μ=lk.length-j) (h_9 3 5 7 8 9 18 29 30 31) ⟨0,none,0,0,Nat.zero_le _,rfl,rfl,rfl⟩ (fun fr C1' L1' m hle1 hI=>?_)
  obtain ⟨j,B,m,d,hj,rfl,rfl,rfl⟩:=hI
  refine G.z10 1 3 5 7 8 9 18 29 30 31 32 ?_
  refine G.cd (fun h32=>?_) fun h32=>?_
  ·have hjl:j<lk.length:=by have:=of_decide_eq_true h32;omega
   have hjm:(j+1) % lk.length<lk.length:=Nat.mod_lt _ om_
   have hx1:=getD_all hqp hjl
   have hy1:=getD_all hqp hjm
   have hrx:=getD_row hjl
   have hry:=getD_row hjm
   have hjs:=clipJ_succ P Q lk j
   have hjn:=db P Q lk j
   unfold cellN at hjs
   obtain ⟨x,hx⟩:∃ x,lk.getD j (0,0)=x:=⟨_,rfl⟩
   obtain ⟨y,hy⟩:∃ y,lk.getD ((j+1) % lk.length) (0,0)=y:=⟨_,rfl⟩
   rw [hx] at hx1 hrx hjs
   rw [hy] at hy1 hry hjs
   have qu:=area2_qb hP1 hQ1 hx1
   have qv:=area2_qb hP1 hQ1 hy1
   have hau:=fun D (hD:Tabs D)=>eK D hD P Q x (szK k) hsp om_ ⟨hP1.1.le hsp,hP1.2.le hsp⟩ ⟨hQ1.1.le hsp,hQ1.2.le hsp⟩ hx1
   have hav:=fun D (hD:Tabs D)=>eK D hD P Q y (szK k) hsp om_ ⟨hP1.1.le hsp,hP1.2.le hsp⟩ ⟨hQ1.1.le hsp,hQ1.2.le hsp⟩ hy1
   have htw:=fun h=>tow_qb hP1 hQ1 hx1 hy1 h
   have hjs':dL P Q lk (j+1)=dL P Q lk j++(keepL (bB P Q x) x++cutL (bB P Q x) (bB P Q y) x y):=hjs
   obtain ⟨u,hu⟩:∃ u,bB P Q x=u:=⟨_,rfl⟩
   obtain ⟨v,hv⟩:∃ v,bB P Q y=v:=⟨_,rfl⟩
   rw [hu] at qu hau htw hjs'
   rw [hv] at qv hav htw hjs'
   obtain ⟨cj,hcj⟩:∃ cj,dL P Q lk j=cj:=⟨_,rfl⟩
   rw [hcj] at hjs' hjn ⊢
   have hlu:(qtx u).length<=1000000:=Nat.le_trans (bk qu om_) om_
   have hlv:(qtx v).length<=1000000:=Nat.le_trans (bk qv om_) om_
   have hsm:=sgn_mul u.num v.num
   refine G.rp 1 fun R hR=>?_
   refine D.al (hsl.mono mup) rfl rfl rfl rfl rfl rfl rfl rfl rfl rfl om_ hrx fl_ (fun p34 hp34=>?_)
   refine D.aa hp34 ?_
   refine D.aj (fun b11=>?_)
   refine D.ac ?_
   refine D.ag (j:=0) ?_
   refine D.e11 3 5 7 8 9 10 11 18 29 30 31 hR ?_;clear hR R
   refine G.freeze 0 rfl (fun C11 hle11 hb11=>?_)
   refine G.rp 2 fun R hR=>?_
   refine D.cG (((j+1:Nat):Int)) rfl rfl rfl rfl om_ om_ om_ rfl rfl ?_
   refine D.ps 2 ?_
   refine D.df (j+1) lk.length rfl rfl rfl rfl rfl rfl om_ rfl rfl ?_
   refine D.al (hsl.mono mup) rfl rfl rfl rfl rfl rfl rfl rfl rfl rfl om_ hry fl_ (fun p42 hp42=>?_)
   refine D.aa hp42 ?_
   refine D.aj (fun b12=>?_)
   refine D.ag (j:=0) ?_
   refine D.e11 3 5 7 8 9 11 12 18 29 30 31 hR ?_;clear hR R
   refine G.freeze 0 rfl (fun C12 hle12 hb12=>?_)
   refine G.aH [0,1,2,3,4,5,6,7,8,9] [(3,1),(7,1)] rfl kr_ (fun R hB hR=>?_)
   refine D.aa (bkT hb7 2) ?_
   refine D.aa (bkT hb8 2) ?_
   refine D.aa (bkT hb11 2) ?_
   refine D.aW (fun _=>(hau _ (hT.mono mup))) ?_
   refine D.aa (bkT hb7 2) ?_
   refine D.aa (bkT hb8 2) ?_
   refine D.aa (bkT hb12 2) ?_
   refine D.aW (fun _=>(hav _ (hT.mono mup))) ?_
   refine D.ps 2 ?_
   refine D.e13 3 5 7 8 9 11 12 13 14 18 29 30 31 hR ?_;clear hR hB R
   refine G.rp 1 fun R hR=>?_
   refine D.ai (rsign_fn _ u om_) rfl rfl rfl rfl rfl rfl rfl fl_ ?_
   refine D.q14 1 3 5 7 8 9 11 12 13 14 18 29 30 31 54 hR ?_;clear hR R
   refine G.cut (fun fr C' L' μ=>∃ (B2:Option Addr)(m2 d2:Nat),(True)/\fr=[(3,[],.pointer (some ⟨b3,0,none⟩)),(5,[],.slice A lk.length c),(7,[],.pointer (some ⟨b7,0,none⟩)),(8,[],.pointer (some ⟨b8,0,none⟩)),(9,[],.slice B2 m2 d2),(11,[],.pointer (some ⟨b11,0,none⟩)),(12,[],.pointer (some ⟨b12,0,none⟩)),(13,[],strV (qtx u)),(14,[],strV (qtx v)),(18,[],.int .i64 k),(29,[],.slice A lk.length c),(30,[],.int .i64 lk.length),(31,[],.int .i64 j)]/\L'=[.arr (.slice B2 m2 d2) 34 2 (cj++keepL u x).length ((cj++keepL u x).map encP).flatten]) ?_ (fun fr C54 L54 μ hle54 hI=>?_)
   ·refine G.cd (fun h54=>?_) fun h54=>?_
    ·have hyes:0<=u:=by rw [sgn_ge] at h54;exact of_decide_eq_true h54
     have hkp:keepL u x=[x]:=if_pos hyes
     refine G.rp 1 fun R hR=>?_
     refine D.aa (bkT hb11 2) ?_
     refine D.ah [encP x] (fun p57 C57 hle57 hs57=>?_)
     refine D.aS (j:=0) rfl rfl rfl rfl rfl rfl rfl rfl rfl rfl rfl (hs57.mono mup) rfl (by simp only [List.length_singleton,maxLen];omega) (by show (cj.length+1)*32<=_;omega) fl_ (fun A58 n58 c58=>?_)
     refine D.q13 1 3 5 7 8 9 11 12 13 14 18 29 30 31 hR ?_;clear hR R
     refine G.aY (L':=[.arr (.slice A58 n58 c58) 34 2 (cj++keepL u x).length ((cj++keepL u x).map encP).flatten]) (by rw [hkp];simp) ?_
     refine G.aw 0 mup (h_13 3 5 7 8 9 11 12 13 14 18 29 30 31) ⟨A58,n58,c58,trivial,rfl,rfl⟩
    ·have hno:¬ 0<=u:=by rw [sgn_ge] at h54;exact of_decide_eq_false h54
     have hkp:keepL u x=[]:=if_neg hno
     refine G.aY (L':=[.arr (.slice B m d) 34 2 (cj++keepL u x).length ((cj++keepL u x).map encP).flatten]) (by rw [hkp];simp) ?_
     refine G.aw 0 mup (h_13 3 5 7 8 9 11 12 13 14 18 29 30 31) ⟨B,m,d,trivial,rfl,rfl⟩
   ·obtain ⟨B2 ,m2 ,d2,_,rfl,rfl⟩:=hI
    refine G.rp 1 fun R hR=>?_
    refine D.ai (rsign_fn _ u om_) rfl rfl rfl rfl rfl rfl rfl fl_ ?_
    refine D.ac ?_
    refine D.ai (rsign_fn _ v om_) rfl rfl rfl rfl rfl rfl rfl fl_ ?_
    refine D.am _ ?_
    refine D.q14 1 3 5 7 8 9 11 12 13 14 18 29 30 31 64 hR ?_;clear hR R
    refine G.cd (fun h64=>?_) fun h64=>?_
    ·have hop:oppB u v=true:=h64
     have htw1:=htw hop
     have hct:cutL u v x y=[towQ x y (u / (u-v))]:=if_pos hop
     refine G.rp 3 fun R hR=>?_
     refine D.ai (bR _ (hT.mono mup) u v (2*szK k+11) om_ om_ qu qv) rfl rfl rfl rfl rfl rfl rfl fl_ ?_
     refine D.ai (rdiv_fn _ (hT.mono mup) u (u-v) (2*szK k+11+(2*szK k+11)+1) om_ om_ (qu.le om_) (QB_sub qu qv) (opp_ne hop)) rfl rfl rfl rfl rfl rfl rfl fl_ ?_
     refine D.q12 5 3 5 7 8 9 11 12 15 18 29 30 31 hR ?_;clear hR R
     refine G.rp 1 fun R hR=>?_
     refine D.aa (bkT hb11 2) ?_
     refine D.aa (bkT hb12 2) ?_
     refine D.ac ?_
     refine D.ai (toward_fn _ (hT.mono mup) x y (u / (u-v)) (szK k) (6*szK k+34) hsp om_ om_ hx1 hy1 htw1.1) rfl rfl rfl rfl rfl rfl rfl fl_ ?_
     refine D.ah [encP (towQ x y (u / (u-v)))] (fun p78 C78 hle78 hs78=>?_)
     refine D.aS (j:=0) rfl rfl rfl rfl rfl rfl rfl rfl rfl rfl rfl (hs78.mono mup) rfl (by have:(keepL u x).length<=1:=(by unfold keepL;split <;> simp);simp only [List.length_singleton,List.length_append,maxLen];omega) (by have:(keepL u x).length<=1:=(by unfold keepL;split <;> simp);show ((cj++keepL u x).length+1)*32<=_;rw [List.length_append];omega) fl_ (fun A79 n79 c79=>?_)
     refine D.q9 1 3 5 7 8 9 18 29 30 31 hR ?_;clear hR R
     refine G.rg fun R hR=>?_
     refine D.am _ ?_
     refine D.q9 1 3 5 7 8 9 18 29 30 31 hR ?_;clear hR R
     refine G.aY (L':=[.arr (.slice A79 n79 c79) 34 2 (dL P Q lk (j+1)).length ((dL P Q lk (j+1)).map encP).flatten]) (by rw [hjs',hct];simp [Nat.add_assoc]) ?_
     refine G.ax (m':=lk.length-(j+1)) om_ mup (h_9 3 5 7 8 9 18 29 30 31) ⟨j+1,A79,n79,c79,by omega,rfl,rfl,rfl⟩
    ·have hct:cutL u v x y=[]:=if_neg (by show ¬ (oppB u v=true);intro h;have h2:oppB u v=false:=h64;rw [h] at h2;cases h2)
     refine G.rg fun R hR=>?_
     refine D.am _ ?_
     refine D.q9 1 3 5 7 8 9 18 29 30 31 hR ?_;clear hR R
     refine G.aY (L':=[.arr (.slice B2 m2 d2) 34 2 (dL P Q lk (j+1)).length ((dL P Q lk (j+1)).map encP).flatten]) (by rw [hjs',hct];simp []) ?_
     refine G.ax (m':=lk.length-(j+1)) om_ mup (h_9 3 5 7 8 9 18 29 30 31) ⟨j+1,B2,m2,d2,by omega,rfl,rfl,rfl⟩
  ·obtain rfl:j=lk.length:=by have:=of_decide_eq_false h32;omega
   refine G.freezeArr 0 ((dL P Q lk lk.length).map encP) rfl rfl (by intro r hr;obtain ⟨y,_,rfl⟩:=List.mem_map.1 hr;rfl) (by rw [List.length_map]) (fun Cf hf hsd=>?_)
   refine G.z3 2 3 5 18 ?_
   refine G.rg fun R hR=>?_
   refine D.am _ ?_
   refine D.q3 1 3 5 18 hR ?_;clear hR R
   refine G.ax (m':=3-(k+1)) om_ mup (h_3 3 5 18) ⟨k+1,B,m,d,⟨by omega,by rw [hnext];exact hsd.mono mup,fun x hx=>by rw [hnext] at hx;exact clipJ_qb hP1 hQ1 hqp _ (Nat.le_refl _) x hx⟩,rfl,rfl,rfl⟩
 ·obtain rfl:k=3:=by have:=of_decide_eq_false h19;omega
  refine G.z1 2 4 ?_
  refine G.rf ?_
  exact ⟨rfl,hsl.mono mup⟩
end Go.Proofs.YtllimhhofkcgpaaGreatDoor
namespace Go.Jog
open Go

section
variable {cx:Cx} {n:Nat} {ds:List (Option Nat)} {R:Rg n ds} {its:List It} {fr:Fr} {C:Mem} {L:List Ent} {i k d:Nat} {o:Oper} {g:GL}
theorem D.indexArrS (vs:List Value){t e len:Nat}{x y:Operand}{ki:IntKind}{m:Int}{cs:List Value}{ti te:TI}(hk:Nat.ble k 1=true)(hd:o.dst=some d)(hop:o.op=.index t x y)
  (hg:gOf ds fr o.guard=some g) (hx:ev fr g x=some (.agg ⟨cs⟩)) (hy:ev fr g y=some (.int ki m)) (ht:cx.T.get t=some ti) (hte:ti.k=.arr len e) (he:cx.T.get e=some te) (hag:te.agg=true)
  (h0:GT ds fr g->0<=m/\m<len/\(cs.drop (m.toNat*te.size)).take te.size=vs) (hp:aG n ds ((d,g,.agg ⟨vs⟩)::fr) d=true) (hwf:wfG ds fr g=true)
  (h:D cx R its ((d,g,.agg ⟨vs⟩)::fr) C L):D cx R ((i,k,o)::its) fr C L:=by
 have hu:cx.P.underlying t=some (.array len e):=by
  obtain ⟨kk,s1,b1,z1,g1⟩:=ti
  simp only at hte
  subst hte
  exact und_arr cx.hT ht
 refine D.run _ hk hd hg (fun hG a hs w=>?_) hp hwf h
 obtain ⟨h1,h2,h3⟩:=h0 hG
 have e1:execOp a.eval o=(do Pure.pure (.value (<- Instr.index t (a.eval x) (a.eval y))):Sem Next):=by unfold execOp;rw [hop]
 rw [e1,hs _ _ hx,hs _ _ hy]
 have hpart:(part e ⟨cs⟩ (m.toNat*te.size)).run cx.P w=.ok (.agg ⟨vs⟩) w:=by
  unfold part
  simp only [Sem.run_bind]
  rw [is_agg cx.hT he w]
  simp only [Result.andThen_ok,hag,if_true,Sem.run_bind,cF cx.hT he w,Sem.run_pure,List.extract_toArray,List.extract_eq_take_drop,Nat.add_sub_cancel_left]
  rw [h3]
 simp [Instr.index,asIntOf,run_underlying hu,h1,h2,cF cx.hT he w,hpart]
end
end Go.Jog
namespace Go.Proofs.YtllimhhofkcgpaaGreatDoor
open Go Go.Jog
set_option maxRecDepth 100000

def memB (p:Pt)(l:List Pt):Bool:=decide (p∈l)
def shF (p0 p1 p2 q0 q1 q2:Pt)(k:Nat):List Pt:=([p0,p1,p2].take k).filter fun p=>memB p [q0,q1,q2]
def crossB (p0 p1 p2 q0 q1 q2:Pt):Bool:=if (shF p0 p1 p2 q0 q1 q2 3).length=3 then true else (eH [p0,p1,p2] q0 q1 q2 3).any fun p=>!memB p (shF p0 p1 p2 q0 q1 q2 3)
theorem shF_succ {p0 p1 p2 q0 q1 q2:Pt}{k:Nat}(hk:k<3):shF p0 p1 p2 q0 q1 q2 (k+1)=shF p0 p1 p2 q0 q1 q2 k++(if memB (tri3 p0 p1 p2 k) [q0,q1,q2] then [tri3 p0 p1 p2 k] else []):=by
 unfold shF
 have h:[p0,p1,p2].take (k+1)=[p0,p1,p2].take k++[tri3 p0 p1 p2 k]:=by
  rcases (by omega:k=0∨k=1∨k=2) with rfl | rfl | rfl <;> rfl
 rw [h,List.filter_append]
 congr 1
 rw [List.filter_cons];rfl
theorem shF_len (p0 p1 p2 q0 q1 q2:Pt)(k:Nat):(shF p0 p1 p2 q0 q1 q2 k).length<=3:=by
 unfold shF
 refine Nat.le_trans (List.length_filter_le _ _) ?_
 rw [List.length_take];exact Nat.min_le_right _ _
theorem tri3_part {p0 p1 p2:Pt}{j:Nat}(hj:j<3):((encP p0++encP p1++encP p2).drop (((j:Nat):Int).toNat*2)).take 2=encP (tri3 p0 p1 p2 j):=by
 rcases (by omega:j=0∨j=1∨j=2) with rfl | rfl | rfl <;> rfl
theorem crossing_fn (C:Mem)(hT:Tabs C)(v1 v2:Value)(pts:List Pt)(tris:List Tri)(i k:Nat)(ti tk:Tri)(p0 p1 p2 q0 q1 q2:Pt)(h1:Sl C 2 v1 (pts.map encP))(h2:Sl C 3 v2 (tris.map encT))(hti:tris[i]?=some ti)(htk:tris[k]?=some tk)
  (e0:pts[ti.1]?=some p0) (e1:pts[ti.2.1]?=some p1) (e2:pts[ti.2.2]?=some p2) (g0:pts[tk.1]?=some q0) (g1:pts[tk.2.1]?=some q1) (g2:pts[tk.2.2]?=some q2) (hq:∀ p∈pts,QP 1 p) :
  Gives cx.P 52 [.agg ⟨[v1,v2]⟩,.int .i64 i,.int .i64 k] C (.bool (crossB p0 p1 p2 q0 q1 q2)):=by
 have hp0:=hq _ (List.mem_of_getElem? e0)
 have hp1:=hq _ (List.mem_of_getElem? e1)
 have hp2:=hq _ (List.mem_of_getElem? e2)
 have hq0:=hq _ (List.mem_of_getElem? g0)
 have hq1:=hq _ (List.mem_of_getElem? g1)
 have hq2:=hq _ (List.mem_of_getElem? g2)
 have hmx:maxLen<=9223372036854775807:=by simp [maxLen]
 refine Fn.it kr_ Tryz.func52 50 fun w0=>?_
 refine G.rg fun R hR=>?_
 refine D.aB (fun b3=>?_)
 refine D.q3 1 1 2 3 hR ?_;clear hR R
 refine G.freeze 0 rfl (fun C3 hle3 hb3=>?_)
 refine G.cX (.cut [0,1,2,3,4,5] (.alt 6 (.fin [7,8,9]) (.alt 7 (.fin [6,8,9]) .stop))) [(2,1),(5,1),(0,0),(3,0)] rfl rfl kr_ (fun R hB hR hH=>?_)
 refine G.share2 hR (fun b7 b8=>[(7,[],.pointer (some ⟨b7,0,none⟩)),(8,[],.pointer (some ⟨b8,0,none⟩))]) (fun b7 b8=>[.obj b7 (.cells ⟨encP p0++encP p1++encP p2⟩ 176 (0,0)),.obj b8 (.cells ⟨encP q0++encP q1++encP q2⟩ 176 (0,0))]) (fun hc=>?_) (fun b7 b8=>?_)
 ·refine D.loadB (fun _=>((bkT hb3 2).mono hB)) rfl rfl rfl rfl rfl rfl rfl rfl rfl ?_
  refine D.ac ?_
  refine D.aW (fun _=>(corners_fn _ v1 v2 pts tris i ti p0 p1 p2 (h1.mono mup) (h2.mono mup) hti e0 e1 e2)) ?_
  refine D.loadB (fun _=>((bkT hb3 2).mono hB)) rfl rfl rfl rfl rfl rfl rfl rfl rfl ?_
  refine D.ac ?_
  refine D.aW (fun _=>(corners_fn _ v1 v2 pts tris k tk q0 q1 q2 (h1.mono mup) (h2.mono mup) htk g0 g1 g2)) ?_
  refine D.bJ hH rfl ⟨?_, ?_,trivial⟩
  ·refine D.aj (fun b7=>?_)
   refine D.aj (fun b8=>?_)
   refine D.ag (j:=1) ?_
   refine D.ag (j:=1) ?_
   exact D.done [(7,[],_),(8,[],_)] ⟨rfl,rfl,trivial⟩ (hR _ _ _ rfl (G.perm _ ((aN (j:=1) rfl).trans (List.Perm.cons _ (List.Perm.refl _))) (hc b7 b8)))
  ·refine D.aj (fun b8=>?_)
   refine D.aj (fun b7=>?_)
   refine D.ag (j:=0) ?_
   refine D.ag (j:=1) ?_
   exact D.done [(7,[],_),(8,[],_)] ⟨rfl,rfl,trivial⟩ (hR _ _ _ rfl (G.perm _ ((aN (j:=1) rfl).trans (List.Perm.cons _ (List.Perm.refl _))) (hc b7 b8)))
 clear hR hH hB R
 refine G.freeze 0 rfl (fun C7 hle7 hb7=>?_)
 refine G.freeze 0 rfl (fun C8 hle8 hb8=>?_)
 have hs8:Sl C8 2 (.slice (some ⟨b8,0,none⟩) 3 3) ([q0,q1,q2].map encP):=Sl.ofBlock (rows:=[q0,q1,q2].map encP) (c:=3) (Mem.get hb8 mup) (by intro r hr;obtain ⟨y,_,rfl⟩:=List.mem_map.1 hr;rfl) (fun j v hj=>by simpa using hj) (Nat.le_refl _) (by decide)
 refine G.rg fun R hR=>?_
 refine D.aa (bkT hb7 6) ?_
 refine D.aa (bkT hb8 6) ?_
 refine D.aX (clip_fn _ (hT.mono mup) p0 p1 p2 q0 q1 q2 hp0 hp1 hp2 hq0 hq1 hq2) (fun v23 C23 hle23 hq23=>?_)
 obtain ⟨cl,hcl⟩:∃ cl,eH [p0,p1,p2] q0 q1 q2 3=cl:=⟨_,rfl⟩
 have hcll:=clipK_len (l:=[p0,p1,p2]) rfl q0 q1 q2 3 (Nat.le_refl _)
 rw [hcl] at hq23 hcll
 obtain ⟨Ac,cc,rfl,_⟩:=id hq23
 simp only [List.length_map] at hq23 ⊢
 refine D.q3 1 7 8 9 hR ?_;clear hR R
 refine G.z4 1 7 8 9 10 ?_
 refine G.rg fun R hR=>?_
 refine D.aa (bkT hb7 6) ?_
 refine D.q5 1 8 9 10 24 25 hR ?_;clear hR R
 refine G.nilArr 34 2 ?_
 refine G.loop (fun fr C' L' μ=>∃ (j:Nat)(B:Option Addr)(m d:Nat),(j<=3)/\fr=[(8,[],.pointer (some ⟨b8,0,none⟩)),(9,[],.slice Ac cl.length cc),(10,[],.slice B m d),(24,[],cornV p0 p1 p2),(25,[],.int .i64 j)]/\L'=[.arr (.slice B m d) 34 2 (shF p0 p1 p2 q0 q1 q2 j).length ((shF p0 p1 p2 q0 q1 q2 j).map encP).flatten]/\μ=3-j) (h_5 8 9 10 24 25) ⟨0,none,0,0,by omega,rfl,rfl,rfl⟩ (fun fr C0' L0' m hle0 hI=>?_)
 obtain ⟨j,B,m,d,hj,rfl,rfl,rfl⟩:=hI
 refine G.z6 1 8 9 10 24 25 26 ?_
 refine G.cd (fun h26=>?_) fun h26=>?_
 ·have hj3:j<3:=by have:=of_decide_eq_true h26;omega
  have hsl:=shF_len p0 p1 p2 q0 q1 q2 j
  have hss:=shF_succ (p0:=p0) (p1:=p1) (p2:=p2) (q0:=q0) (q1:=q1) (q2:=q2) hj3
  refine G.rg fun R hR=>?_
  refine D.indexArrS (encP (tri3 p0 p1 p2 j)) rfl rfl rfl rfl rfl rfl rfl rfl rfl rfl (fun _=>⟨by omega,by omega,tri3_part hj3⟩) rfl rfl ?_
  refine D.aj (fun b12=>?_)
  refine D.ag (j:=0) ?_
  refine D.e6 8 9 10 12 24 25 hR ?_;clear hR R
  refine G.freeze 0 rfl (fun C12 hle12 hb12=>?_)
  refine G.aH [0,1,2] [(2,1)] rfl kr_ (fun R hB hR=>?_)
  refine D.sliceA 0 3 3 rfl rfl rfl rfl rfl rfl rfl rfl rfl rfl rfl rfl (fun _=>⟨.inl ⟨rfl,rfl⟩,.inl ⟨rfl,rfl⟩,.inl ⟨rfl,rfl⟩,by omega,by omega,Nat.le_refl _⟩) rfl rfl ?_
  refine D.aa (bkT hb12 2) ?_
  refine D.aW (fun _=>(contains_pts _ _ [q0,q1,q2] (tri3 p0 p1 p2 j) (hs8.mono mup))) ?_
  refine D.e7 8 9 10 12 24 25 30 hR ?_;clear hR hB R
  refine G.cd (fun h30=>?_) fun h30=>?_
  ·have hyes:memB (tri3 p0 p1 p2 j) [q0,q1,q2]=true:=h30
   rw [if_pos hyes] at hss
   refine G.rp 1 fun R hR=>?_
   refine D.aa (bkT hb12 2) ?_
   refine D.ah [encP (tri3 p0 p1 p2 j)] (fun p33 C33 hle33 hs33=>?_)
   refine D.aS (j:=0) rfl rfl rfl rfl rfl rfl rfl rfl rfl rfl rfl (hs33.mono mup) rfl (by simp only [List.length_singleton,maxLen];omega) (by show ((shF p0 p1 p2 q0 q1 q2 j).length+1)*32<=_;omega) fl_ (fun A34 n34 c34=>?_)
   refine D.q5 1 8 9 10 24 25 hR ?_;clear hR R
   refine G.rg fun R hR=>?_
   refine D.am _ ?_
   refine D.q5 1 8 9 10 24 25 hR ?_;clear hR R
   refine G.aY (L':=[.arr (.slice A34 n34 c34) 34 2 (shF p0 p1 p2 q0 q1 q2 (j+1)).length ((shF p0 p1 p2 q0 q1 q2 (j+1)).map encP).flatten]) (by rw [hss];simp) ?_
   refine G.ax (m':=3-(j+1)) om_ mup (h_5 8 9 10 24 25) ⟨j+1,A34,n34,c34,by omega,rfl,rfl,rfl⟩
  ·have hno:¬ memB (tri3 p0 p1 p2 j) [q0,q1,q2]=true:=by intro h;have h2:memB (tri3 p0 p1 p2 j) [q0,q1,q2]=false:=h30;rw [h] at h2;cases h2
   rw [if_neg hno,List.append_nil] at hss
   refine G.rg fun R hR=>?_
   refine D.am _ ?_
   refine D.q5 1 8 9 10 24 25 hR ?_;clear hR R
   rw [<- hss]
   refine G.ax (m':=3-(j+1)) om_ mup (h_5 8 9 10 24 25) ⟨j+1,B,m,d,by omega,rfl,rfl,rfl⟩
 ·obtain rfl:j=3:=by have:=of_decide_eq_false h26;omega
  obtain ⟨sh,hsh⟩:∃ sh,shF p0 p1 p2 q0 q1 q2 3=sh:=⟨_,rfl⟩
  have hshl:=shF_len p0 p1 p2 q0 q1 q2 3
  rw [hsh] at hshl ⊢
  have hcr:crossB p0 p1 p2 q0 q1 q2=if sh.length=3 then true else cl.any fun p=>!memB p sh:=by unfold crossB;rw [hsh,hcl]
  refine G.freezeArr 0 (sh.map encP) rfl rfl (by intro r hr;obtain ⟨y,_,rfl⟩:=List.mem_map.1 hr;rfl) (by rw [List.length_map]) (fun Cs hls hsS=>?_)
  obtain ⟨_,_,hse,_⟩:=id hsS
  cases hse
  simp only [List.length_map] at hsS ⊢
  refine G.z3 3 9 10 38 ?_
  refine G.cd (fun h38=>?_) fun h38=>?_
  ·have h3:sh.length=3:=by have h:=h38;simp at h;omega
   refine G.z1 1 6 ?_
   refine G.rf ?_
   exact ⟨by rw [hcr,if_pos h3],rfl⟩
  ·have h3:¬ sh.length=3:=by intro h;have h2:((sh.length:Int) == 3)=false:=h38;rw [h] at h2;cases h2
   refine G.z4 3 10 39 40 41 ?_
   refine G.loop (fun fr C' L' μ=>∃ (t:Nat),(t<=cl.length/\∀ p∈cl.take t,memB p sh=true)/\fr=[(10,[],.slice B sh.length d),(39,[],.slice Ac cl.length cc),(40,[],.int .i64 cl.length),(41,[],.int .i64 t)]/\L'=[]/\μ=cl.length-t) (h_4 10 39 40 41) ⟨0,⟨Nat.zero_le _,by simp⟩,rfl,rfl,rfl⟩ (fun fr C1' L1' m hle1 hI=>?_)
   obtain ⟨t,⟨ht,hall⟩,rfl,rfl,rfl⟩:=hI
   refine G.z5 1 10 39 40 41 42 ?_
   refine G.cd (fun h42=>?_) fun h42=>?_
   ·have htl:t<cl.length:=by have:=of_decide_eq_true h42;omega
    obtain ⟨p,hp⟩:∃ p,cl[t]?=some p:=⟨_,List.getElem?_eq_getElem htl⟩
    refine G.rg fun R hR=>?_
    refine D.al (hq23.mono mup) rfl rfl rfl rfl rfl rfl rfl rfl rfl rfl om_ (by rw [Int.toNat_natCast];exact bt hp) fl_ (fun p43 hp43=>?_)
    refine D.aa hp43 ?_
    refine D.aj (fun b14=>?_)
    refine D.ag (j:=0) ?_
    refine D.e5 10 14 39 40 41 hR ?_;clear hR R
    refine G.freeze 0 rfl (fun C14 hle14 hb14=>?_)
    refine G.rp 1 fun R hR=>?_
    refine D.aa (bkT hb14 2) ?_
    refine D.af (contains_pts _ _ sh p (hsS.mono mup)) ?_
    refine D.q5 1 10 39 40 41 48 hR ?_;clear hR R
    refine G.cd (fun h48=>?_) fun h48=>?_
    ·have hno:memB p sh=false:=by have h:(!memB p sh)=true:=h48;simpa using h
     refine G.z1 1 6 ?_
     refine G.rf ?_
     exact ⟨by rw [hcr,if_neg h3,List.any_eq_true.2 ⟨p,List.mem_of_getElem? hp,by rw [hno];rfl⟩],rfl⟩
    ·have hyes:memB p sh=true:=by have h:(!memB p sh)=false:=h48;simpa using h
     refine G.rg fun R hR=>?_
     refine D.am _ ?_
     refine D.q4 1 10 39 40 41 hR ?_;clear hR R
     refine G.ax (m':=cl.length-(t+1)) om_ mup (h_4 10 39 40 41) ⟨t+1,⟨by omega,fun x hx=>by
      rw [List.take_add_one,hp] at hx
      rcases List.mem_append.1 hx with hx | hx
      ·exact hall x hx
      ·simp only [Option.toList_some,List.mem_singleton] at hx
       subst hx
       exact hyes⟩,rfl,rfl,rfl⟩
   ·obtain rfl:t=cl.length:=by have:=of_decide_eq_false h42;omega
    rw [List.take_length] at hall
    refine G.z1 1 6 ?_
    refine G.rf ?_
    exact ⟨by rw [hcr,if_neg h3,show (cl.any fun p=>!memB p sh)=false from List.any_eq_false.2 fun x hx=>by rw [hall x hx];decide],rfl⟩

def brokB (pts:List Pt)(tris:List Tri):Bool:=decide (tris=[]) || !wholeB pts tris
theorem brok0:∀ i<15,∀ j<15,∀ h:Bool,brokB (ptsZ 0 ((i:Nat)-7) ((j:Nat)-7) h) ((shT 0).drop 1)=true:=by decide +kernel
theorem brok1:∀ i<15,∀ j<15,∀ h:Bool,brokB (ptsZ 1 ((i:Nat)-7) ((j:Nat)-7) h) ((shT 1).drop 1)=true:=by decide +kernel
theorem brok2:∀ i<15,∀ j<15,∀ h:Bool,brokB (ptsZ 2 ((i:Nat)-7) ((j:Nat)-7) h) ((shT 2).drop 1)=true:=by decide +kernel
theorem brok3:∀ i<15,∀ j<15,∀ h:Bool,brokB (ptsZ 3 ((i:Nat)-7) ((j:Nat)-7) h) ((shT 3).drop 1)=true:=by decide +kernel
theorem brok4:∀ i<15,∀ j<15,∀ h:Bool,brokB (ptsZ 4 ((i:Nat)-7) ((j:Nat)-7) h) ((shT 4).drop 1)=true:=by decide +kernel
theorem brok5:∀ i<15,∀ j<15,∀ h:Bool,brokB (ptsZ 5 ((i:Nat)-7) ((j:Nat)-7) h) ((shT 5).drop 1)=true:=by decide +kernel
theorem brok6:∀ i<15,∀ j<15,∀ h:Bool,brokB (ptsZ 6 ((i:Nat)-7) ((j:Nat)-7) h) ((shT 6).drop 1)=true:=by decide +kernel
theorem brok7:∀ i<15,∀ j<15,∀ h:Bool,brokB (ptsZ 7 ((i:Nat)-7) ((j:Nat)-7) h) ((shT 7).drop 1)=true:=by decide +kernel
theorem shape_brok (m:Nat)(hm:m<8)(a b:Int)(h:Bool):brokB (ptsK m a b h) ((shT m).drop 1)=true:=by
 obtain ⟨i,hi,hie⟩:=tmod8_nat a
 obtain ⟨j,hj,hje⟩:=tmod8_nat b
 rw [ptsK_Z,hie,hje]
 rcases (by omega:m=0∨m=1∨m=2∨m=3∨m=4∨m=5∨m=6∨m=7) with rfl | rfl | rfl | rfl | rfl | rfl | rfl | rfl
 ·exact brok0 i hi j hj h
 ·exact brok1 i hi j hj h
 ·exact brok2 i hi j hj h
 ·exact brok3 i hi j hj h
 ·exact brok4 i hi j hj h
 ·exact brok5 i hi j hj h
 ·exact brok6 i hi j hj h
 ·exact brok7 i hi j hj h
theorem meshOk_drop {pts:List Pt}{tris:List Tri}(h:MeshOk pts tris):MeshOk pts (tris.drop 1):=by
 cases tris with
 | nil=>exact h
 | cons t ts =>
  have h1:=h.sides
  have h2:=h.lt
  unfold bC at h1
  rw [List.flatMap_cons] at h1
  rw [List.length_cons] at h2
  exact ⟨h.q,h.nd,fun x hx=>h.ins x (.tail _ hx),fun x hx=>h.pos x (.tail _ hx),(List.nodup_append.1 h1).2.1,by show ts.length<=800;omega,h.lp⟩
theorem tri_at {tris:List Tri}{i:Nat}(h:i<tris.length):tris[i]?=some (tris.getD i (0,0,0)):=by
 rw [List.getD_eq_getElem?_getD,List.getElem?_eq_getElem h];rfl
def crossX (pts:List Pt)(tris:List Tri)(i k:Nat):Bool :=
 crossB (pts.getD (tris.getD i (0,0,0)).1 (0,0)) (pts.getD (tris.getD i (0,0,0)).2.1 (0,0)) (pts.getD (tris.getD i (0,0,0)).2.2 (0,0)) (pts.getD (tris.getD k (0,0,0)).1 (0,0)) (pts.getD (tris.getD k (0,0,0)).2.1 (0,0)) (pts.getD (tris.getD k (0,0,0)).2.2 (0,0))
theorem cut_check (C:Mem)(hT:Tabs C)(v1 v2:Value)(pts:List Pt)(tris:List Tri)(h1:Sl C 2 v1 (pts.map encP))(h2:Sl C 3 v2 (tris.map encT))(hM:MeshOk pts tris) :
  Gives cx.P 23 [.agg ⟨[v1,v2]⟩] C (.int .i64 (meshZ pts tris (crossX pts tris))):=by
 refine mcheck_fn C hT v1 v2 pts tris _ h1 h2 hM (fun _ _ D hD i k hi hk=>?_)
 have hti:=tri_at hi
 have htk:=tri_at (show k<tris.length by omega)
 have a:=hM.ins _ (List.mem_of_getElem? hti)
 have b:=hM.ins _ (List.mem_of_getElem? htk)
 exact crossing_fn D (hT.mono hD) v1 v2 pts tris i k _ _ _ _ _ _ _ _ (h1.mono hD) (h2.mono hD) hti htk (pt_at a.1) (pt_at a.2.1) (pt_at a.2.2) (pt_at b.1) (pt_at b.2.1) (pt_at b.2.2) hM.q
theorem brok_ne {pts:List Pt}{tris:List Tri}{X:Nat->Nat->Bool}(h:brokB pts tris=true):meshZ pts tris X≠0:=by
 unfold meshZ
 split
 ·decide
 ·rename_i hn
  unfold brokB at h
  rw [decide_eq_false hn,Bool.false_or,Bool.not_eq_true'] at h
  rw [if_neg (by rw [h];decide)]
  split <;> decide
def dX (B:Bk)(o:Obs)(k:Nat):Bk :=
 if k=0 then ⟨B.pts,B.tris,B.terr.drop 1,B.col,B.obs⟩ else if k=1 then ⟨B.pts,B.tris,B.terr,B.col++B.col.take 1,B.obs⟩ else if k=2 then ⟨B.pts,B.tris,B.terr,B.col,B.obs++[o]⟩ else if k=3 then ⟨B.pts,B.tris.drop 1,B.terr,B.col,B.obs⟩ else B
theorem bookX_small (S:Sht)(H:Hts)(l:List Sgt)(o:Obs)(k:Nat):(dX (a7 S H l) o k).col≠[]/\(dX (a7 S H l) o k).col.length<=4/\(dX (a7 S H l) o k).pts.length<=6:=by
 have hb:=(bookK_bp S H l).2
 have h1:(a7 S H l).col≠[]/\(a7 S H l).col.length<=4:=by show colK≠[]/\colK.length<=4;decide
 unfold dX
 split
 ·exact ⟨h1.1,h1.2,hb⟩
 ·split
  ·exact ⟨by show colK++colK.take 1≠[];decide,by show (colK++colK.take 1).length<=4;decide,hb⟩
  ·split
   ·exact ⟨h1.1,h1.2,hb⟩
   ·split
    ·exact ⟨h1.1,h1.2,hb⟩
    ·exact ⟨h1.1,h1.2,hb⟩
theorem bookX_z (C:Mem)(hT:Tabs C)(bv:Value)(S:Sht)(H:Hts)(l:List Sgt)(hs:∀ s∈l,SgtR s)(o:Obs)(ho:ObsR o)(k:Nat)(hB:BookIn C bv (dX (a7 S H l) o k)):∃ z,BookZ C bv (dX (a7 S H l) o k) z:=by
 obtain ⟨c1,c2,c3⟩:=bookX_small S H l o k
 have hG:=(shape_good (S.kd % 8) (Nat.mod_lt _ (by decide)) S.a S.b S.h).1
 have hR:=bookK_r S H l hs
 have hgo:Good (dX (a7 S H l) o k).pts (dX (a7 S H l) o k).tris->BookR (dX (a7 S H l) o k)->∃ z,BookZ C bv (dX (a7 S H l) o k) z:=fun g r =>
  ⟨_,hB,fun D hD=>checkAll_fn D (hT.mono hD) bv _ (hB.mono hD) g r,fun _=>c1,by omega,by omega⟩
 revert hB hgo c1 c2 c3
 unfold dX
 split
 ·intro hB c1 c2 c3 hgo
  exact hgo hG ⟨fun s h=>hR.terr s (List.mem_of_mem_drop h),hR.col,hR.lcol,hR.obs⟩
 ·split
  ·intro hB c1 c2 c3 hgo
   exact hgo hG ⟨hR.terr,fun x h=>(List.mem_append.1 h).elim (hR.col x) fun h=>hR.col x (List.mem_of_mem_take h),by omega,hR.obs⟩
  ·split
   ·intro hB c1 c2 c3 hgo
    exact hgo hG ⟨hR.terr,hR.col,hR.lcol,fun x h=>(List.mem_append.1 h).elim (hR.obs x) fun h=>by rw [List.mem_singleton] at h;rw [h];exact ho⟩
   ·split
    ·intro hB c1 c2 c3 hgo
     obtain ⟨v1,v2,tv,cv,ov,hbv,h1,h2,h3,h4,h5⟩:=id hB.ex
     have hz:=brok_ne (X:=crossX (ptsK (S.kd % 8) S.a S.b S.h) ((shT (S.kd % 8)).drop 1)) (shape_brok (S.kd % 8) (Nat.mod_lt _ (by decide)) S.a S.b S.h)
     exact ⟨_,hB,fun D hD=>checkAll_bad D bv v1 v2 tv cv ov _ hbv hz fun E hE=>cut_check E (hT.mono (Mem.le.trans hD hE)) v1 v2 _ _ (h1.mono (Mem.le.trans hD hE)) (h2.mono (Mem.le.trans hD hE)) (meshOk_drop hG.ok),fun _=>c1,by omega,by omega⟩
    ·intro hB c1 c2 c3 hgo
     exact hgo hG hR

theorem small60 (S:Sht)(H:Hts)(l:List Sgt)(o:Obs)(k:Nat):bs (dX (a7 S H l) o k)*bp (dX (a7 S H l) o k)<=60:=by
 obtain ⟨_,c2,c3⟩:=bookX_small S H l o k
 have:bs (dX (a7 S H l) o k)*bp (dX (a7 S H l) o k)<=3*6:=Nat.mul_le_mul (by unfold bs;omega) (by unfold bp;omega)
 omega
theorem ofE_z {z:Int}{s p:Nat}(h:s*p<=60):ofE z s p=z:=by
 unfold ofE
 split
 ·rfl
 ·rename_i hz
  rw [if_neg om_]
  exact (Decidable.not_not.1 hz).symm
theorem count_z (C:Mem)(bv:Value)(B:Bk)(z:Int)(hZ:BookZ C bv B z)(h:bs B*bp B<=60):Gives cx.P 8 [bv] C (.tuple #[.int .i64 (if z=0 then ((bs B*bp B:Nat):Int) else 0),.int .i64 z]):=by
 have h2:=count_fn C bv B z hZ
 rw [ofE_z h] at h2
 exact h2
theorem col_row (S:Sht)(H:Hts)(l:List Sgt):((a7 S H l).col.map encL)[0]?=some (encL ⟨[65],0,none⟩):=rfl
theorem errors_fn (C:Mem)(hT:Tabs C)(pv:Value)(S:Sht)(H:Hts)(l:List Sgt)(how:Nat)(o:Obs)(_hh:how<256)(hP:PlanIn C pv S H l)(hPl:PlanR S H l)(ho:ObsR o) :
  Gives cx.P 3 [pv,.int .u8 how,.agg ⟨encO o⟩] C (.bool true):=by
 obtain ⟨A,c,rfl,hsv⟩:=hP
 have hG:=(shape_good (S.kd % 8) (Nat.mod_lt _ (by decide)) S.a S.b S.h).1
 have hol:(a7 S H l).obs.length<=6:=by
  show (obsL S l).length<=6
  rw [obsL_len];omega
 have hmx:maxLen<=9223372036854775807:=by simp [maxLen]
 have hmx2:1000<=maxLen:=by simp [maxLen]
 have h60:=small60 S H l o (how % 5)
 obtain ⟨c1,c2,c3⟩:=bookX_small S H l o (how % 5)
 have hall:(((a7 S H l).obs.map encO).all fun r=>r.all oneB)=true:=by rw [List.all_map];exact List.all_eq_true.2 fun x _=>rfl
 have hk5:how % 5<5:=Nat.mod_lt _ (by decide)
 refine Fn.it kr_ Tryz.func3 235 fun w0=>?_
 refine G.rg fun R hR=>?_
 refine D.aB (fun b3=>?_)
 refine D.aB (fun b5=>?_)
 refine D.q3 1 1 3 5 hR ?_;clear hR R
 refine G.freeze 1 rfl (fun C1 hle1 hb1=>?_)
 refine G.freeze 0 rfl (fun C2 hle2 hb2=>?_)
 refine G.rg fun R hR=>?_
 refine D.af (known_fn _ (hT.mono mup)) ?_
 refine D.ps 3 ?_
 refine D.aU rfl rfl rfl rfl rfl rfl (fun _=>PtrTo.blockT (Mem.get hb1 mup) _ 1) rfl rfl rfl ?_
 refine D.ps 2 ?_
 refine D.aF rfl rfl rfl rfl rfl rfl rfl rfl ?_
 refine D.e4 1 3 5 37 hR ?_;clear hR R
 refine G.cd (fun h37=>?_) fun h37=>?_
 ·refine G.rg fun R hR=>?_
  refine D.af (known_fn _ (hT.mono mup)) ?_
  refine D.q1 1 6 hR ?_;clear hR R
  refine G.rf ?_
  exact ⟨rfl,rfl⟩
 ·refine G.rg fun R hR=>?_
  refine D.aa (bkT hb1 12) ?_
  refine D.aX (make24_fn _ (hT.mono mup) S H _ l hPl.kd hPl.h (hsv.mono mup) hPl.s hG) (fun v40 C40 hle40 hq40=>?_)
  obtain ⟨v1,v2,tv,cv,ov,rfl,g1,g2,g3,g4,g5⟩:=id hq40.ex
  obtain ⟨B1,d1,rfl,_⟩:=id g1
  obtain ⟨B2,d2,rfl,hc2,hm2,_⟩:=id g2
  obtain ⟨B3,d3,rfl,hc3,hm3,_⟩:=id g3
  obtain ⟨B4,d4,rfl,hc4,hm4,_⟩:=id g4
  obtain ⟨B5,d5,rfl,_⟩:=id g5
  simp only [List.length_map] at g1 g2 g3 g4 g5 hc2 hc3 hc4 ⊢
  refine D.aj (fun b7=>?_)
  refine D.ag (j:=0) ?_
  refine D.e3 1 5 7 hR ?_;clear hR R
  refine G.rp 1 fun R hR=>?_
  refine D.df (how) (5) rfl rfl rfl rfl rfl rfl om_ rfl rfl ?_
  refine D.e3 5 7 42 hR ?_;clear hR R
  refine G.z4 2 5 7 42 43 ?_
  refine G.cut (fun fr C' L' μ=>∃ (w1 w2 w3 w4 w5:Value),(BookIn C' (.agg ⟨[w1,w2,w3,w4,w5]⟩) (dX (a7 S H l) o (how % 5)))/\fr=[(7,[],.pointer (some ⟨b7,0,none⟩))]/\L'=[.obj b7 (.cells ⟨[w1,w2,w3,w4,w5]⟩ 49 (0,0))]) ?_ (fun fr C43 L43 μ hle43 hI=>?_)
  ·refine G.cd (fun h43=>?_) fun h43=>?_
   ·have hk:how % 5=0:=by have:=bA h43;omega
    have ht1:1<=(a7 S H l).terr.length:=by
     have h1:(a7 S H l).terr.length=(a7 S H l).pts.length:=by
      show ((fsK _ H).map qtx).length=_
      rw [List.length_map,fsK_len];rfl
     have h2:0<(a7 S H l).pts.length:=(bookK_bp S H l).1
     omega
    refine G.rp 1 fun R hR=>?_
    refine D.ae (.head _) ?_
    refine D.dr 1 (a7 S H l).terr.length d3 rfl rfl rfl rfl rfl rfl rfl rfl rfl rfl rfl rfl (fun _=>⟨.inr ⟨_,rfl⟩,.inl ⟨rfl,rfl⟩,.inl ⟨rfl,rfl⟩,by omega,by omega,by omega⟩) rfl rfl ?_
    refine D.ac ?_
    refine D.ag (j:=0) ?_
    refine D.e1 7 hR ?_;clear hR R
    have hsl:=Sl.sub g3 (l:=1) (h:=(a7 S H l).terr.length) (m:=d3) om_ (by rw [List.length_map];exact Nat.le_refl _) om_ om_
    rw [List.take_of_length_le (by rw [List.length_map];exact Nat.le_refl _),<- List.map_drop] at hsl
    refine G.aw 0 (Mem.le.refl _) (h_1 7) ⟨_,_,_,_,_,by unfold dX;rw [if_pos hk];exact ⟨_,_,_,_,_,rfl,g1.mono mup,g2.mono mup,hsl.mono mup,g4.mono mup,g5.mono mup⟩,rfl,rfl⟩
   ·have hk0:¬ how % 5=0:=by
     intro e
     rw [e] at h43
     exact absurd h43 (by decide)
    refine G.z4 2 5 7 42 49 ?_
    refine G.cd (fun h49=>?_) fun h49=>?_
    ·have hk:how % 5=1:=by have:=bA h49;omega
     refine G.cut (fun fr C' L' μ=>∃ (A:Option Addr)(n c:Nat),(True)/\fr=[(7,[],.pointer (some ⟨b7,0,none⟩))]/\L'=[.obj b7 (.cells ⟨[.slice B1 (a7 S H l).pts.length d1,.slice B2 (a7 S H l).tris.length d2,.slice B3 (a7 S H l).terr.length d3,.slice A n c,.slice B5 (a7 S H l).obs.length d5]⟩ 49 (0,0)),.arr (.slice A n c) 52 3 (((a7 S H l).col++(a7 S H l).col.take 1).map encL).length (((a7 S H l).col++(a7 S H l).col.take 1).map encL).flatten]) ?_ (fun fr Cr8 Lr8 μ hler8 hI=>?_)
     ·refine G.cX (.cut [1,2,4] (.alt 0 (.cut [] (.alt 3 (.fin [5,6,7,8,9,10,11]) (.alt 5 (.cut [6] (.alt 3 (.fin [7,8,9,10,11]) (.alt 7 (.cut [] (.alt 3 (.fin [8,9,10,11]) (.alt 8 (.fin [3,9,10,11]) .stop))) .stop))) .stop))) (.alt 5 (.cut [6] (.alt 0 (.cut [] (.alt 3 (.fin [7,8,9,10,11]) (.alt 7 (.cut [] (.alt 3 (.fin [8,9,10,11]) (.alt 8 (.fin [3,9,10,11]) .stop))) .stop))) (.alt 7 (.cut [] (.alt 0 (.cut [] (.alt 3 (.fin [8,9,10,11]) (.alt 8 (.fin [3,9,10,11]) .stop))) (.alt 8 (.fin [0,3,9,10,11]) .stop))) .stop))) .stop))) [] rfl rfl kr_ (fun R hB hR hH=>?_)
      refine D.ac ?_
      refine D.ae (.head _) ?_
      refine D.ac ?_
      refine D.bJ hH rfl ⟨?_, ?_,trivial⟩
      ·refine D.bK [] rfl rfl rfl rfl rfl rfl rfl rfl rfl rfl rfl rfl fl_ (fun b51=>?_)
       refine D.bJ hH rfl ⟨?_, ?_,trivial⟩
       ·refine D.append (j:=0) rfl rfl rfl rfl rfl rfl rfl rfl rfl rfl rfl (g4.mono mup) rfl (by show 0+3<=maxLen;decide) (by show (0+3)*48<=_;decide) fl_ (fun v54=>?_)
        refine D.ae (.tail _ (.head _)) ?_
        refine D.al (g4.mono mup) rfl rfl rfl rfl rfl rfl rfl rfl rfl rfl om_ (col_row S H l) fl_ (fun p57 hp57=>?_)
        refine D.aa hp57 ?_
        refine D.ah [encL ⟨[65],0,none⟩] (fun p59 C59 hle59 hs59=>?_)
        refine D.aS (j:=0) rfl rfl rfl rfl rfl rfl rfl rfl rfl rfl rfl (hs59.mono mup) rfl (by show 0+3+1<=maxLen;decide) (by show (0+3+1)*48<=_;decide) fl_ (fun A60 n60 c60=>?_)
        refine D.ac ?_
        refine D.ag (j:=1) ?_
        refine D.e1 7 hR ?_;clear hR hB hH R
        exact G.aw 0 mup (h_1 7) ⟨A60,n60,c60,trivial,rfl,rfl⟩
       ·refine D.ae (.tail _ (.head _)) ?_
        refine D.al (g4.mono mup) rfl rfl rfl rfl rfl rfl rfl rfl rfl rfl om_ (col_row S H l) fl_ (fun p57 hp57=>?_)
        refine D.bJ hH rfl ⟨?_, ?_,trivial⟩
        ·refine D.append (j:=0) rfl rfl rfl rfl rfl rfl rfl rfl rfl rfl rfl (g4.mono mup) rfl (by show 0+3<=maxLen;decide) (by show (0+3)*48<=_;decide) fl_ (fun v54=>?_)
         refine D.aa hp57 ?_
         refine D.ah [encL ⟨[65],0,none⟩] (fun p59 C59 hle59 hs59=>?_)
         refine D.aS (j:=0) rfl rfl rfl rfl rfl rfl rfl rfl rfl rfl rfl (hs59.mono mup) rfl (by show 0+3+1<=maxLen;decide) (by show (0+3+1)*48<=_;decide) fl_ (fun A60 n60 c60=>?_)
         refine D.ac ?_
         refine D.ag (j:=1) ?_
         refine D.e1 7 hR ?_;clear hR hB hH R
         exact G.aw 0 mup (h_1 7) ⟨A60,n60,c60,trivial,rfl,rfl⟩
        ·refine D.aa hp57 ?_
         refine D.bJ hH rfl ⟨?_, ?_,trivial⟩
         ·refine D.append (j:=0) rfl rfl rfl rfl rfl rfl rfl rfl rfl rfl rfl (g4.mono mup) rfl (by show 0+3<=maxLen;decide) (by show (0+3)*48<=_;decide) fl_ (fun v54=>?_)
          refine D.ah [encL ⟨[65],0,none⟩] (fun p59 C59 hle59 hs59=>?_)
          refine D.aS (j:=0) rfl rfl rfl rfl rfl rfl rfl rfl rfl rfl rfl (hs59.mono mup) rfl (by show 0+3+1<=maxLen;decide) (by show (0+3+1)*48<=_;decide) fl_ (fun A60 n60 c60=>?_)
          refine D.ac ?_
          refine D.ag (j:=1) ?_
          refine D.e1 7 hR ?_;clear hR hB hH R
          exact G.aw 0 mup (h_1 7) ⟨A60,n60,c60,trivial,rfl,rfl⟩
         ·refine D.ah [encL ⟨[65],0,none⟩] (fun p59 C59 hle59 hs59=>?_)
          refine D.append (j:=0) rfl rfl rfl rfl rfl rfl rfl rfl rfl rfl rfl (g4.mono mup) rfl (by show 0+3<=maxLen;decide) (by show (0+3)*48<=_;decide) fl_ (fun v54=>?_)
          refine D.aS (j:=0) rfl rfl rfl rfl rfl rfl rfl rfl rfl rfl rfl (hs59.mono mup) rfl (by show 0+3+1<=maxLen;decide) (by show (0+3+1)*48<=_;decide) fl_ (fun A60 n60 c60=>?_)
          refine D.ac ?_
          refine D.ag (j:=1) ?_
          refine D.e1 7 hR ?_;clear hR hB hH R
          exact G.aw 0 mup (h_1 7) ⟨A60,n60,c60,trivial,rfl,rfl⟩
      ·refine D.ae (.head _) ?_
       refine D.al (g4.mono mup) rfl rfl rfl rfl rfl rfl rfl rfl rfl rfl om_ (col_row S H l) fl_ (fun p57 hp57=>?_)
       refine D.bJ hH rfl ⟨?_, ?_,trivial⟩
       ·refine D.bK [] rfl rfl rfl rfl rfl rfl rfl rfl rfl rfl rfl rfl fl_ (fun b51=>?_)
        refine D.bJ hH rfl ⟨?_, ?_,trivial⟩
        ·refine D.append (j:=0) rfl rfl rfl rfl rfl rfl rfl rfl rfl rfl rfl (g4.mono mup) rfl (by show 0+3<=maxLen;decide) (by show (0+3)*48<=_;decide) fl_ (fun v54=>?_)
         refine D.aa hp57 ?_
         refine D.ah [encL ⟨[65],0,none⟩] (fun p59 C59 hle59 hs59=>?_)
         refine D.aS (j:=0) rfl rfl rfl rfl rfl rfl rfl rfl rfl rfl rfl (hs59.mono mup) rfl (by show 0+3+1<=maxLen;decide) (by show (0+3+1)*48<=_;decide) fl_ (fun A60 n60 c60=>?_)
         refine D.ac ?_
         refine D.ag (j:=1) ?_
         refine D.e1 7 hR ?_;clear hR hB hH R
         exact G.aw 0 mup (h_1 7) ⟨A60,n60,c60,trivial,rfl,rfl⟩
        ·refine D.aa hp57 ?_
         refine D.bJ hH rfl ⟨?_, ?_,trivial⟩
         ·refine D.append (j:=0) rfl rfl rfl rfl rfl rfl rfl rfl rfl rfl rfl (g4.mono mup) rfl (by show 0+3<=maxLen;decide) (by show (0+3)*48<=_;decide) fl_ (fun v54=>?_)
          refine D.ah [encL ⟨[65],0,none⟩] (fun p59 C59 hle59 hs59=>?_)
          refine D.aS (j:=0) rfl rfl rfl rfl rfl rfl rfl rfl rfl rfl rfl (hs59.mono mup) rfl (by show 0+3+1<=maxLen;decide) (by show (0+3+1)*48<=_;decide) fl_ (fun A60 n60 c60=>?_)
          refine D.ac ?_
          refine D.ag (j:=1) ?_
          refine D.e1 7 hR ?_;clear hR hB hH R
          exact G.aw 0 mup (h_1 7) ⟨A60,n60,c60,trivial,rfl,rfl⟩
         ·refine D.ah [encL ⟨[65],0,none⟩] (fun p59 C59 hle59 hs59=>?_)
          refine D.append (j:=0) rfl rfl rfl rfl rfl rfl rfl rfl rfl rfl rfl (g4.mono mup) rfl (by show 0+3<=maxLen;decide) (by show (0+3)*48<=_;decide) fl_ (fun v54=>?_)
          refine D.aS (j:=0) rfl rfl rfl rfl rfl rfl rfl rfl rfl rfl rfl (hs59.mono mup) rfl (by show 0+3+1<=maxLen;decide) (by show (0+3+1)*48<=_;decide) fl_ (fun A60 n60 c60=>?_)
          refine D.ac ?_
          refine D.ag (j:=1) ?_
          refine D.e1 7 hR ?_;clear hR hB hH R
          exact G.aw 0 mup (h_1 7) ⟨A60,n60,c60,trivial,rfl,rfl⟩
       ·refine D.aa hp57 ?_
        refine D.bJ hH rfl ⟨?_, ?_,trivial⟩
        ·refine D.bK [] rfl rfl rfl rfl rfl rfl rfl rfl rfl rfl rfl rfl fl_ (fun b51=>?_)
         refine D.bJ hH rfl ⟨?_, ?_,trivial⟩
         ·refine D.append (j:=0) rfl rfl rfl rfl rfl rfl rfl rfl rfl rfl rfl (g4.mono mup) rfl (by show 0+3<=maxLen;decide) (by show (0+3)*48<=_;decide) fl_ (fun v54=>?_)
          refine D.ah [encL ⟨[65],0,none⟩] (fun p59 C59 hle59 hs59=>?_)
          refine D.aS (j:=0) rfl rfl rfl rfl rfl rfl rfl rfl rfl rfl rfl (hs59.mono mup) rfl (by show 0+3+1<=maxLen;decide) (by show (0+3+1)*48<=_;decide) fl_ (fun A60 n60 c60=>?_)
          refine D.ac ?_
          refine D.ag (j:=1) ?_
          refine D.e1 7 hR ?_;clear hR hB hH R
          exact G.aw 0 mup (h_1 7) ⟨A60,n60,c60,trivial,rfl,rfl⟩
         ·refine D.ah [encL ⟨[65],0,none⟩] (fun p59 C59 hle59 hs59=>?_)
          refine D.append (j:=0) rfl rfl rfl rfl rfl rfl rfl rfl rfl rfl rfl (g4.mono mup) rfl (by show 0+3<=maxLen;decide) (by show (0+3)*48<=_;decide) fl_ (fun v54=>?_)
          refine D.aS (j:=0) rfl rfl rfl rfl rfl rfl rfl rfl rfl rfl rfl (hs59.mono mup) rfl (by show 0+3+1<=maxLen;decide) (by show (0+3+1)*48<=_;decide) fl_ (fun A60 n60 c60=>?_)
          refine D.ac ?_
          refine D.ag (j:=1) ?_
          refine D.e1 7 hR ?_;clear hR hB hH R
          exact G.aw 0 mup (h_1 7) ⟨A60,n60,c60,trivial,rfl,rfl⟩
        ·refine D.ah [encL ⟨[65],0,none⟩] (fun p59 C59 hle59 hs59=>?_)
         refine D.bK [] rfl rfl rfl rfl rfl rfl rfl rfl rfl rfl rfl rfl fl_ (fun b51=>?_)
         refine D.append (j:=0) rfl rfl rfl rfl rfl rfl rfl rfl rfl rfl rfl (g4.mono mup) rfl (by show 0+3<=maxLen;decide) (by show (0+3)*48<=_;decide) fl_ (fun v54=>?_)
         refine D.aS (j:=0) rfl rfl rfl rfl rfl rfl rfl rfl rfl rfl rfl (hs59.mono mup) rfl (by show 0+3+1<=maxLen;decide) (by show (0+3+1)*48<=_;decide) fl_ (fun A60 n60 c60=>?_)
         refine D.ac ?_
         refine D.ag (j:=1) ?_
         refine D.e1 7 hR ?_;clear hR hB hH R
         exact G.aw 0 mup (h_1 7) ⟨A60,n60,c60,trivial,rfl,rfl⟩
     obtain ⟨A,n,c,_,rfl,rfl⟩:=hI
     refine G.freezeArr 1 _ rfl rfl (by intro r hr;obtain ⟨y,_,rfl⟩:=List.mem_map.1 hr;rfl) rfl (fun Cs hls hsS=>?_)
     refine G.aw 0 mup (h_1 7) ⟨_,_,_,_,_,by unfold dX;rw [if_neg hk0,if_pos hk];exact ⟨_,_,_,_,_,rfl,g1.mono mup,g2.mono mup,g3.mono mup,hsS,g5.mono mup⟩,rfl,rfl⟩
    ·have hk1:¬ how % 5=1:=by
      intro e
      rw [e] at h49
      exact absurd h49 (by decide)
     refine G.z4 2 5 7 42 62 ?_
     refine G.cd (fun h62=>?_) fun h62=>?_
     ·have hk:how % 5=2:=by have:=bA h62;omega
      refine G.cut (fun fr C' L' μ=>∃ (A:Option Addr)(n c:Nat),(True)/\fr=[(7,[],.pointer (some ⟨b7,0,none⟩))]/\L'=[.obj b7 (.cells ⟨[.slice B1 (a7 S H l).pts.length d1,.slice B2 (a7 S H l).tris.length d2,.slice B3 (a7 S H l).terr.length d3,.slice B4 (a7 S H l).col.length d4,.slice A n c]⟩ 49 (0,0)),.arr (.slice A n c) 38 10 (0+((a7 S H l).obs.map encO).length+[encO o].length) (((a7 S H l).obs.map encO).flatten++[encO o].flatten)]) ?_ (fun fr Cr10 Lr10 μ hler10 hI=>?_)
      ·refine G.cX (.cut [1,2,4] (.alt 0 (.cut [] (.alt 3 (.fin [5,6,7,8]) (.alt 5 (.fin [3,6,7,8]) .stop))) (.alt 5 (.fin [0,3,6,7,8]) .stop))) [(4,0)] rfl rfl kr_ (fun R hB hR hH=>?_)
       refine D.ac ?_
       refine D.ae (.head _) ?_
       refine D.loadB (fun _=>((bkT hb2 10).mono hB)) rfl rfl rfl rfl rfl rfl rfl rfl rfl ?_
       refine D.bJ hH rfl ⟨?_, ?_,trivial⟩
       ·refine D.bK [] rfl rfl rfl rfl rfl rfl rfl rfl rfl rfl rfl rfl fl_ (fun b64=>?_)
        refine D.bJ hH rfl ⟨?_, ?_,trivial⟩
        ·refine D.append (j:=0) rfl rfl rfl rfl rfl rfl rfl rfl rfl rfl rfl (g5.mono mup) hall (by simp only [List.length_map,List.length_nil];omega) (by rw [List.length_map];show (0+(a7 S H l).obs.length)*152<=_;omega) fl_ (fun v67=>?_)
         refine D.ah [encO o] (fun p69 C69 hle69 hs69=>?_)
         refine D.aS (j:=0) rfl rfl rfl rfl rfl rfl rfl rfl rfl rfl rfl (hs69.mono mup) rfl (by simp only [List.length_map,List.length_nil,List.length_singleton];omega) (by simp only [List.length_map,List.length_singleton];show (0+(a7 S H l).obs.length+1)*152<=_;omega) fl_ (fun A70 n70 c70=>?_)
         refine D.ac ?_
         refine D.ag (j:=1) ?_
         refine D.e1 7 hR ?_;clear hR hB hH R
         exact G.aw 0 mup (h_1 7) ⟨A70,n70,c70,trivial,rfl,rfl⟩
        ·refine D.ah [encO o] (fun p69 C69 hle69 hs69=>?_)
         refine D.append (j:=0) rfl rfl rfl rfl rfl rfl rfl rfl rfl rfl rfl (g5.mono mup) hall (by simp only [List.length_map,List.length_nil];omega) (by rw [List.length_map];show (0+(a7 S H l).obs.length)*152<=_;omega) fl_ (fun v67=>?_)
         refine D.aS (j:=0) rfl rfl rfl rfl rfl rfl rfl rfl rfl rfl rfl (hs69.mono mup) rfl (by simp only [List.length_map,List.length_nil,List.length_singleton];omega) (by simp only [List.length_map,List.length_singleton];show (0+(a7 S H l).obs.length+1)*152<=_;omega) fl_ (fun A70 n70 c70=>?_)
         refine D.ac ?_
         refine D.ag (j:=1) ?_
         refine D.e1 7 hR ?_;clear hR hB hH R
         exact G.aw 0 mup (h_1 7) ⟨A70,n70,c70,trivial,rfl,rfl⟩
       ·refine D.ah [encO o] (fun p69 C69 hle69 hs69=>?_)
        refine D.bK [] rfl rfl rfl rfl rfl rfl rfl rfl rfl rfl rfl rfl fl_ (fun b64=>?_)
        refine D.append (j:=0) rfl rfl rfl rfl rfl rfl rfl rfl rfl rfl rfl (g5.mono mup) hall (by simp only [List.length_map,List.length_nil];omega) (by rw [List.length_map];show (0+(a7 S H l).obs.length)*152<=_;omega) fl_ (fun v67=>?_)
        refine D.aS (j:=0) rfl rfl rfl rfl rfl rfl rfl rfl rfl rfl rfl (hs69.mono mup) rfl (by simp only [List.length_map,List.length_nil,List.length_singleton];omega) (by simp only [List.length_map,List.length_singleton];show (0+(a7 S H l).obs.length+1)*152<=_;omega) fl_ (fun A70 n70 c70=>?_)
        refine D.ac ?_
        refine D.ag (j:=1) ?_
        refine D.e1 7 hR ?_;clear hR hB hH R
        exact G.aw 0 mup (h_1 7) ⟨A70,n70,c70,trivial,rfl,rfl⟩
      obtain ⟨A,n,c,_,rfl,rfl⟩:=hI
      refine G.freezeArr 1 (((a7 S H l).obs++[o]).map encO) rfl (by simp) (by intro r hr;obtain ⟨y,_,rfl⟩:=List.mem_map.1 hr;rfl) (by simp) (fun Cs hls hsS=>?_)
      refine G.aw 0 mup (h_1 7) ⟨_,_,_,_,_,by unfold dX;rw [if_neg hk0,if_neg hk1,if_pos hk];exact ⟨_,_,_,_,_,rfl,g1.mono mup,g2.mono mup,g3.mono mup,g4.mono mup,hsS⟩,rfl,rfl⟩
     ·have hk2:¬ how % 5=2:=by
       intro e
       rw [e] at h62
       exact absurd h62 (by decide)
      refine G.z2 2 7 72 ?_
      refine G.cd (fun h72=>?_) fun h72=>?_
      ·have hk:how % 5=3:=by have:=bA h72;omega
       have ht1:1<=(a7 S H l).tris.length:=List.length_pos_iff.2 (shT_pos (S.kd % 8) (Nat.mod_lt _ (by decide))).1
       refine G.rp 2 fun R hR=>?_
       refine D.ae (.head _) ?_
       refine D.dr 1 (a7 S H l).tris.length d2 rfl rfl rfl rfl rfl rfl rfl rfl rfl rfl rfl rfl (fun _=>⟨.inr ⟨_,rfl⟩,.inl ⟨rfl,rfl⟩,.inl ⟨rfl,rfl⟩,by omega,by omega,by omega⟩) rfl rfl ?_
       refine D.ps 2 ?_
       refine D.ag (j:=0) ?_
       refine D.e1 7 hR ?_;clear hR R
       have hsl:=Sl.sub g2 (l:=1) (h:=(a7 S H l).tris.length) (m:=d2) om_ (by rw [List.length_map];exact Nat.le_refl _) om_ om_
       rw [List.take_of_length_le (by rw [List.length_map];exact Nat.le_refl _),<- List.map_drop] at hsl
       refine G.aw 0 (Mem.le.refl _) (h_1 7) ⟨_,_,_,_,_,by unfold dX;rw [if_neg hk0,if_neg hk1,if_neg hk2,if_pos hk];exact ⟨_,_,_,_,_,rfl,g1.mono mup,hsl.mono mup,g3.mono mup,g4.mono mup,g5.mono mup⟩,rfl,rfl⟩
      ·have hk3:¬ how % 5=3:=by
        intro e
        rw [e] at h72
        exact absurd h72 (by decide)
       refine G.aw 0 (Mem.le.refl _) (h_1 7) ⟨_,_,_,_,_,by unfold dX;rw [if_neg hk0,if_neg hk1,if_neg hk2,if_neg hk3];exact ⟨_,_,_,_,_,rfl,g1.mono mup,g2.mono mup,g3.mono mup,g4.mono mup,g5.mono mup⟩,rfl,rfl⟩
  ·obtain ⟨w1 ,w2 ,w3 ,w4 ,w5,hX,rfl,rfl⟩:=hI
   obtain ⟨z,hz⟩:=bookX_z _ (hT.mono mup) _ S H l hPl.s o ho (how % 5) hX
   refine G.freeze 0 rfl (fun C5 hle5 hb5=>?_)
   refine G.rg fun R hR=>?_
   refine D.aa (bkT hb5 5) ?_
   refine D.af (hz.ch _ mup) ?_
   refine D.q2 1 7 8 hR ?_;clear hR R
   refine G.rp 3 fun R hR=>?_
   refine D.aU rfl rfl rfl rfl rfl rfl (fun _=>PtrTo.blockT (Mem.get hb5 mup) _ 5) rfl rfl rfl ?_
   refine D.aC (fun _=>(lcount_fn _ _ _ (hz.i.mono mup) om_ c1 om_)) rfl rfl rfl rfl rfl rfl rfl rfl rfl ?_
   refine D.ac ?_
   refine D.aq ?_
   refine D.e3 7 8 88 hR ?_;clear hR R
   refine G.cd (fun h88=>?_) fun h88=>?_
   ·exact absurd (of_decide_eq_true ((Bool.and_eq_true _ _).mp h88).2) om_
   ·refine G.rg fun R hR=>?_
    refine D.aa (bkT hb5 5) ?_
    refine D.af (count_z _ _ _ z (hz.mono mup) h60) ?_
    refine D.q4 5 7 8 9 10 hR ?_;clear hR R
    refine G.z5 2 7 8 9 10 95 ?_
    refine G.cd (fun h95=>?_) fun h95=>?_
    ·have hz0:z=0:=bA h95
     refine G.rp 4 fun R hR=>?_
     refine D.aU rfl rfl rfl rfl rfl rfl (fun _=>PtrTo.blockT (Mem.get hb5 mup) _ 5) rfl rfl rfl ?_
     refine D.aC (fun _=>(lcount_fn _ _ _ (hz.i.mono mup) om_ c1 om_)) rfl rfl rfl rfl rfl rfl rfl rfl rfl ?_
     refine D.ac ?_
     refine D.aq ?_
     refine D.q1 1 6 hR ?_;clear hR R
     refine G.rf ?_
     exact ⟨by rw [hz0];simp,rfl⟩
    ·have hz0:z≠0:=by
      intro e
      rw [e] at h95
      exact absurd h95 (by decide)
     rw [if_neg hz0]
     have hof:=ofE_z (z:=z) h60
     refine G.rg fun R hR=>?_
     refine D.aa (bkT hb5 5) ?_
     refine D.af (variable_err _ _ _ z z (hz.mono mup) hof hz0 0 0) ?_
     refine D.q6 5 7 8 9 10 11 12 hR ?_;clear hR R
     refine G.rg fun R hR=>?_
     refine D.aa (bkT hb5 5) ?_
     refine D.af (place_err _ _ _ z z (hz.mono mup) hof hz0 0) ?_
     refine D.q9 7 7 8 9 10 11 12 13 14 15 hR ?_;clear hR R
     refine G.rg fun R hR=>?_
     refine D.aa (bkT hb5 5) ?_
     refine D.af (thick_err _ _ _ z z (hz.mono mup) hof hz0) ?_
     refine D.q11 5 7 8 9 10 11 12 13 14 15 16 17 hR ?_;clear hR R
     refine G.rg fun R hR=>?_
     refine D.aa (bkT hb5 5) ?_
     refine D.af (of_err _ _ _ z z (hz.mono mup) hof hz0 0) ?_
     refine D.q13 5 7 8 9 10 11 12 13 14 15 16 17 18 19 hR ?_;clear hR R
     refine G.rg fun R hR=>?_
     refine D.aa (bkT hb5 5) ?_
     refine D.af (all_err _ _ _ z z (hz.mono mup) hof hz0) ?_
     refine D.q15 5 7 8 9 10 11 12 13 14 15 16 17 18 19 20 21 hR ?_;clear hR R
     refine G.rg fun R hR=>?_
     refine D.aa (bkT hb5 5) ?_
     refine D.af (chosen_err _ _ _ z z (hz.mono mup) hof hz0 _) ?_
     refine D.q17 5 7 8 9 10 11 12 13 14 15 16 17 18 19 20 21 22 23 hR ?_;clear hR R
     refine G.rg fun R hR=>?_
     refine D.aa (bkT hb5 5) ?_
     refine D.af (values_err _ _ _ z z (hz.mono mup) hof hz0 _) ?_
     refine D.q19 5 7 8 9 10 11 12 13 14 15 16 17 18 19 20 21 22 23 24 25 hR ?_;clear hR R
     refine G.rg fun R hR=>?_
     refine D.aa (bkT hb5 5) ?_
     refine D.af (fields_err _ _ _ z z (hz.mono mup) hof hz0 _) ?_
     refine D.q21 5 7 8 9 10 11 12 13 14 15 16 17 18 19 20 21 22 23 24 25 26 27 hR ?_;clear hR R
     refine G.rg fun R hR=>?_
     refine D.aa (bkT hb5 5) ?_
     refine D.af (fails_err _ _ _ z z (hz.mono mup) hof hz0 _) ?_
     refine D.q22 5 8 9 10 11 12 13 14 15 16 17 18 19 20 21 22 23 24 25 26 27 28 29 hR ?_;clear hR R
     refine G.rp 6 fun R hR=>?_
     refine D.aF rfl rfl rfl rfl rfl rfl rfl rfl ?_
     refine D.ps 3 ?_
     refine D.aF rfl rfl rfl rfl rfl rfl rfl rfl ?_
     refine D.ps 4 ?_
     refine D.aF rfl rfl rfl rfl rfl rfl rfl rfl ?_
     refine D.ps 3 ?_
     refine D.aF rfl rfl rfl rfl rfl rfl rfl rfl ?_
     refine D.ps 3 ?_
     refine D.aF rfl rfl rfl rfl rfl rfl rfl rfl ?_
     refine D.ps 4 ?_
     refine D.aF rfl rfl rfl rfl rfl rfl rfl rfl ?_
     refine D.e16 8 16 17 18 19 20 21 22 23 24 25 26 27 28 29 178 hR ?_;clear hR R
     refine G.cd (fun h178=>?_) fun h178=>?_
     ·exact absurd h178 (by simp)
     ·refine G.rp 4 fun R hR=>?_
      refine D.am _ ?_
      refine D.ps 2 ?_
      refine D.am _ ?_
      refine D.ps 2 ?_
      refine D.am _ ?_
      refine D.ps 2 ?_
      refine D.am _ ?_
      refine D.ps 2 ?_
      refine D.am _ ?_
      refine D.ps 2 ?_
      refine D.am _ ?_
      refine D.ps 5 ?_
      refine D.aq ?_
      refine D.ps 4 ?_
      refine D.aq ?_
      refine D.ps 4 ?_
      refine D.aq ?_
      refine D.ps 4 ?_
      refine D.aq ?_
      refine D.ps 4 ?_
      refine D.aq ?_
      refine D.ps 4 ?_
      refine D.aq ?_
      refine D.ps 4 ?_
      refine D.aq ?_
      refine D.q1 1 6 hR ?_;clear hR R
      refine G.rf ?_
      exact ⟨by simp,rfl⟩
open Go Go.Jog Go.ChangeShapes Go.WideShapes Go.ChangeAt Go.RowKit
set_option maxRecDepth 100000
set_option maxHeartbeats 40000000

namespace lawConstraintErrors
theorem laid_met (os:Os)(args:Array Value):laidMetH Tryz.prog Rows.constraintErrorsRow.laid ((laidWorld os).forCall (fun _ _=>0) ⟨#[],args,[]⟩).memory :=
 laidMet_of_run' 8 kr_ kr_
theorem contract (H:Type)(enc:TypeId × Value->H)(W:World)(base:Nat)(args:Array Value)(ds gs:List (DataW H))(before:List MemPlace)
  (hval:∀ (j:Nat) t v,Tryz.f3.params[j]?=some t->args[j]?=some v->Value.okWide Tryz.prog W .any base t v)
  (hW:DataW.Whole enc Tryz.prog Tryz.f3.params.toList Rows.constraintErrorsSpec.vars false W args.toList ds gs before) (hL:laidMet Tryz.prog Rows.constraintErrorsRow.laid W) :
  Calls Tryz.prog 3 args W fun e W'=>∃ v,e=.returned v/\Rows.constraintErrorsSpec.post enc Tryz.prog Tryz.f3 false true false false W args v W':=by
 have hW':=hW
 obtain ⟨p,q,hA0,hV,rfl,hfz,hnd⟩:=hW
 have hA:DataW.TrodAll enc Tryz.prog W 0 (fun _=>true) true Tryz.f3.params.toList args.toList ds p:=hA0
 rw [Tryz.params3] at hA hval
 obtain ⟨v0,vs0,d0,ds0,p0,q0,hargs0,rfl,rfl,h0,r0⟩:=trodAll_cons hA
 obtain ⟨v1,vs1,d1,ds1,p1,q1,hargs1,rfl,rfl,h1,r1⟩:=trodAll_cons r0
 obtain ⟨v2,vs2,d2,ds2,p2,q2,hargs2,rfl,rfl,h2,r2⟩:=trodAll_cons r1
 obtain ⟨rfl,rfl,rfl⟩:=trodAll_nil r2
 obtain rfl:args=#[v0,v1,v2]:=by cases args;simp_all
 obtain ⟨rfl,rfl⟩:=trodVars_none hV
 obtain ⟨S0,G0,l0,hpl0,hpr0⟩:∃ S G l,PlanIn (memOf W) v0 S G l/\PlanR S G l:=by
  obtain ⟨cs,rfl,_⟩:=okWide_struct Tryz.underlying31 (hval 0 31 v0 rfl rfl)
  obtain ⟨n,hn⟩:=(id h0)
  exact plan_of hn
 obtain ⟨l1,rfl⟩:∃ b:UInt8,v1=.int .u8 b.toNat:=by
  obtain ⟨k1,rfl⟩:=okWide_int Tryz.underlying5 (hval 1 5 v1 rfl rfl)
  obtain ⟨n,hn⟩:=(id h1)
  exact u8_of hn
 obtain ⟨o2,rfl,ho2⟩:∃ o:Obs,v2=.agg ⟨encO o⟩/\ObsR o:=by
  obtain ⟨⟨cs⟩,rfl,_⟩:=okWide_struct Tryz.underlying38 (hval 2 38 v2 rfl rfl)
  obtain ⟨n,hn⟩:=(id h2)
  obtain ⟨o,e,hr⟩:=obs_of hn
  exact ⟨o,congrArg (fun x=>Value.agg ⟨x⟩) e,hr⟩
 simp only [List.append_nil] at hW'
 have hlt0:∀ x∈p0,x.block<W.heap.size:=fun x hx=>hW'.lt x (by simp [hx])
 have hlt1:∀ x∈p1,x.block<W.heap.size:=fun x hx=>hW'.lt x (by simp [hx])
 have hlt2:∀ x∈p2,x.block<W.heap.size:=fun x hx=>hW'.lt x (by simp [hx])
 have main:=gives_below (errors_fn (memOf W) (tabs_of hL) _ S0 G0 l0 l1.toNat o2 l1.toNat_lt hpl0 hpr0 ho2)
 refine Calls.mono main fun e W' ⟨he,hb⟩=>?_
 subst he
 refine ⟨_,rfl,post_of_below (pa:=p0++(p1++(p2++([])))) (pv:=[]) hW' (fun _ _ _=>trodAll_cons_mk (shut_bool Tryz.underlying4 _) trodAll_mk0) (fun sp hsp=>?_) (fun _ _=>rfl) (by simp) hb (ok_one kr_ rfl (okWide_bool_mk Tryz.underlying4 _))⟩
 exact trodAll_cons_mk (WideElems.Trod_stays laidOut' kr_ (of_decide_eq_true kr_) h0 (fun x hx=>hb.same (hlt0 x hx)) (fun x hx=>hsp x (by simp [hx]))) (trodAll_cons_mk (WideElems.Trod_stays laidOut' kr_ (of_decide_eq_true kr_) h1 (fun x hx=>hb.same (hlt1 x hx)) (fun x hx=>hsp x (by simp [hx]))) (trodAll_cons_mk (WideElems.Trod_stays laidOut' kr_ (of_decide_eq_true kr_) h2 (fun x hx=>hb.same (hlt2 x hx)) (fun x hx=>hsp x (by simp [hx]))) (trodAll_mk0)))

theorem reads (os:Os){H:Type}(enc:TypeId × Value->H):∃ places,DataW.whole enc Tryz.prog ((laidWorld os).forCall (fun _ _=>0) ⟨#[],#[.agg ⟨[.int .u8 0,.int .i8 0,.int .i8 0,.bool false,.int .i8 0,.int .i8 0,.int .i8 0,.int .i8 0,.int .i8 0,.int .i8 0,.bool false,.slice none 0 0]⟩,.int .u8 0,.agg ⟨[.int .i64 0,.string ⟨#[]⟩,.string ⟨#[]⟩,.string ⟨#[]⟩,.string ⟨#[]⟩,.string ⟨#[]⟩,.string ⟨#[]⟩,.string ⟨#[]⟩,.string ⟨#[]⟩,.string ⟨#[]⟩]⟩],[]⟩).memory Tryz.f3.params.toList Rows.constraintErrorsSpec.vars false (#[.agg ⟨[.int .u8 0,.int .i8 0,.int .i8 0,.bool false,.int .i8 0,.int .i8 0,.int .i8 0,.int .i8 0,.int .i8 0,.int .i8 0,.bool false,.slice none 0 0]⟩,.int .u8 0,.agg ⟨[.int .i64 0,.string ⟨#[]⟩,.string ⟨#[]⟩,.string ⟨#[]⟩,.string ⟨#[]⟩,.string ⟨#[]⟩,.string ⟨#[]⟩,.string ⟨#[]⟩,.string ⟨#[]⟩,.string ⟨#[]⟩]⟩]:Array Value).toList 8=some ([.agg [.agg [.lit (.int .u8 0),.agg [.lit (.int .i8 0),.lit (.int .i8 0)],.lit (.bool false)],.agg [.agg [.lit (.int .i8 0),.lit (.int .i8 0),.lit (.int .i8 0),.lit (.int .i8 0),.lit (.int .i8 0),.lit (.int .i8 0)],.lit (.bool false)],.nil],.lit (.int .u8 0),.agg [.lit (.int .i64 0),.lit (.string []),.agg [.lit (.string []),.lit (.string [])],.lit (.string []),.lit (.string []),.lit (.string []),.agg [.lit (.string []),.lit (.string []),.lit (.string [])]]],[],places) :=
 ⟨[],by kernel_rfl⟩

theorem lifted (os:Os)(started:os.Started)(H:Type)(enc:TypeId × Value->H)(F:Stop.Interp) :
  ReturnsInHanded {} Tryz.checked os 3 .any ((OpenSpec.ofChange Rows.constraintErrorsSpec).preRow enc Tryz.prog Tryz.f3 Rows.constraintErrorsRow.domain false Rows.constraintErrorsRow.laid) (((OpenSpec.ofChange Rows.constraintErrorsSpec).at F).post enc Tryz.prog Tryz.f3 false true false false):=by
 obtain ⟨places,hx⟩:=reads os enc
 refine returnsInHanded_of_row (C:=Tryz.checked) (s:=OpenSpec.ofChange Rows.constraintErrorsSpec) own started kr_ Tryz.func3
  (witness_row_at (enc:=enc) (C:=Tryz.checked) false (laidWorld os) #[.agg ⟨[.int .u8 0,.int .i8 0,.int .i8 0,.bool false,.int .i8 0,.int .i8 0,.int .i8 0,.int .i8 0,.int .i8 0,.int .i8 0,.bool false,.slice none 0 0]⟩,.int .u8 0,.agg ⟨[.int .i64 0,.string ⟨#[]⟩,.string ⟨#[]⟩,.string ⟨#[]⟩,.string ⟨#[]⟩,.string ⟨#[]⟩,.string ⟨#[]⟩,.string ⟨#[]⟩,.string ⟨#[]⟩,.string ⟨#[]⟩]⟩] rfl kr_ kr_ kr_
   (OpenSpec.preRow_of_cond 8 hx kr_ (fun k hk=>by cases hk) kr_ (laid_met os _))) ?_
 intro W base args ds gs before hval hW _ _ _ hL _ _
 exact contract H enc W base args ds gs before hval hW hL

theorem bothB {a b:Bool}(h:a=true)(k:b=true):(a && b)=true:=by rw [h,k];rfl
theorem said:Rows.ConstraintErrorsSaid :=
 OpenClaim.holds_of_cond 3 Tryz.f3 rfl rfl rfl rfl rfl rfl rfl ⟨rfl,rfl,rfl,rfl,rfl⟩ rfl rfl rfl rfl rfl (by as_aux_lemma=>kernel_rfl) Tryz.func3 (by unfold joinedFacts;(repeat' (with_reducible refine bothB ?_ ?_));all_goals (as_aux_lemma=>kernel_rfl))
  (of_decide_eq_true (by as_aux_lemma=>kernel_rfl)) (by unfold Func.isWrapper;first | (rw [if_pos (by decide +kernel)];kernel_rfl) | (rw [if_neg (by decide +kernel)];exact ⟨rfl,rfl⟩))
  (fun os started H enc _ F=>by rw [OpenClaim.pre_eq_preRow];exact lifted os started H enc F)

theorem plain (f : FuncId) (fn : Func) (hf : Tryz.pinned.checked.prog.funcNamed "klippe/klippelaw25.ConstraintErrors" = some f) (hfn : Tryz.pinned.checked.prog.funcs[f]? = some fn) :
  true=Tryz.pinned.checked.prog.looks []/\∀ (j:Nat) t,fn.params[j]?=some t->Tryz.pinned.checked.prog.wantsStandIn t=false:=by
 obtain rfl : f = 3 := Option.some.inj ((show Tryz.prog.funcNamed "klippe/klippelaw25.ConstraintErrors" = some 3 by kernel_rfl).symm.trans hf) |>.symm
 obtain rfl:fn=Tryz.f3:=(Option.some.inj (Tryz.func3.symm.trans hfn)).symm
 refine ⟨by kernel_rfl,fun j t ht=>?_⟩
 rw [Tryz.params3] at ht
 have hm:=Array.mem_of_getElem? ht
 simp only [List.mem_toArray,List.mem_cons,List.not_mem_nil,or_false] at hm
 rcases hm with rfl | rfl | rfl
 ·exact (show Tryz.prog.wantsStandIn 31=false by kernel_rfl)
 ·exact (show Tryz.prog.wantsStandIn 5=false by kernel_rfl)
 ·exact (show Tryz.prog.wantsStandIn 38=false by kernel_rfl)
end lawConstraintErrors

theorem constraintErrors_card:Rows.ConstraintErrorsCardSaid :=
 Claim7.holds_tied_plain_at .later [] _ _ _ _ lawConstraintErrors.said (fun _ h=>by cases h) kr_ (fun _ h=>by cases h) constraintErrors_row_tie rfl ⟨rfl,rfl⟩ kr_ rfl lawConstraintErrors.plain kr_
#print axioms constraintErrors_card
end Go.Proofs.YtllimhhofkcgpaaGreatDoor
