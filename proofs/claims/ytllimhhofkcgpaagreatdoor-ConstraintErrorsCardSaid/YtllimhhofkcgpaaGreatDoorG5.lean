/- Laws that the proofs of this seat share, part 5. -/
import Derived.Test.YtllimhhofkcgpaaGreatDoorG4
import Derived.Test.YtllimhhofkcgpaaGreatDoorShelf
set_option maxHeartbeats 4000000
namespace Go.Proofs.YtllimhhofkcgpaaGreatDoor
open Go Go.Jog
set_option maxRecDepth 100000

theorem decV_zeros (k:Nat)(s:Str):decV (List.replicate k 48++s)=decV s:=by
 induction k with
 | zero=>rfl
 | succ k ih=>rw [List.replicate_succ,List.cons_append,bV,ih];simp
theorem pad9_eq {x:Nat}(h:x<1000000000):padS 9 x=List.replicate (9-(decS x).length) 48++decS x:=by
 obtain ⟨h1,h2,h3⟩:=padS_ok 9 x h
 obtain ⟨h4,h5⟩:=aO x
 have hl:(decS x).length<=9:=cO om_ om_
 refine dec_inj h2 (fun c hc=>?_) (by rw [h1];simp;omega) (by rw [h3,decV_zeros,h5])
 rcases List.mem_append.1 hc with hc | hc
 ·rw [List.eq_of_mem_replicate hc];rfl
 ·exact h4.1 c hc
def LastT (l:List Nat)(j:Nat)(s:Str):Prop:=(j=0/\s=[])∨(0<j/\CanS s/\decV s=val9 (l.drop (l.length-j))/\0<decV s)
theorem lastT_step {l:List Nat}{j:Nat}{s:Str}(hc:Can9 l)(hj:j<l.length)(h:LastT l j s):LastT l (j+1) (s++if j=0 then decS (g9 l (l.length-1-j)) else padS 9 (g9 l (l.length-1-j))):=by
 have hx:l[l.length-1-j]?=some (g9 l (l.length-1-j)):=g9_get om_
 refine .inr ⟨by omega, ?_⟩
 rw [show l.length-(j+1)=l.length-1-j by omega]
 rcases h with ⟨rfl,rfl⟩ | ⟨h0,h1,h2,h3⟩
 ·rw [if_pos rfl,List.nil_append]
  obtain ⟨h4,h5⟩:=aO (g9 l (l.length-1-0))
  have h6:val9 (l.drop (l.length-1-0))=g9 l (l.length-1-0):=by
   rw [List.drop_eq_getElem_cons om_,show l.length-1-0+1=l.length by omega,List.drop_length]
   rw [List.getElem?_eq_getElem om_] at hx
   rw [Option.some.inj hx]
   show _+B9*0=_
   omega
  refine ⟨h4,by rw [h5,h6], ?_⟩
  rw [h5]
  rcases Nat.eq_zero_or_pos (g9 l (l.length-1-0)) with h | h
  ·rw [h] at hx
   exact absurd (by rw [List.getLast?_eq_getElem?];exact hx) hc.2
  ·exact h
 ·rw [if_neg om_]
  rw [show l.length-j=l.length-1-j+1 by omega] at h2
  exact give9_step hc.1 hx h1 h2 h3
theorem close_fn (C:Mem)(hT:Tabs C)(m:Bool)(v:Value)(n:Nat)(hv:NineC C v n)(hn:n<B9 ^ 100000):Gives cx.P 118 [.agg ⟨[.bool m,v]⟩] C (strV (txt (sgZ m n))):=by
 obtain ⟨ls,hc,hln,hll,hs⟩:=hv.get hn
 obtain ⟨A,c,rfl,_⟩:=id hs
 simp only [List.length_map] at hs ⊢
 refine Fn.introM kr_ Tryz.func118 rfl 34 rfl rfl (fun w0=>?_)
 refine G.rg fun R hR=>?_
 refine D.aB (fun b1=>?_)
 refine D.q1 1 1 hR ?_
 refine G.freeze 0 rfl (fun C1 hle1 hb1=>?_)
 refine G.rp 1 fun R hR=>?_
 refine D.aa (PtrTo.block (Mem.get hb1 mup) _) ?_
 refine D.q2 2 1 10 hR ?_
 refine G.cd (fun h10=>?_) fun h10=>?_
 ·have hl0:ls=[]:=by
   have:(ls.length:Int)=0:=by simpa using h10
   exact List.eq_nil_of_length_eq_zero om_
  refine G.z1 1 2 ?_
  refine G.az (G.finR (res_t1 rfl rfl) ?_ endsM)
  subst hl0
  refine ⟨?_,rfl⟩
  rw [<- hln,(txt_zero (sgZ m (val9 []))).2 (by cases m <;> rfl)]
  rfl
 ·have hl0:0<ls.length:=by
   have:¬ (ls.length:Int)=0:=by simpa using h10
   omega
  obtain ⟨pre,hpre⟩:∃ pre:Str,(if m then [45] else [])=pre:=⟨_,rfl⟩
  have hprl:pre.length<=1:=by rw [<- hpre];split <;> simp
  refine G.rg fun R hR=>?_
  refine D.aj (fun b3=>?_)
  refine D.e2 1 3 hR ?_
  refine G.nilArr 5 1 ?_
  refine G.perm (L':=[.obj b3 (.cells ⟨[.pointer none,.slice none 0 0]⟩ 249 (0,0)),.arr (.slice none 0 0) 5 1 0 []]) (List.Perm.swap _ _ _) ?_
  refine G.rp 1 fun R hR=>?_
  refine D.aa (PtrTo.block (Mem.get hb1 mup) _) ?_
  refine D.e3 1 3 12 hR ?_
  refine G.cut (fun fr C' L' μ=>∃ (q:Option Addr)(w:Value),(q=none∨q=some ⟨b3,0,none⟩)/\fr=[(1,[],.pointer (some ⟨b1,0,none⟩)),(3,[],.pointer (some ⟨b3,0,none⟩))]/\L'=[.obj b3 (.cells ⟨[.pointer q,w]⟩ 249 (0,0)),.arr w 5 1 pre.length (u8s pre)]) ?_ (fun fr C12 L12 μ hle12 hI=>?_)
  ·refine G.cd (fun h12=>?_) fun h12=>?_
   ·rw [if_pos h12] at hpre
    subst hpre
    refine G.aI [(0,3)] rfl (fun R hR=>?_)
    refine D.call (writeByte_fn _ b3 none (.slice none 0 0) [] 45 (.inl rfl) (by simp)) rfl (.inr (by decide)) rfl rfl rfl rfl rfl rfl (List.Perm.refl _) fl_ (fun v13 C13 L13 hle13 hq13=>?_)
    refine D.e2 1 3 hR ?_
    obtain ⟨w1,rfl⟩:=hq13
    refine G.aw 0 mup (h_2 1 3) ⟨some ⟨b3,0,none⟩,w1,.inr rfl,rfl,rfl⟩
   ·rw [if_neg (by rw [h12];decide)] at hpre
    subst hpre
    refine G.aw 0 mup (h_2 1 3) ⟨none,.slice none 0 0,.inl rfl,rfl,rfl⟩
  ·obtain ⟨q ,w,hq,rfl,rfl⟩:=hI
   refine G.rp 1 fun R hR=>?_
   refine D.aa (PtrTo.block (Mem.get hb1 mup) _) ?_
   refine D.aX (backU_fn _ A ls.length c) (fun v16 C16 hle16 hq16=>?_)
   refine D.e3 1 3 16 hR ?_
   obtain ⟨bb,rfl,hbb⟩:=hq16
   refine G.aY (L':=[.obj b3 (.cells ⟨[.pointer q,w]⟩ 249 (0,0)),.arr w 5 1 (pre++[]).length (u8s (pre++[]))]) (by rw [List.append_nil]) ?_
   refine G.rangeFunc rfl rfl rfl kr_ (backU_iter _ bb _ _ ls hbb (hs.mono mup) om_) (fun j L'=>∃ (q:Option Addr)(w:Value)(s:Str),((q=none∨q=some ⟨b3,0,none⟩)/\LastT ls j s/\s.length<=9*j)/\L'=[.obj b3 (.cells ⟨[.pointer q,w]⟩ 249 (0,0)),.arr w 5 1 (pre++s).length (u8s (pre++s))]) ⟨q,w,[],⟨hq,.inl ⟨rfl,rfl⟩,by simp⟩,rfl⟩ rfl (fun _ _=>rfl) (fun u v=>[(1,[],.pointer (some ⟨b1,0,none⟩)),(3,[],.pointer (some ⟨b3,0,none⟩)),(4,[],u),(5,[],v)]) (fun l u v W1 L'=>?_) (fun l j u v L' W1 hI hj=>?_) (fun bD L' hI=>?_)
   ·refine G.z4 1 1 3 4 18 ?_
    refine G.z4 1 1 3 4 5 ?_
    exact G.ff ⟨rfl,rfl,rfl,rfl,trivial⟩
   ·obtain ⟨q,w,s,⟨hq2,hlt,hsl⟩,rfl⟩:=hI
    have hjl:j<ls.length:=by have:=(List.getElem?_eq_some_iff.1 hj).1;rwa [dK] at this
    rw [backW_at hjl] at hj
    cases hj
    have hst:=lastT_step hc hjl hlt
    obtain ⟨x,hx⟩:∃ x,g9 ls (ls.length-1-j)=x:=⟨_,rfl⟩
    have hx9:x<B9:=by rw [<- hx];exact g9_lt hc.1 _
    rw [show ls.getD (ls.length-1-j) 0=x from hx]
    rw [hx] at hst
    have hxl:(decS x).length<=9:=cO (by rw [B9v] at hx9;omega) om_
    have hp9:=pad9_eq (x:=x) (by rw [B9v] at hx9;exact hx9)
    have hpl:(padS 9 x).length=9:=(padS_ok 9 x (by rw [B9v] at hx9;omega)).1
    refine G.rp 1 fun R hR=>?_
    refine D.ai (format9_fn _ (hT.mono mup) x (by rw [B9v] at hx9;omega)) rfl rfl rfl rfl rfl rfl rfl fl_ ?_
    refine D.q4 1 1 3 4 6 hR ?_
    refine G.rp 2 fun R hR=>?_
    refine D.aa (PtrTo.block (Mem.get hb1 mup) _) ?_
    refine D.ac ?_
    refine D.am _ ?_
    refine D.q3 1 3 6 26 hR ?_
    refine G.cut (fun fr C' L' μ=>∃ (q3:Option Addr)(w3:Value)(t:Str),((q3=none∨q3=some ⟨b3,0,none⟩)/\t++decS x=pre++(s++if j=0 then decS x else padS 9 x)/\t.length<=9*j+10)/\fr=[(3,[],.pointer (some ⟨b3,0,none⟩)),(6,[],strV (decS x))]/\L'=[.obj b3 (.cells ⟨[.pointer q3,w3]⟩ 249 (0,0)),.arr w3 5 1 t.length (u8s t)]) ?_ (fun fr C26 L26 μ hle26 hI=>?_)
    ·refine G.cd (fun h26=>?_) fun h26=>?_
     ·have hj0:0<j:=by
       have:((ls.length-1-j:Nat):Int)<(ls.length:Int)-1:=by simpa using h26
       omega
      refine G.aI [(3,3)] rfl (fun R hR=>?_)
      refine D.ps 2 ?_
      refine D.bu (decS x).length 9 rfl rfl rfl rfl rfl rfl rfl rfl rfl (fun _=>⟨.inr ⟨_,rfl⟩,.inl ⟨rfl,rfl⟩,.inl ⟨rfl,rfl⟩,by omega,Nat.le_refl _,Nat.le_refl _⟩) rfl rfl ?_
      rw [show ((([48,48,48,48,48,48,48,48,48]:Str).take 9).drop (decS x).length)=List.replicate (9-(decS x).length) 48 from by rw [show (([48,48,48,48,48,48,48,48,48]:Str).take 9)=List.replicate 9 48 from rfl,List.drop_replicate]]
      refine D.call (writeString_fn _ b3 q w (pre++s) (List.replicate (9-(decS x).length) 48) hq2 (by simp;omega)) rfl (.inr (by decide)) rfl rfl rfl rfl rfl rfl (List.Perm.refl _) fl_ (fun v30 C30 L30 hle30 hq30=>?_)
      refine D.e2 3 6 hR ?_
      obtain ⟨w1,rfl⟩:=hq30
      refine G.aw 0 mup (h_2 3 6) ⟨some ⟨b3,0,none⟩,w1,_,⟨.inr rfl,by rw [if_neg om_,hp9];simp [List.append_assoc],by simp;omega⟩,rfl,rfl⟩
     ·have hj0:j=0:=by
       have:¬ ((ls.length-1-j:Nat):Int)<(ls.length:Int)-1:=by simpa using h26
       omega
      refine G.aw 0 mup (h_2 3 6) ⟨q,w,pre++s,⟨hq2,by rw [if_pos hj0,List.append_assoc],by simp;omega⟩,rfl,rfl⟩
    ·obtain ⟨q3 ,w3 ,t,⟨hq3,htt,htl⟩,rfl,rfl⟩:=hI
     refine G.aI [(1,3)] rfl (fun R hR=>?_)
     refine D.ac ?_
     refine D.call (writeString_fn _ b3 q3 w3 t (decS x) hq3 om_) rfl (.inr (by decide)) rfl rfl rfl rfl rfl rfl (List.Perm.refl _) fl_ (fun v32 C32 L32 hle32 hq32=>?_)
     refine D.done [] trivial (hR _ _ _ rfl ?_)
     obtain ⟨w4,rfl⟩:=hq32
     rw [htt]
     exact G.eX (R:=fun L'=>∃ (q:Option Addr)(w:Value)(s:Str),((q=none∨q=some ⟨b3,0,none⟩)/\LastT ls (j+1) s/\s.length<=9*(j+1))/\L'=[.obj b3 (.cells ⟨[.pointer q,w]⟩ 249 (0,0)),.arr w 5 1 (pre++s).length (u8s (pre++s))]) (List.Perm.refl _) ⟨some ⟨b3,0,none⟩,w4,_,⟨.inr rfl,hst,by rw [List.length_append];split <;> omega⟩,rfl⟩
   ·obtain ⟨q,w,s,⟨hq2,hlt,hsl⟩,rfl⟩:=hI
    rw [dK] at hlt
    obtain ⟨hlt1,hlt2,hlt3,hlt4⟩:0<ls.length/\CanS s/\decV s=val9 (ls.drop (ls.length-ls.length))/\0<decV s:=hlt.elim (fun h=>by omega) id
    rw [Nat.sub_self,List.drop_zero,hln] at hlt3
    refine G.perm (L':=[.obj b3 (.cells ⟨[.pointer q,w]⟩ 249 (0,0)),.arr w 5 1 (pre++s).length (u8s (pre++s)),.obj bD (.deferred (some []))]) (pkL [1,1,0] rfl) ?_
    refine G.aI [(0,3)] rfl (fun R hR=>?_)
    refine D.call (bstring_fn _ b3 q w (pre++s) (fun h=>hlt2.2.1 (List.append_eq_nil_iff.1 h).2) (by simp;rw [dK] at hsl;omega)) rfl (.inr (by decide)) rfl rfl rfl rfl rfl rfl (List.Perm.refl _) fl_ (fun v33 C33 L33 hle33 hq33=>?_)
    refine D.q1 1 2 hR ?_
    obtain ⟨rfl,rfl⟩:=hq33
    refine G.az (G.finM (res_t1 rfl rfl) ?_)
    refine ⟨?_,rfl⟩
    have es:s=decS n:=by rw [<- hlt3];exact canS_dec hlt2
    rw [txt_sg m n (fun _=>by omega),es,<- hpre]
    cases m <;> rfl

theorem div_piece9 {t Q x:Nat}(hQ:0<Q):(x+B9*t) / Q=B9*(t / Q)+(x+B9*(t % Q)) / Q/\(x+B9*t) % Q=(x+B9*(t % Q)) % Q:=by
 have h:x+B9*t=(x+B9*(t % Q))+Q*(B9*(t / Q)):=by
  have h1:=Nat.mod_add_div t Q
  have h2:B9*t=B9*(t % Q)+B9*(Q*(t / Q)):=by rw [<- Nat.mul_add,h1]
  rw [h2,Nat.mul_left_comm];omega
 rw [h,Nat.add_mul_div_left _ _ hQ,Nat.add_mul_mod_self_left]
 exact ⟨by omega,rfl⟩
theorem div_piece9_lt {t Q x:Nat}(hQ:0<Q)(hx:x<B9):(x+B9*(t % Q)) / Q<B9:=by
 rw [Nat.div_lt_iff_lt_mul hQ]
 have h1:=Nat.mod_lt t hQ
 have h2:B9*(t % Q+1)<=B9*Q:=Nat.mul_le_mul_left _ h1
 rw [Nat.mul_add] at h2
 omega
theorem dt {l:List Nat}{j:Nat}(h:j<l.length):val9 (l.drop j)=g9 l j+B9*val9 (l.drop (j+1)):=by
 rw [List.drop_eq_getElem_cons h,val9,g9_some (List.getElem?_eq_getElem h)]
theorem val9_set_drop {l:List Nat}{j x:Nat}(h:j<l.length):val9 ((l.set j x).drop j)=x+B9*val9 (l.drop (j+1)):=by
 rw [List.drop_eq_getElem_cons (by simpa using h),val9,List.getElem_set_self,List.drop_set_of_lt om_]
theorem divide1_fn (C:Mem)(va vb:Value)(m d:Nat)(ha:NineC C va m)(hm:m<B9 ^ 200000)(hb:Sl C 1 vb ([d].map encU))(hd0:0<d)(hd:d<B9) :
  Pur cx.P 117 [va,vb] C fun u D=>∃ q r,u=.tuple #[q,r]/\NineC D q (m / d)/\NineC D r (m % d):=by
 have hbn:NineC C vb d:=⟨[d],⟨fun x hx=>(by rw [List.mem_singleton.1 hx];exact hd),by simp;omega⟩,by show d+B9*0=d;omega,hb⟩
 have ha0:=ha
 obtain ⟨a,hca,hav,hal,hsa⟩:=ha.get hm
 obtain ⟨A0,c0,rfl,_⟩:=id hsa
 obtain ⟨B0,d0,rfl,hbd⟩:=id hb
 simp only [List.length_map,List.length_singleton] at hb hbn hsa ha0 ⊢
 have hB:=B9v
 refine Fn.introM kr_ Tryz.func117 rfl 146 rfl rfl (fun w0=>?_)
 refine G.rg fun R hR=>?_
 refine D.aB (fun b3=>?_)
 refine D.aj (fun b4=>?_)
 refine D.q4 1 0 3 4 5 hR ?_;clear hR R
 refine G.freeze 1 rfl (fun C3 hle3 hb3=>?_)
 refine G.rp 1 fun R hR=>?_
 refine D.aa (PtrTo.block (Mem.get hb3 mup) _) ?_
 refine D.af (order_n _ (ha0.mono mup) (hbn.mono mup)) ?_
 refine D.q5 1 0 3 4 5 17 hR ?_;clear hR R
 refine G.cd (fun h17=>?_) fun h17=>?_
 ·have hlt:m<d:=by
   have:ordZ m d<0:=by simpa using h17
   exact ordZ_lt.1 this
  refine G.rp 1 fun R hR=>?_
  refine D.ag (j:=0) ?_
  refine D.q2 1 4 5 hR ?_;clear hR R
  refine G.az (G.finR (res_ct (.head _) rfl rfl rfl rfl rfl) ?_ endsM)
  refine ⟨rfl,_,_,rfl, ?_, ?_⟩
  ·rw [Nat.div_eq_of_lt hlt];exact NineC.zero _
  ·rw [Nat.mod_eq_of_lt hlt];exact ha0.mono mup
 ·have hlt:d<=m:=by
   have h:¬ ordZ m d<0:=by simpa using h17
   rw [ordZ_lt] at h
   omega
  obtain ⟨n,hn⟩:∃ n,a.length=n:=⟨_,rfl⟩
  refine G.rg fun R hR=>?_
  refine D.aa (PtrTo.block (Mem.get hb3 mup) _) ?_
  refine D.q5 2 0 3 4 5 21 hR ?_;clear hR R
  refine G.cd (fun h21=>?_) fun h21=>?_
  ·refine G.rp 2 fun R hR=>?_
   refine D.cP rfl rfl rfl rfl rfl rfl rfl rfl rfl (Nat.le_refl _) (by show 8*a.length<=281474976710656;omega) (by simp only [maxLen];omega) fl_ (fun b24=>?_)
   refine D.ag (j:=1) ?_
   refine D.e3 0 3 4 hR ?_;clear hR R
   refine G.rg fun R hR=>?_
   refine D.aj (fun b6=>?_)
   refine D.ag (j:=0) ?_
   refine D.e4 0 3 4 6 hR ?_;clear hR R
   refine G.rp 1 fun R hR=>?_
   refine D.aX (backU_fn _ A0 a.length c0) (fun v26 C26 hle26 hq26=>?_)
   refine D.e4 3 4 6 26 hR ?_;clear hR R
   obtain ⟨bb,rfl,hbb⟩:=hq26
   refine G.aY (L':=[.obj b6 (.cells ⟨[.int .u64 ((val9 (a.drop (a.length-0)) % d:Nat):Int)]⟩ 238 (0,0)),.obj b4 (.cells ⟨[qU b24 a.length a.length]⟩ 207 (0,0)),.arr (qU b24 a.length a.length) 238 1 a.length ((List.replicate a.length 0).map encU).flatten]) (by rw [<- zrow_U,Nat.sub_zero,List.drop_length,show val9 []=0 from rfl,Nat.zero_mod];rfl) ?_
   refine G.rangeFunc rfl rfl rfl kr_ (backU_iter _ bb _ _ a hbb (hsa.mono mup) om_) (fun j L'=>∃ (qs:List Nat),(qs.length=a.length/\Dig9 qs/\val9 (qs.drop (a.length-j))=val9 (a.drop (a.length-j)) / d)/\L'=[.obj b6 (.cells ⟨[.int .u64 ((val9 (a.drop (a.length-j)) % d:Nat):Int)]⟩ 238 (0,0)),.obj b4 (.cells ⟨[qU b24 a.length a.length]⟩ 207 (0,0)),.arr (qU b24 a.length a.length) 238 1 a.length (qs.map encU).flatten]) ⟨List.replicate a.length 0,⟨List.length_replicate,(fun x hx=>by rw [List.eq_of_mem_replicate hx];decide),by rw [Nat.sub_zero,List.drop_length,List.drop_of_length_le (by simp)];simp [val9]⟩,rfl⟩ rfl (fun _ _=>rfl) (fun u v=>[(3,[],.pointer (some ⟨b3,0,none⟩)),(4,[],.pointer (some ⟨b4,0,none⟩)),(6,[],.pointer (some ⟨b6,0,none⟩)),(7,[],u),(8,[],v)]) (fun l u v W1 L'=>?_) (fun l j u v L' W1 hI hj=>?_) (fun bD L' hI=>?_)
   ·refine G.z5 1 3 4 6 7 28 ?_
    refine G.z5 1 3 4 6 7 8 ?_
    exact G.ff ⟨rfl,rfl,rfl,rfl,rfl,trivial⟩
   ·obtain ⟨qs,⟨hql,hqd,hqv⟩,rfl⟩:=hI
    have hjl:j<a.length:=by have:=(List.getElem?_eq_some_iff.1 hj).1;rwa [dK] at this
    rw [backW_at hjl] at hj
    cases hj
    obtain ⟨i,hi⟩:∃ i,a.length-1-j=i:=⟨_,rfl⟩
    have hi1:a.length-j=i+1:=by omega
    obtain ⟨T,hT⟩:∃ T,val9 (a.drop (i+1))=T:=⟨_,rfl⟩
    have hx9:=g9_lt hca.1 i
    have hrd:=Nat.mod_lt T hd0
    have hX:T % d*B9+g9 a i<18446744073709551616:=by
     have:=Nat.mul_le_mul_right B9 (show T % d<=999999999 by omega)
     rw [hB] at this ⊢
     omega
    rw [hi,hi1,hT,show a.getD i 0=g9 a i from rfl]
    rw [hi1,hT] at hqv
    have hxx:T % d*B9+g9 a i=g9 a i+B9*(T % d):=by rw [Nat.mul_comm,Nat.add_comm]
    have hdp:=div_piece9 (t:=T) (x:=g9 a i) hd0
    have hdl:=div_piece9_lt (t:=T) hd0 hx9
    rw [<- hxx] at hdp hdl
    refine G.rg fun R hR=>?_
    refine D.ae (.head _) ?_
    refine D.int (((T % d*B9:Nat):Int)) rfl rfl rfl rfl (by rw [show (1000000000:Int)=((B9:Nat):Int) from rfl,<- Int.natCast_mul,IntKind.wrap_u64];omega) rfl rfl ?_
    refine D.ac ?_
    refine D.int (((T % d*B9+g9 a i:Nat):Int)) rfl rfl rfl rfl (by rw [IntKind.wrap_u64];omega) rfl rfl ?_
    refine D.ag (j:=0) ?_
    refine D.e4 3 4 6 7 hR ?_;clear hR R
    refine G.cut (fun fr C' L' μ=>(True)/\fr=[]/\L'=[.obj b6 (.cells ⟨[.int .u64 (((T % d*B9+g9 a i) % d:Nat):Int)]⟩ 238 (0,0)),.arr (qU b24 a.length a.length) 238 1 a.length (au (qs.map encU).flatten [Value.int .u64 (((T % d*B9+g9 a i) / d:Nat):Int)] (i*1)),.obj b4 (.cells ⟨[qU b24 a.length a.length]⟩ 207 (0,0))]) ?_ (fun fr Cr10 Lr10 μ hler10 hI=>?_)
    ·refine G.cX (.cut [0,1,2,3,4,5,6,8,9,10,12] (.alt 7 (.fin [11,13,14]) (.alt 13 (.fin [7,11,14]) .stop))) [] rfl rfl kr_ (fun R hB hR hH=>?_)
     refine D.ae (.tail _ (.head _)) ?_
     refine D.ac ?_
     refine D.ae (.head _) ?_
     refine D.aa (PtrTo.block (Mem.get hb3 mup) _) ?_
     refine D.al (hb.mono mup) rfl rfl rfl rfl rfl rfl rfl rfl rfl rfl om_ (rfl:([d].map encU)[(0:Int).toNat]?=some (encU d)) fl_ (fun p37 hp37=>?_)
     refine D.aa hp37 ?_
     refine D.quoN (T % d*B9+g9 a i) (d) rfl rfl rfl rfl rfl rfl om_ (.inr ⟨rfl,by omega⟩) rfl rfl ?_
     refine D.aa (PtrTo.block (Mem.get hb3 mup) _) ?_
     refine D.al (hb.mono mup) rfl rfl rfl rfl rfl rfl rfl rfl rfl rfl om_ (rfl:([d].map encU)[(0:Int).toNat]?=some (encU d)) fl_ (fun p42 hp42=>?_)
     refine D.aa hp42 ?_
     refine D.ce (i*1) rfl rfl rfl rfl rfl rfl rfl rfl rfl rfl (fun _=>⟨by omega,by omega,rfl⟩) rfl rfl ?_
     refine D.bJ hH rfl ⟨?_, ?_,trivial⟩
     ·first | refine D.loadL (.head _) rfl rfl rfl rfl rfl rfl rfl rfl rfl ?_ | refine D.loadL (.tail _ (.head _)) rfl rfl rfl rfl rfl rfl rfl rfl rfl ?_
      refine D.df (T % d*B9+g9 a i) (d) rfl rfl rfl rfl rfl rfl om_ rfl rfl ?_
      refine D.bH (j:=2) rfl rfl rfl rfl rfl rfl rfl rfl rfl rfl rfl (by show i*1+1<=_;rw [el cN,hql];omega) ?_
      refine D.ag (j:=1) ?_
      refine D.done [] trivial (hR _ _ _ rfl ?_);clear hR hB hH R
      exact G.aw 0 (Mem.le.refl _) (fr':=[]) trivial ⟨trivial,rfl,rfl⟩
     ·refine D.bH (j:=2) rfl rfl rfl rfl rfl rfl rfl rfl rfl rfl rfl (by show i*1+1<=_;rw [el cN,hql];omega) ?_
      first | refine D.loadL (.head _) rfl rfl rfl rfl rfl rfl rfl rfl rfl ?_ | refine D.loadL (.tail _ (.head _)) rfl rfl rfl rfl rfl rfl rfl rfl rfl ?_
      refine D.df (T % d*B9+g9 a i) (d) rfl rfl rfl rfl rfl rfl om_ rfl rfl ?_
      refine D.ag (j:=1) ?_
      refine D.done [] trivial (hR _ _ _ rfl ?_);clear hR hB hH R
      exact G.aw 0 (Mem.le.refl _) (fr':=[]) trivial ⟨trivial,rfl,rfl⟩
    obtain ⟨_,rfl,rfl⟩:=hI
    refine G.perm (L':=[.obj b6 (.cells ⟨[.int .u64 (((T % d*B9+g9 a i) % d:Nat):Int)]⟩ 238 (0,0)),.obj b4 (.cells ⟨[qU b24 a.length a.length]⟩ 207 (0,0)),.arr (qU b24 a.length a.length) 238 1 a.length (au (qs.map encU).flatten [Value.int .u64 (((T % d*B9+g9 a i) / d:Nat):Int)] (i*1))]) (pkL [0,1,0] rfl) ?_
    have hdr:val9 (a.drop i)=g9 a i+B9*T:=by rw [dt om_,hT]
    have hmod:val9 (a.drop (a.length-(j+1))) % d=(T % d*B9+g9 a i) % d:=by rw [show a.length-(j+1)=i by omega,hdr,hdp.2]
    refine G.aY (L':=[.obj b6 (.cells ⟨[.int .u64 ((val9 (a.drop (a.length-(j+1))) % d:Nat):Int)]⟩ 238 (0,0)),.obj b4 (.cells ⟨[qU b24 a.length a.length]⟩ 207 (0,0)),.arr (qU b24 a.length a.length) 238 1 a.length ((qs.set i ((T % d*B9+g9 a i) / d)).map encU).flatten]) (by rw [hmod,<- d9 cN _ (by omega:i<qs.length)];rfl) ?_
    exact G.eX (R:=fun L'=>∃ (qs:List Nat),(qs.length=a.length/\Dig9 qs/\val9 (qs.drop (a.length-(j+1)))=val9 (a.drop (a.length-(j+1))) / d)/\L'=[.obj b6 (.cells ⟨[.int .u64 ((val9 (a.drop (a.length-(j+1))) % d:Nat):Int)]⟩ 238 (0,0)),.obj b4 (.cells ⟨[qU b24 a.length a.length]⟩ 207 (0,0)),.arr (qU b24 a.length a.length) 238 1 a.length (qs.map encU).flatten]) (List.Perm.refl _) ⟨qs.set i ((T % d*B9+g9 a i) / d),⟨by simp [hql],hqd.set hdl,by rw [show a.length-(j+1)=i by omega,hdr,val9_set_drop om_,hqv,hdp.1];omega⟩,rfl⟩
   ·obtain ⟨qs,⟨hql,hqd,hqv⟩,rfl⟩:=hI
    rw [dK,Nat.sub_self,List.drop_zero,List.drop_zero,hav] at hqv
    rw [dK,Nat.sub_self,List.drop_zero,hav]
    refine G.freezeArr 3 (qs.map encU) rfl rfl (by intro r hr;obtain ⟨y,_,rfl⟩:=List.mem_map.1 hr;rfl) (by rw [List.length_map,hql]) (fun Cq hleq hsq=>?_)
    refine G.cut (fun fr C' L' μ=>∃ (v47 v50:Value),(NineC C' v47 (m / d)/\NineC C' v50 (m % d))/\fr=[(4,[],.pointer (some ⟨b4,0,none⟩)),(5,[],v50)]/\L'=[.obj b4 (.cells ⟨[v47]⟩ 207 (0,0)),.obj bD (.deferred (some [])),.obj b6 (.cells ⟨[.int .u64 ((m % d:Nat):Int)]⟩ 238 (0,0))]) ?_ (fun fr Cr11 Lr11 μ hler11 hI=>?_)
    ·refine G.cX (.cut [0,2] (.alt 1 (.fin [3,4,5,6]) (.alt 3 (.fin [1,4,5,6]) .stop))) [] rfl rfl kr_ (fun R hB hR hH=>?_)
     refine D.ae (.tail _ (.tail _ (.head _))) ?_
     refine D.ae (.tail _ (.head _)) ?_
     refine D.bJ hH rfl ⟨?_, ?_,trivial⟩
     ·refine D.aX (trim_n _ hqd (hsq.mono mup)) (fun v47 C47 hle47 hq47=>?_)
      refine D.ah [encU (m % d)] (fun p49 C49 hle49 hs49=>?_)
      refine D.aP (trim_n _ (l:=[m % d]) (fun x hx=>by rw [List.mem_singleton.1 hx];have:=Nat.mod_lt m hd0;omega) (hs49.mono mup)) rfl rfl rfl rfl rfl rfl rfl fl_ (fun v50 C50 hle50 hq50=>?_)
      obtain ⟨A7,m7,c7,rfl⟩:=hq47.form
      refine D.ag (j:=2) ?_
      refine D.ac ?_
      refine D.e2 4 5 hR ?_;clear hR hB hH R
      rw [show val9 [m % d]=m % d from (by show m % d+B9*0=m % d;omega)] at hq50
      rw [hqv] at hq47
      exact G.aw 0 mup (h_2 4 5) ⟨_,v50,⟨hq47.mono mup,hq50.mono mup⟩,rfl,rfl⟩
     ·refine D.ah [encU (m % d)] (fun p49 C49 hle49 hs49=>?_)
      refine D.aX (trim_n _ hqd (hsq.mono mup)) (fun v47 C47 hle47 hq47=>?_)
      refine D.aP (trim_n _ (l:=[m % d]) (fun x hx=>by rw [List.mem_singleton.1 hx];have:=Nat.mod_lt m hd0;omega) (hs49.mono mup)) rfl rfl rfl rfl rfl rfl rfl fl_ (fun v50 C50 hle50 hq50=>?_)
      obtain ⟨A7,m7,c7,rfl⟩:=hq47.form
      refine D.ag (j:=2) ?_
      refine D.ac ?_
      refine D.e2 4 5 hR ?_;clear hR hB hH R
      rw [show val9 [m % d]=m % d from (by show m % d+B9*0=m % d;omega)] at hq50
      rw [hqv] at hq47
      exact G.aw 0 mup (h_2 4 5) ⟨_,v50,⟨hq47.mono mup,hq50.mono mup⟩,rfl,rfl⟩
    obtain ⟨v47,v50,⟨hw1,hw2⟩,rfl,rfl⟩:=hI
    refine G.perm (L':=[.obj bD (.deferred (some [])),.obj b4 (.cells ⟨[v47]⟩ 207 (0,0)),.obj b6 (.cells ⟨[.int .u64 ((m % d:Nat):Int)]⟩ 238 (0,0))]) (pkL [1,0,0] rfl) ?_
    obtain ⟨A7,m7,c7,rfl⟩:=hw1.form
    refine G.az (G.finM (res_ct (.head _) rfl rfl rfl rfl rfl) ?_)
    exact ⟨rfl,_,_,rfl,hw1,hw2⟩
  ·exact absurd h21 (by decide)

theorem val9_divP {l:List Nat}(h:Dig9 l){k:Nat}(hk:k<=l.length):val9 l / B9 ^ k=val9 (l.drop k):=by
 have e:val9 l=val9 (l.take k)+B9 ^ k*val9 (l.drop k):=by
  conv=>lhs;rw [<- List.take_append_drop k l]
  rw [dx,List.length_take,Nat.min_eq_left hk]
 have h1:=val9_lt (h.take k)
 rw [List.length_take,Nat.min_eq_left hk] at h1
 rw [e,Nat.add_mul_div_left _ _ (Nat.pow_pos (by decide)),Nat.div_eq_of_lt h1,Nat.zero_add]
theorem guess_ge {lx lb:List Nat}(hx:Can9 lx)(hb:Can9 lb)(hb0:0<lb.length)(hle:lb.length<=lx.length):val9 lx / val9 lb<=val9 (lx.drop (lb.length-1)) / g9 lb (lb.length-1)/\0<g9 lb (lb.length-1):=by
 have htop:val9 (lb.drop (lb.length-1))=g9 lb (lb.length-1):=by
  rw [dt om_,show lb.length-1+1=lb.length by omega,List.drop_length]
  show _+B9*0=_
  omega
 have h1:=val9_divP hb.1 (k:=lb.length-1) om_
 have h2:=val9_divP hx.1 (k:=lb.length-1) om_
 have hg0:0<g9 lb (lb.length-1):=by
  rcases Nat.eq_zero_or_pos (g9 lb (lb.length-1)) with h | h
  ·have h3:=g9_get (l:=lb) (i:=lb.length-1) om_
   rw [h] at h3
   exact absurd (by rw [List.getLast?_eq_getElem?];exact h3) hb.2
  ·exact h
 refine ⟨?_,hg0⟩
 rw [<- h2,<- htop,<- h1,Nat.div_div_eq_div_mul]
 have hP:0<B9 ^ (lb.length-1):=Nat.pow_pos (by decide)
 rw [htop] at h1
 refine Nat.div_le_div_left (Nat.mul_div_le _ _) ?_
 rw [h1]
 exact Nat.mul_pos hP hg0
theorem lead_one {l:List Nat}{k:Nat}(h:l.length=k+1):val9 (l.drop k)=g9 l k:=by
 rw [dt om_,show k+1=l.length by omega,List.drop_length]
 show _+B9*0=_
 omega
theorem lead_two {l:List Nat}{k:Nat}(h:l.length=k+2):val9 (l.drop k)=g9 l (k+1)*B9+g9 l k:=by
 rw [dt om_,lead_one (k:=k+1) om_,Nat.mul_comm];omega
theorem can9_len_le {a b:List Nat}(ha:Can9 a)(hb:Can9 b)(h:val9 b<=val9 a):b.length<=a.length:=by
 rcases Nat.lt_or_ge a.length b.length with h1 | h1
 ·have:=len9_lt ha.1 hb h1;omega
 ·exact h1
theorem can9_len_le1 {a b:List Nat}(ha:Can9 a)(hb:Can9 b)(h:val9 a<B9*val9 b):a.length<=b.length+1:=by
 have h2:=val9_lt hb.1
 refine can9_short ha (Nat.lt_of_lt_of_le h ?_)
 rw [Nat.pow_succ,Nat.mul_comm]
 exact Nat.mul_le_mul_right _ (Nat.le_of_lt h2)
theorem small_lt {m k f:Nat}(hm:m<B9 ^ k)(hf:f<B9):m*f<B9 ^ (k+1):=by
 rw [Nat.pow_succ]
 exact Nat.mul_lt_mul'' hm hf
theorem big_lt {x a k:Nat}(h:x<B9*a)(ha:a<B9 ^ k):x<B9 ^ (k+1):=by
 rw [Nat.pow_succ,Nat.mul_comm _ B9]
 exact Nat.lt_trans h (Nat.mul_lt_mul_of_pos_left ha (by decide))
theorem all_oneU (l:List Nat):(l.map encU).all (fun r=>r.all oneB)=true:=by
 rw [List.all_map,List.all_eq_true]
 intro x _
 rfl
theorem divideL_fn (C:Mem)(va vb:Value)(m n:Nat)(ha:NineC C va m)(hb:NineC C vb n)(hm:m<B9 ^ 100000)(hn1:B9<=n) :
  Pur cx.P 117 [va,vb] C fun u D=>∃ q r,u=.tuple #[q,r]/\NineC D q (m / n)/\NineC D r (m % n):=by
 have hn0:0<n:=Nat.lt_of_lt_of_le (by decide) hn1
 have ha0:=ha
 have hb0:=hb
 obtain ⟨B,hcb,hbv,hsb⟩:=hb
 obtain ⟨A0,a0,c0,rfl⟩:=ha.form
 obtain ⟨B0,d0,rfl,hbd1,hbd2,_⟩:=id hsb
 simp only [List.length_map] at hsb hb0 hbd1 ⊢
 have hmx:maxLen<=9223372036854775807:=by simp [maxLen]
 have hB:=B9v
 have hBl:2<=B.length:=by
  rcases Nat.lt_or_ge B.length 2 with h | h
  ·have h2:=val9_lt hcb.1
   have h3:B9 ^ B.length<=B9 ^ 1:=Nat.pow_le_pow_right (by decide) om_
   rw [Nat.pow_one] at h3
   omega
  ·exact h
 refine Fn.introM kr_ Tryz.func117 rfl 146 rfl rfl (fun w0=>?_)
 refine G.rg fun R hR=>?_
 refine D.aB (fun b3=>?_)
 refine D.aj (fun b4=>?_)
 refine D.q4 1 0 3 4 5 hR ?_;clear hR R
 refine G.rp 1 fun R hR=>?_
 skip
 refine D.ae (.tail _ (.head _)) ?_
 refine D.af (order_n _ (ha0.mono mup) (hb0.mono mup)) ?_
 refine D.q5 1 0 3 4 5 17 hR ?_;clear hR R
 refine G.cd (fun h17=>?_) fun h17=>?_
 ·have hlt:m<n:=by
   have:ordZ m n<0:=by simpa using h17
   exact ordZ_lt.1 this
  refine G.rp 1 fun R hR=>?_
  refine D.ag (j:=0) ?_
  refine D.q2 1 4 5 hR ?_;clear hR R
  refine G.az (G.finR (res_ct (.head _) rfl rfl rfl rfl rfl) ?_ endsM)
  refine ⟨rfl,_,_,rfl, ?_, ?_⟩
  ·rw [Nat.div_eq_of_lt hlt];exact NineC.zero _
  ·rw [Nat.mod_eq_of_lt hlt];exact ha0.mono mup
 ·have hlt:n<=m:=by
   have h:¬ ordZ m n<0:=by simpa using h17
   rw [ordZ_lt] at h
   omega
  refine G.rg fun R hR=>?_
  refine D.ae (.tail _ (.head _)) ?_
  refine D.q5 2 0 3 4 5 21 hR ?_;clear hR R
  refine G.cd (fun h21=>?_) fun h21=>?_
  ·exact absurd h21 (by simp;omega)
  ·have htop0:=g9_lt hcb.1 (B.length-1)
   have hrb:(B.map encU)[((B.length:Int)-1).toNat]?=some (encU (g9 B (B.length-1))):=by
    rw [show ((B.length:Int)-1).toNat=B.length-1 by omega];exact g9_row om_
   obtain ⟨f,hf⟩:∃ f,B9 / (g9 B (B.length-1)+1)=f:=⟨_,rfl⟩
   refine G.rg fun R hR=>?_
   refine D.ae (.tail _ (.head _)) ?_
   refine D.ae (.tail _ (.head _)) ?_
   refine D.ac ?_
   refine D.am _ ?_
   refine D.al (hsb.mono mup) rfl rfl rfl rfl rfl rfl rfl rfl rfl rfl om_ hrb fl_ (fun p55 hp55=>?_)
   refine D.aa hp55 ?_
   refine D.int (((g9 B (B.length-1)+1:Nat):Int)) rfl rfl rfl rfl (by rw [IntKind.wrap_u64];omega) rfl rfl ?_
   refine D.quoN (B9) (g9 B (B.length-1)+1) rfl rfl rfl rfl rfl rfl om_ (.inr ⟨rfl,by omega⟩) rfl rfl ?_
   refine D.q5 1 0 3 4 5 9 hR ?_;clear hR R
   rw [hf]
   have hf0:0<f:=by rw [<- hf];exact Nat.div_pos om_ om_
   have hfB:f<B9:=by
    rw [<- hf]
    have h1:=(guess_ge hcb hcb om_ (Nat.le_refl _)).2
    exact Nat.div_lt_self (by decide) om_
   have hnB:n<B9 ^ 100000:=Nat.lt_of_le_of_lt hlt hm
   refine G.aH [0,1,3,4,2,5,6,7] [] rfl kr_ (fun R hB hR=>?_)
   refine D.ps 2 ?_
   refine D.ae (.tail _ (.head _)) ?_
   refine D.ac ?_
   refine D.aP (small_n (k:=100000) _ (ha0.mono mup) hm hfB om_) rfl rfl rfl rfl rfl rfl rfl fl_ (fun v61 C61 hle61 hq61=>?_)
   refine D.aP (small_n (k:=100000) _ (hb0.mono mup) hnB hfB om_) rfl rfl rfl rfl rfl rfl rfl fl_ (fun v64 C64 hle64 hq64=>?_)
   refine D.ac ?_
   obtain ⟨A64,m64,c64,rfl⟩:=hq64.form
   refine D.ag (j:=1) ?_
   refine D.e5 0 3 4 5 9 hR ?_;clear hR hB R
   have hx61:=hq61.mono hle64
   have hx64:=hq64
   refine G.freeze 0 rfl (fun C3 hle3 hb3=>?_)
   obtain ⟨P,hcP,hPv,hPl,hsP⟩:=(hx61.mono hle3).get (small_lt hm hfB)
   obtain ⟨W,hcD,hDv,hDl,hsD⟩:=(hx64.mono hle3).get (small_lt hnB hfB)
   obtain ⟨PA,pc,rfl,_⟩:=id hsP
   obtain ⟨DA',dc',heD,_⟩:=id hsD
   cases heD
   simp only [List.length_map] at hsP hsD hb3 hx61 hx64 ⊢
   have hnD:NineC C3 (.slice A64 W.length c64) (n*f):=⟨W,hcD,hDv,hsD⟩
   have hNf:0<n*f:=Nat.mul_pos hn0 hf0
   have hNfB:n*f<B9 ^ 100001:=bT (k:=100001) (n:=100000+1) (small_lt (k:=100000) hnB hfB) (Nat.le_refl _)
   have hD2:2<=W.length:=by
    have h1:B9<=val9 W:=by rw [hDv];exact Nat.le_trans hn1 (Nat.le_mul_of_pos_right _ hf0)
    rcases Nat.lt_or_ge W.length 2 with h | h
    ·have h2:=val9_lt hcD.1
     have h3:B9 ^ W.length<=B9 ^ 1:=Nat.pow_le_pow_right (by decide) om_
     rw [Nat.pow_one] at h3
     omega
    ·exact h
   have hP1:1<=P.length:=by
    rcases Nat.eq_zero_or_pos P.length with h | h
    ·have:P=[]:=List.eq_nil_of_length_eq_zero h
     subst this
     have h1:m*f=0:=by rw [<- hPv];rfl
     have h2:0<m*f:=Nat.mul_pos om_ hf0
     omega
    ·exact h
   have htop:=(guess_ge hcD hcD om_ (Nat.le_refl _)).2
   have htl:=g9_lt hcD.1 (W.length-1)
   refine G.rp 2 fun R hR=>?_
   refine D.cP rfl rfl rfl rfl rfl rfl rfl rfl rfl (Nat.le_refl _) (by show 8*P.length<=281474976710656;omega) (by simp only [maxLen];omega) fl_ (fun b67=>?_)
   refine D.ag (j:=1) ?_
   refine D.e5 0 3 4 5 9 hR ?_;clear hR R
   refine G.rg fun R hR=>?_
   refine D.aa (PtrTo.block (Mem.get hb3 mup) _) ?_
   refine D.aa (PtrTo.block (Mem.get hb3 mup) _) ?_
   refine D.ac ?_
   refine D.am _ ?_
   refine D.al (hsD.mono mup) rfl rfl rfl rfl rfl rfl rfl rfl rfl rfl om_ (by rw [show ((W.length:Int)-1).toNat=W.length-1 by omega];exact g9_row om_:(W.map encU)[((W.length:Int)-1).toNat]?=some (encU (g9 W (W.length-1)))) fl_ (fun p72 hp72=>?_)
   refine D.aa hp72 ?_
   refine D.q6 1 0 3 4 5 9 10 hR ?_;clear hR R
   refine G.rp 2 fun R hR=>?_
   refine D.am _ ?_
   refine D.q7 1 0 3 4 5 9 10 11 hR ?_;clear hR R
   refine G.aY (L':=[.obj b4 (.cells ⟨[qU b67 P.length P.length]⟩ 207 (0,0)),.arr (qU b67 P.length P.length) 238 1 P.length ((List.replicate P.length 0).map encU).flatten]) (by rw [<- zrow_U];rfl) ?_
   refine G.loop (fun fr C' L' μ=>∃ (i:Nat)(qs:List Nat)(v5:Value),(i<=P.length/\qs.length=P.length/\Dig9 qs/\val9 (qs.drop i)=val9 (P.drop i) / (n*f)/\NineC C' v5 (val9 (P.drop i) % (n*f))/\∀ j,j<i->g9 qs j=0)/\fr=[(0,[],.slice PA P.length pc),(3,[],.pointer (some ⟨b3,0,none⟩)),(4,[],.pointer (some ⟨b4,0,none⟩)),(5,[],v5),(9,[],.int .u64 f),(10,[],.int .u64 (g9 W (W.length-1))),(11,[],.int .i64 ((i:Int)-1))]/\L'=[.obj b4 (.cells ⟨[qU b67 P.length P.length]⟩ 207 (0,0)),.arr (qU b67 P.length P.length) 238 1 P.length (qs.map encU).flatten]/\μ=i+1) (h_7 0 3 4 5 9 10 11) ⟨P.length,List.replicate P.length 0,_,⟨Nat.le_refl _,List.length_replicate,(fun x hx=>by rw [List.eq_of_mem_replicate hx];decide),by rw [List.drop_length,List.drop_of_length_le (by simp)];simp [val9],by rw [List.drop_length,show val9 []=0 from rfl,Nat.zero_mod];exact NineC.zero _,fun j _=>g9_zeros _ j⟩,rfl,rfl,rfl⟩ (fun fr C0' L0' m hle0 hI=>?_)
   obtain ⟨i,qs,v5,⟨hi,hql,hqd,hqv,hr5,hqz⟩,rfl,rfl,rfl⟩:=hI
   refine G.z8 2 0 3 4 5 9 10 11 78 ?_
   refine G.cd (fun h78=>?_) fun h78=>?_
   ·have hi0:0<i:=by
     have:(0:Int)<=(i:Int)-1:=by simpa using h78
     omega
    obtain ⟨j,rfl⟩:∃ j,i=j+1:=⟨i-1,by omega⟩
    obtain ⟨T,hT⟩:∃ T,val9 (P.drop (j+1))=T:=⟨_,rfl⟩
    rw [hT] at hqv hr5
    have hTm:=Nat.mod_lt T hNf
    obtain ⟨Rl,hcR,hRv,hRl,hsR⟩:=hr5.get (m:=100001) (Nat.lt_trans hTm (bT (k:=100001) (n:=100000+1) (small_lt (k:=100000) hnB hfB) (Nat.le_refl _)))
    obtain ⟨RA,rc,heR,_⟩:=id hsR
    rw [List.length_map] at heR
    subst heR
    obtain ⟨X,hX⟩:∃ X,g9 P j+B9*(T % (n*f))=X:=⟨_,rfl⟩
    have hpj:=g9_lt hcP.1 j
    have hXv:val9 (g9 P j::Rl)=X:=by rw [val9,hRv,hX]
    have hdp:=div_piece9 (t:=T) (x:=g9 P j) hNf
    have hdl:=div_piece9_lt (t:=T) hNf hpj
    rw [hX] at hdp hdl
    have hPj:val9 (P.drop j)=g9 P j+B9*T:=by rw [dt om_,hT]
    refine G.aI [(7,3)] rfl (fun R hR=>?_)
    refine D.ps 2 ?_
    refine D.al (hsP.mono mup) rfl rfl rfl rfl rfl rfl rfl rfl rfl rfl om_ (by rw [show ((((j+1:Nat):Int)-1)).toNat=j by omega];exact g9_row om_:(P.map encU)[((((j+1:Nat):Int)-1)).toNat]?=some (encU (g9 P j))) fl_ (fun p83 hp83=>?_)
    refine D.aa hp83 ?_
    refine D.bK [encU (g9 P j)] rfl rfl rfl rfl rfl rfl rfl rfl rfl rfl rfl rfl fl_ (fun b85=>?_)
    refine D.ac ?_
    refine D.append (j:=0) rfl rfl rfl rfl rfl rfl rfl rfl rfl rfl rfl (hsR.mono mup) (all_oneU Rl) (by simp only [List.length_map,List.length_singleton,maxLen];omega) (by simp only [List.length_map,List.length_singleton];omega) fl_ (fun v87=>?_)
    refine D.call (d7 _ _ (g9 P j::Rl) (n:=1+(Rl.map encU).length) (by rw [List.length_map];simp;omega)) rfl (.inr (by decide)) rfl rfl rfl rfl rfl rfl (List.Perm.refl _) fl_ (fun v88 C88 L88 hle88 hq88=>?_)
    refine D.q7 1 0 3 4 5 9 10 11 hR ?_;clear hR R
    obtain ⟨rfl,hu⟩:=hq88
    have hXn:NineC C88 v88 X:=⟨cut9 (g9 P j::Rl),eG (fun x hx=>(List.mem_cons.1 hx).elim (fun h=>by rw [h];exact hpj) (hcR.1 x)),by rw [eF,hXv],hu⟩
    have hXlt:X<B9*(n*f):=by
     have h1:B9*(T % (n*f)+1)<=B9*(n*f):=Nat.mul_le_mul_left _ hTm
     rw [Nat.mul_add] at h1
     omega
    have hXB:X<B9 ^ 100002:=bT (k:=100002) (n:=100001+1) (big_lt (k:=100001) hXlt hNfB) (Nat.le_refl _)
    obtain ⟨Xl,hcX,hXlv,hXll,hsX⟩:=hXn.get hXB
    obtain ⟨XA,xc,heX,_⟩:=id hsX
    rw [List.length_map] at heX
    subst heX
    refine G.rp 1 fun R hR=>?_
    refine D.aa (PtrTo.block (Mem.get hb3 mup) _) ?_
    refine D.af (order_n _ (hXn.mono mup) (hnD.mono mup)) ?_
    refine D.q8 1 0 3 4 5 9 10 11 92 hR ?_;clear hR R
    refine G.cd (fun h92=>?_) fun h92=>?_
    ·have hXs:X<n*f:=by
      have:ordZ X (n*f)<0:=by simpa using h92
      exact ordZ_lt.1 this
     refine G.rp 1 fun R hR=>?_
     refine D.am _ ?_
     refine D.q7 1 0 3 4 5 9 10 11 hR ?_;clear hR R
     rw [show ((j+1:Nat):Int)-1-1=(j:Int)-1 by omega]
     refine G.ax (m':=j+1) om_ mup (h_7 0 3 4 5 9 10 11) ⟨j,qs,_,⟨by omega,hql,hqd,by rw [dt (l:=qs) om_,hqz j om_,hqv,hPj,hdp.1,Nat.div_eq_of_lt hXs];omega,by rw [hPj,hdp.2,Nat.mod_eq_of_lt hXs];exact hXn.mono mup,fun j' h=>hqz j' om_⟩,rfl,rfl,rfl⟩
    ·have hXg:n*f<=X:=by
      have h:¬ ordZ X (n*f)<0:=by simpa using h92
      rw [ordZ_lt] at h
      omega
     have hlen1:=can9_len_le hcX hcD (by rw [hXlv,hDv];exact hXg)
     have hlen2:=can9_len_le1 hcX hcD (by rw [hXlv,hDv];exact hXlt)
     have hgs:=(guess_ge hcX hcD om_ hlen1).1
     obtain ⟨lead,hlead⟩:∃ lead,val9 (Xl.drop (W.length-1))=lead:=⟨_,rfl⟩
     rw [hXlv,hDv,hlead] at hgs
     have hg1:=g9_lt hcX.1 (Xl.length-1)
     have hg2:=g9_lt hcX.1 (Xl.length-2)
     refine G.rp 3 fun R hR=>?_
     refine D.am _ ?_
     refine D.al (hsX.mono mup) rfl rfl rfl rfl rfl rfl rfl rfl rfl rfl om_ (by rw [show ((Xl.length:Int)-1).toNat=Xl.length-1 by omega];exact g9_row om_:(Xl.map encU)[((Xl.length:Int)-1).toNat]?=some (encU (g9 Xl (Xl.length-1)))) fl_ (fun p97 hp97=>?_)
     refine D.aa hp97 ?_
     refine D.q8 1 0 3 4 5 9 10 11 12 hR ?_;clear hR R
     refine G.rp 2 fun R hR=>?_
     refine D.aa (PtrTo.block (Mem.get hb3 mup) _) ?_
     refine D.q9 2 0 3 4 5 9 10 11 12 103 hR ?_;clear hR R
     refine G.cut (fun fr C' L' μ=>(lead<1000000000000000000)/\fr=[(0,[],.slice PA P.length pc),(3,[],.pointer (some ⟨b3,0,none⟩)),(4,[],.pointer (some ⟨b4,0,none⟩)),(5,[],.slice XA Xl.length xc),(9,[],.int .u64 f),(10,[],.int .u64 (g9 W (W.length-1))),(11,[],.int .i64 (((j+1:Nat):Int)-1)),(12,[],.int .u64 (lead:Nat))]/\L'=[.obj b4 (.cells ⟨[qU b67 P.length P.length]⟩ 207 (0,0)),.arr (qU b67 P.length P.length) 238 1 P.length (qs.map encU).flatten]) ?_ (fun fr C103 L103 μ hle103 hI=>?_)
     ·refine G.cd (fun h103=>?_) fun h103=>?_
      ·have hl2:Xl.length=W.length-1+2:=by
        have:(W.length:Int)<(Xl.length:Int):=by simpa using h103
        omega
       have hlv:=lead_two hl2
       rw [hlead,show W.length-1+1=Xl.length-1 by omega,show W.length-1=Xl.length-2 by omega] at hlv
       have hgm:g9 Xl (Xl.length-1)*B9<=999999999*B9:=Nat.mul_le_mul_right _ om_
       rw [show 999999999*B9=999999999000000000 from rfl] at hgm
       refine G.rp 1 fun R hR=>?_
       refine D.int (((g9 Xl (Xl.length-1)*B9:Nat):Int)) rfl rfl rfl rfl (by rw [show (1000000000:Int)=((B9:Nat):Int) from rfl,<- Int.natCast_mul,IntKind.wrap_u64];omega) rfl rfl ?_
       refine D.ps 3 ?_
       refine D.am _ ?_
       refine D.al (hsX.mono mup) rfl rfl rfl rfl rfl rfl rfl rfl rfl rfl om_ (by rw [show ((Xl.length:Int)-2).toNat=Xl.length-2 by omega];exact g9_row om_:(Xl.map encU)[((Xl.length:Int)-2).toNat]?=some (encU (g9 Xl (Xl.length-2)))) fl_ (fun p110 hp110=>?_)
       refine D.aa hp110 ?_
       refine D.int (((lead:Nat):Int)) rfl rfl rfl rfl (by rw [hlv,IntKind.wrap_u64];omega) rfl rfl ?_
       refine D.q8 1 0 3 4 5 9 10 11 12 hR ?_;clear hR R
       refine G.aw 0 mup (h_8 0 3 4 5 9 10 11 12) ⟨by omega,rfl,rfl⟩
      ·have hl1:Xl.length=W.length-1+1:=by
        have:¬ (W.length:Int)<(Xl.length:Int):=by simpa using h103
        omega
       have hlv:=lead_one hl1
       rw [hlead,show W.length-1=Xl.length-1 by omega] at hlv
       rw [<- hlv]
       refine G.aw 0 mup (h_8 0 3 4 5 9 10 11 12) ⟨by omega,rfl,rfl⟩
     ·obtain ⟨hll,rfl,rfl⟩:=hI
      obtain ⟨gq,hgq⟩:∃ gq,lead / g9 W (W.length-1)=gq:=⟨_,rfl⟩
      rw [hgq] at hgs
      have hgl:gq<=lead:=by rw [<- hgq];exact Nat.div_le_self _ _
      refine G.rp 2 fun R hR=>?_
      refine D.quoN (lead) (g9 W (W.length-1)) rfl rfl rfl rfl rfl rfl htop (.inr ⟨rfl,by omega⟩) rfl rfl ?_
      rw [hgq]
      refine D.min (((min gq 999999999:Nat):Int)) rfl rfl rfl rfl rfl rfl om_ rfl rfl ?_
      refine D.q8 1 0 3 4 5 9 10 11 12 hR ?_;clear hR R
      refine G.rg fun R hR=>?_
      refine D.aa (PtrTo.block (Mem.get hb3 mup) _) ?_
      refine D.ac ?_
      refine D.aP (small_n (k:=100001) _ (hnD.mono mup) hNfB om_ om_) rfl rfl rfl rfl rfl rfl rfl fl_ (fun v119 C119 hle119 hq119=>?_)
      refine D.q9 1 0 3 4 5 9 10 11 12 13 hR ?_;clear hR R
      refine G.loop (fun fr C' L' μ=>∃ (dd:Nat)(v13:Value),(X / (n*f)<=dd/\dd<B9/\NineC C' v13 (n*f*dd))/\fr=[(0,[],.slice PA P.length pc),(3,[],.pointer (some ⟨b3,0,none⟩)),(4,[],.pointer (some ⟨b4,0,none⟩)),(5,[],.slice XA Xl.length xc),(9,[],.int .u64 f),(10,[],.int .u64 (g9 W (W.length-1))),(11,[],.int .i64 (((j+1:Nat):Int)-1)),(12,[],.int .u64 (dd:Nat)),(13,[],v13)]/\L'=[.obj b4 (.cells ⟨[qU b67 P.length P.length]⟩ 207 (0,0)),.arr (qU b67 P.length P.length) 238 1 P.length (qs.map encU).flatten]/\μ=dd+1) (h_9 0 3 4 5 9 10 11 12 13) ⟨min gq 999999999,v119,⟨by have h:=Nat.le_min.2 ⟨hgs,(by omega:X / (n*f)<=999999999)⟩;exact h,by omega,hq119.mono mup⟩,rfl,rfl,rfl⟩ (fun fr C1' L1' m hle1 hI=>?_)
      obtain ⟨dd,v13,⟨hdd1,hdd2,hp13⟩,rfl,rfl,rfl⟩:=hI
      refine G.rp 2 fun R hR=>?_
      refine D.af (order_n _ (hp13.mono mup) (hXn.mono mup)) ?_
      refine D.q10 1 0 3 4 5 9 10 11 12 13 123 hR ?_;clear hR R
      refine G.cd (fun h123=>?_) fun h123=>?_
      ·have hgt:X<n*f*dd:=by
        have:0<ordZ (n*f*dd) X:=by simpa using h123
        exact ordZ_gt.1 this
       have hdd0:1<=dd:=by
        rcases Nat.eq_zero_or_pos dd with h | h
        ·rw [h] at hgt;omega
        ·exact h
       refine G.rp 1 fun R hR=>?_
       refine D.aa (PtrTo.block (Mem.get hb3 mup) _) ?_
       refine D.aP (minus_n (k:=100002) _ (hp13.mono mup) (hnD.mono mup) (bT (k:=100002) (n:=100001+1) (small_lt (k:=100001) hNfB hdd2) (Nat.le_refl _)) (Nat.le_mul_of_pos_right _ hdd0) om_) rfl rfl rfl rfl rfl rfl rfl fl_ (fun v126 C126 hle126 hq126=>?_)
       refine D.q9 1 0 3 4 5 9 10 11 12 13 hR ?_;clear hR R
       refine G.rp 1 fun R hR=>?_
       refine D.int (((dd-1:Nat):Int)) rfl rfl rfl rfl (by rw [IntKind.wrap_u64];omega) rfl rfl ?_
       refine D.q9 1 0 3 4 5 9 10 11 12 13 hR ?_;clear hR R
       rw [show n*f*dd-n*f=n*f*(dd-1) from by rw [Nat.mul_sub,Nat.mul_one]] at hq126
       refine G.ax (m':=dd-1+1) om_ mup (h_9 0 3 4 5 9 10 11 12 13) ⟨dd-1,v126,⟨by have h:=(Nat.div_lt_iff_lt_mul hNf).2 (by rw [Nat.mul_comm];exact hgt);omega,by omega,hq126.mono mup⟩,rfl,rfl,rfl⟩
      ·have hgt:n*f*dd<=X:=by
        have h:¬ 0<ordZ (n*f*dd) X:=by simpa using h123
        rw [ordZ_gt] at h
        omega
       have hdde:dd=X / (n*f):=Nat.le_antisymm ((Nat.le_div_iff_mul_le hNf).2 (by rw [Nat.mul_comm];exact hgt)) hdd1
       have hrest:X-n*f*dd=X % (n*f):=by rw [hdde];have:=Nat.mod_add_div X (n*f);omega
       refine G.aH [0,1,2,3,4,5,6,7,8] [] rfl kr_ (fun R hB hR=>?_)
       refine D.ae (.head _) ?_
       refine D.ps 4 ?_
       refine D.aP (minus_n (k:=100002) _ (hXn.mono mup) (hp13.mono mup) hXB hgt om_) rfl rfl rfl rfl rfl rfl rfl fl_ (fun v134 C134 hle134 hq134=>?_)
       refine D.ce (j*1) rfl rfl rfl rfl rfl rfl rfl rfl rfl rfl (fun _=>⟨by omega,by omega,(by rw [show (((j+1:Nat):Int)-1).toNat=j by omega])⟩) rfl rfl ?_
       refine D.bH (j:=1) rfl rfl rfl rfl rfl rfl rfl rfl rfl rfl rfl (by show j*1+1<=_;rw [el cN,hql];omega) ?_
       refine D.ac ?_
       refine D.e7 0 3 4 5 9 10 11 hR ?_;clear hR hB R
       refine G.rp 1 fun R hR=>?_
       refine D.am _ ?_
       refine D.q7 1 0 3 4 5 9 10 11 hR ?_;clear hR R
       rw [show ((j+1:Nat):Int)-1-1=(j:Int)-1 by omega]
       refine G.perm (L':=[.obj b4 (.cells ⟨[qU b67 P.length P.length]⟩ 207 (0,0)),.arr (qU b67 P.length P.length) 238 1 P.length (au (qs.map encU).flatten (encU dd) (j*1))]) (List.Perm.swap _ _ _) ?_
       refine G.aY (L':=[.obj b4 (.cells ⟨[qU b67 P.length P.length]⟩ 207 (0,0)),.arr (qU b67 P.length P.length) 238 1 P.length ((qs.set j dd).map encU).flatten]) (by rw [<- d9 cN _ (by omega:j<qs.length)]) ?_
       rw [hrest] at hq134
       refine G.ax (m':=j+1) om_ mup (h_7 0 3 4 5 9 10 11) ⟨j,qs.set j dd,v134,⟨by omega,by simp [hql],hqd.set hdd2,by rw [val9_set_drop om_,hqv,hPj,hdp.1,hdde];omega,by rw [hPj,hdp.2];exact hq134.mono mup,fun j' h=>by rw [g9_set_ne om_];exact hqz j' om_⟩,rfl,rfl,rfl⟩
   ·have hi0:i=0:=by
     have:¬ (0:Int)<=(i:Int)-1:=by simpa using h78
     omega
    subst hi0
    rw [List.drop_zero,List.drop_zero,hPv,Nat.mul_div_mul_right _ _ hf0] at hqv
    rw [List.drop_zero,hPv,Nat.mul_mod_mul_right] at hr5
    refine G.rp 2 fun R hR=>?_
    refine D.ah [encU f] (fun p139 C139 hle139 hs139=>?_)
    refine D.aP (divide1_fn _ _ _ (m % n*f) f (hr5.mono mup) (by
     have h1:=small_lt (k:=100000) (Nat.lt_trans (Nat.mod_lt m hn0) hnB) hfB
     exact bT (k:=200000) (n:=100000+1) h1 (by decide)) (hs139.mono mup) hf0 hfB) rfl rfl rfl rfl rfl rfl rfl fl_ (fun v140 C140 hle140 hq140=>?_)
    obtain ⟨q2,r2,rfl,hq2,hr2⟩:=hq140
    rw [Nat.mul_div_cancel _ hf0] at hq2
    refine D.q2 4 4 5 hR ?_;clear hR R
    refine G.perm (L':=[.arr (qU b67 P.length P.length) 238 1 P.length (qs.map encU).flatten,.obj b4 (.cells ⟨[qU b67 P.length P.length]⟩ 207 (0,0))]) (List.Perm.swap _ _ _) ?_
    refine G.aI [(1,3)] rfl (fun R hR=>?_)
    refine D.ae (.tail _ (.head _)) ?_
    refine D.call (d7 _ _ qs hql) rfl (.inr (by decide)) rfl rfl rfl rfl rfl rfl (List.Perm.refl _) fl_ (fun v144 C144 L144 hle144 hq144=>?_)
    refine D.ac ?_
    obtain ⟨rfl,hu⟩:=hq144
    obtain ⟨Au,cu,rfl,_⟩:=id hu
    refine D.ag (j:=0) ?_
    refine D.q2 1 4 5 hR ?_;clear hR R
    refine G.az (G.finR (res_ct (.head _) rfl rfl rfl rfl rfl) ?_ endsM)
    exact ⟨rfl,_,_,rfl,⟨cut9 qs,eG hqd,by rw [eF,hqv],hu⟩,hq2.mono mup⟩
theorem divide_fn (C:Mem)(va vb:Value)(m n:Nat)(ha:NineC C va m)(hb:NineC C vb n)(hm:m<B9 ^ 100000)(hn0:0<n) :
  Pur cx.P 117 [va,vb] C fun u D=>∃ q r,u=.tuple #[q,r]/\NineC D q (m / n)/\NineC D r (m % n):=by
 rcases Nat.lt_or_ge n B9 with hn1 | hn1
 ·obtain ⟨l,h1,h2,h3,h4⟩:=hb.get (m:=1) (by rw [Nat.pow_one];exact hn1)
  have hne:l≠[]:=fun e=>by rw [e] at h2;rw [<- h2] at hn0;exact absurd hn0 (by decide)
  obtain ⟨d,rfl⟩:∃ d,l=[d]:=by
   cases l with
   | nil=>exact absurd rfl hne
   | cons d l=>cases l with
    | nil=>exact ⟨d,rfl⟩
    | cons e l=>simp at h3
  have hd:d=n:=by rw [<- h2];show d=d+B9*0;omega
  subst hd
  exact divide1_fn C va vb m d ha (bT (k:=200000) (n:=100000) hm (by decide)) h4 hn0 hn1
 ·exact divideL_fn C va vb m n ha hb hm hn1

theorem hasPS_fn (C:Mem)(s:Str)(c:UInt8):Gives cx.P 143 [strV s,strV [c]] C (.bool (bq c s).2):=by
 refine Fn.it kr_ Tryz.func143 8 fun w0=>?_
 refine G.z2 1 0 1 ?_
 refine G.rp 2 fun R hR=>?_
 refine D.af (hasP_fn _ s c) ?_
 refine D.q1 1 4 hR ?_
 refine G.rf ?_
 exact ⟨rfl,rfl⟩
theorem trimPL_fn (C:Mem)(s:Str)(c:UInt8):Gives cx.P 144 [strV s,strV [c]] C (strV (bq c s).1):=by
 refine Fn.it kr_ Tryz.func144 13 fun w0=>?_
 refine G.z2 1 0 1 ?_
 refine G.rp 2 fun R hR=>?_
 refine D.af (hasP_fn _ s c) ?_
 refine D.e3 0 1 7 hR ?_
 refine G.cd (fun h7=>?_) fun h7=>?_
 ·have h:s.head?=some c:=Classical.byContradiction fun h=>by unfold bq at h7;rw [if_neg h] at h7;cases h7
  have hlen:1<=s.length:=by cases s with
   | nil=>cases h
   | cons b s=>simp
  refine G.rp 3 fun R hR=>?_
  refine D.bu 1 s.length rfl rfl rfl rfl rfl rfl rfl rfl rfl (fun _=>⟨.inr ⟨_,rfl⟩,.inl ⟨rfl,rfl⟩,.inl ⟨rfl,rfl⟩,by omega,Nat.le_refl _,Nat.le_refl _⟩) rfl rfl ?_
  refine D.q1 1 4 hR ?_
  refine G.rf ?_
  unfold bq
  rw [if_pos h]
  refine ⟨?_,rfl⟩
  rw [List.take_length,List.drop_one];rfl
 ·have h:¬ s.head?=some c:=fun h=>by unfold bq at h7;rw [if_pos h] at h7;cases h7
  refine G.z1 2 4 ?_
  refine G.rf ?_
  unfold bq
  rw [if_neg h]
  exact ⟨rfl,rfl⟩
theorem trimP_fn (C:Mem)(s:Str)(c:UInt8):Gives cx.P 113 [strV s,strV [c]] C (strV (bq c s).1):=by
 refine Fn.it kr_ Tryz.func113 8 fun w0=>?_
 refine G.z2 1 0 1 ?_
 refine G.rp 2 fun R hR=>?_
 refine D.af (trimPL_fn _ s c) ?_
 refine D.q1 1 4 hR ?_
 refine G.rf ?_
 exact ⟨rfl,rfl⟩
def sgnZ (z:Int):Int:=if z<0 then -1 else if z=0 then 0 else 1
theorem isign_fn (C:Mem)(z:Int):Gives cx.P 112 [strV (txt z)] C (.int .i64 (sgnZ z)):=by
 refine Fn.it kr_ Tryz.func112 9 fun w0=>?_
 refine G.z1 1 0 ?_
 skip
 refine G.z2 3 0 3 ?_
 refine G.cd (fun h3=>?_) fun h3=>?_
 ·have hz:z=0:=by
   have h:=txtEq0 z
   rw [h] at h3
   exact of_decide_eq_true h3
  refine G.z1 1 2 ?_
  refine G.rf ?_
  exact ⟨by rw [hz];rfl,rfl⟩
 ·have hz:z≠0:=by
   have h:=txtEq0 z
   rw [h] at h3
   exact of_decide_eq_false h3
  refine G.rp 1 fun R hR=>?_
  refine D.af (hasPS_fn _ (txt z) 45) ?_
  refine D.q1 1 6 hR ?_
  refine G.cd (fun h6=>?_) fun h6=>?_
  ·have hn:z<0:=by
    rw [bU] at h6
    exact of_decide_eq_true h6
   refine G.z1 1 2 ?_
   refine G.rf ?_
   exact ⟨by rw [sgnZ,if_pos hn],rfl⟩
  ·have hn:¬ z<0:=by
    rw [bU] at h6
    exact of_decide_eq_false h6
   refine G.z1 1 2 ?_
   refine G.rf ?_
   exact ⟨by rw [sgnZ,if_neg hn,if_neg hz],rfl⟩
theorem iof_fn (C:Mem)(hT:Tabs C)(z:Int)(h0:-9223372036854775808<=z)(h1:z<=9223372036854775807):Gives cx.P 84 [.int .i64 z] C (strV (txt z)):=by
 refine Fn.it kr_ Tryz.func84 5 fun w0=>?_
 refine G.z1 1 0 ?_
 refine G.rp 1 fun R hR=>?_
 refine D.af (itoaZ_g _ (hT.mono mup) z h0 h1) ?_
 refine D.q1 1 2 hR ?_
 refine G.rf ?_
 exact ⟨rfl,rfl⟩
theorem txt_len (z:Int):(txt z).length<=(decS z.natAbs).length+1:=by unfold txt;split <;> simp
theorem ineg_fn (C:Mem)(z:Int)(hl:(decS z.natAbs).length<=1000000):Gives cx.P 107 [strV (txt z)] C (strV (txt (-z))):=by
 have htl:=txt_len z
 refine Fn.it kr_ Tryz.func107 14 fun w0=>?_
 refine G.z1 1 0 ?_
 refine G.rp 1 fun R hR=>?_
 refine D.af (isign_fn _ z) ?_
 refine D.e2 0 4 hR ?_
 refine G.z3 2 0 4 5 ?_
 refine G.cd (fun h5=>?_) fun h5=>?_
 ·have hz:0<z:=by
   have h:sgnZ z=1:=by simpa using h5
   unfold sgnZ at h
   split at h
   ·cases h
   ·split at h
    ·cases h
    ·omega
  refine G.rp 1 fun R hR=>?_
  refine D.cg rfl rfl rfl rfl rfl rfl (fun _=>(by simp only [List.length_cons,List.length_nil];omega)) rfl rfl ?_
  refine D.q1 1 2 hR ?_
  refine G.rf ?_
  refine ⟨?_,rfl⟩
  unfold txt
  rw [if_neg om_,if_pos om_,Int.natAbs_neg];rfl
 ·have hz:¬ 0<z:=fun h=>by
   have h2:sgnZ z=1:=by unfold sgnZ;rw [if_neg om_,if_neg om_]
   rw [h2] at h5;cases h5
  refine G.z2 2 0 9 ?_
  refine G.cd (fun h9=>?_) fun h9=>?_
  ·have hz2:z<0:=by
    have h:sgnZ z=-1:=by simpa using h9
    unfold sgnZ at h
    split at h
    ·assumption
    ·split at h <;> cases h
   refine G.rp 1 fun R hR=>?_
   refine D.bu 1 (txt z).length rfl rfl rfl rfl rfl rfl rfl rfl rfl (fun _=>⟨.inr ⟨_,rfl⟩,.inl ⟨rfl,rfl⟩,.inl ⟨rfl,rfl⟩,(by unfold txt;rw [if_pos hz2];simp),Nat.le_refl _,Nat.le_refl _⟩) rfl rfl ?_
   refine D.q1 1 2 hR ?_
   refine G.rf ?_
   refine ⟨?_,rfl⟩
   rw [List.take_length]
   unfold txt
   rw [if_pos hz2,if_neg om_,Int.natAbs_neg];rfl
  ·have hz2:¬ z<0:=fun h=>by
    have h2:sgnZ z=-1:=by unfold sgnZ;rw [if_pos h]
    rw [h2] at h9;cases h9
   refine G.z1 2 2 ?_
   refine G.rf ?_
   refine ⟨?_,rfl⟩
   rw [show z=0 by omega];rfl
theorem cmp_dig:∀ {s t:Str},(∀ c∈s,digB c=true)->(∀ c∈t,digB c=true)->s.length=t.length->Lib.compareBytes s t=ordZ (decV s) (decV t)
 | [],[],_,_,_=>rfl
 | [],_::_,_,_,h=>by simp at h
 | _::_,[],_,_,h=>by simp at h
 | c::s,d::t,hs,ht,hl=>by
  have hl2:s.length=t.length:=by simpa using hl
  have hs2:∀ x∈s,digB x=true:=fun x hx=>hs x (by simp [hx])
  have ht2:∀ x∈t,digB x=true:=fun x hx=>ht x (by simp [hx])
  have ih:=cmp_dig hs2 ht2 hl2
  have h1:=co hs2
  have h2:=co ht2
  have hc:=hs c (by simp)
  have hd:=ht d (by simp)
  simp only [digB,decide_eq_true_eq] at hc hd
  rw [bV,bV,hl2]
  rw [hl2] at h1
  simp only [Lib.compareBytes]
  obtain ⟨p,hp⟩:∃ p,10 ^ t.length=p:=⟨_,rfl⟩
  rw [hp] at h1 h2 ⊢
  by_cases hlt:c<d
  ·rw [if_pos hlt]
   have hlt2:c.toNat<d.toNat:=hlt
   have h3:(c.toNat-48+1)*p<=(d.toNat-48)*p:=Nat.mul_le_mul_right _ om_
   rw [Nat.add_mul] at h3
   unfold ordZ
   rw [if_pos om_]
  ·rw [if_neg hlt]
   by_cases hgt:d<c
   ·rw [if_pos hgt]
    have hgt2:d.toNat<c.toNat:=hgt
    have h3:(d.toNat-48+1)*p<=(c.toNat-48)*p:=Nat.mul_le_mul_right _ om_
    rw [Nat.add_mul] at h3
    unfold ordZ
    rw [if_neg om_,if_pos om_]
   ·rw [if_neg hgt,ih]
    have hcd:c.toNat=d.toNat:=by
     have h3:¬ c.toNat<d.toNat:=hlt
     have h4:¬ d.toNat<c.toNat:=hgt
     omega
    rw [hcd]
    unfold ordZ
    split <;> rename_i h5
    ·rw [if_pos om_]
    ·split <;> rename_i h6
     ·rw [if_neg om_,if_pos om_]
     ·rw [if_neg om_,if_neg om_]
theorem decS_len_lt {a b:Nat}(h:(decS a).length<(decS b).length):a<b:=by
 obtain ⟨h1,h2⟩:=aO a
 obtain ⟨h3,h4⟩:=aO b
 have ha:=List.length_pos_iff.2 h1.2.1
 have h5:=co h1.1
 have h6:=canS_low h3 om_
 have h7:10 ^ (decS a).length<=10 ^ ((decS b).length-1):=Nat.pow_le_pow_right (by decide) om_
 omega
theorem cmp_dec {a b:Nat}(h:(decS a).length=(decS b).length):Lib.compareBytes (decS a) (decS b)=ordZ a b:=by
 obtain ⟨h1,h2⟩:=aO a
 obtain ⟨h3,h4⟩:=aO b
 rw [cmp_dig h1.1 h3.1 h,h2,h4]
def cmpZ (z w:Int):Int:=if z<w then -1 else if w<z then 1 else 0
theorem cH (z:Int):(z<0/\sgnZ z=-1)∨(z=0/\sgnZ z=0)∨(0<z/\sgnZ z=1):=by
 unfold sgnZ
 split
 ·exact .inl ⟨by assumption,rfl⟩
 ·split
  ·exact .inr (.inl ⟨by assumption,rfl⟩)
  ·exact .inr (.inr ⟨by omega,rfl⟩)
theorem cmp_sgn {z w:Int}(h:sgnZ z=sgnZ w):cmpZ z w=sgnZ z*ordZ z.natAbs w.natAbs:=by
 have hw:=cH w
 rw [<- h] at hw
 unfold cmpZ ordZ
 rcases cH z with ⟨h1,h2⟩ | ⟨h1,h2⟩ | ⟨h1,h2⟩ <;> rw [h2] at hw ⊢
 ·have h3:w<0:=by omega
  split <;> split <;> (try split) <;> omega
 ·have h3:w=0:=by omega
  subst h1 h3
  simp
 ·have h3:0<w:=by omega
  split <;> split <;> (try split) <;> omega
theorem sgn_wrap (z:Int):IntKind.i64.wrap (-(sgnZ z))=-(sgnZ z):=by
 rcases cH z with ⟨h1,h2⟩ | ⟨h1,h2⟩ | ⟨h1,h2⟩ <;> rw [h2] <;> rfl
theorem strCmp_fn (C:Mem)(a b:Str):Gives cx.P 114 [strV a,strV b] C (.int .i64 (Lib.compareBytes a b)):=scompare_fn Tryz.scmp a b C kr_
theorem icompare_fn (C:Mem)(z w:Int)(_hz:(decS z.natAbs).length<=1000000)(_hw:(decS w.natAbs).length<=1000000):Gives cx.P 75 [strV (txt z),strV (txt w)] C (.int .i64 (cmpZ z w)):=by
 have ez:(bq 45 (txt z)).1=decS z.natAbs:=by rw [bU]
 have ew:(bq 45 (txt w)).1=decS w.natAbs:=by rw [bU]
 refine Fn.it kr_ Tryz.func75 41 fun w0=>?_
 refine G.z2 1 0 1 ?_
 refine G.rp 1 fun R hR=>?_
 refine D.af (isign_fn _ z) ?_
 refine D.ac ?_
 refine D.af (isign_fn _ w) ?_
 refine D.q4 2 0 1 5 6 hR ?_
 refine G.z5 3 0 1 5 6 15 ?_
 refine G.cd (fun h15=>?_) fun h15=>?_
 ·have hne:sgnZ z≠sgnZ w:=by simpa using h15
  refine G.z1 3 18 ?_
  refine G.cd (fun h18=>?_) fun h18=>?_
  ·have hlt:sgnZ z<sgnZ w:=by simpa using h18
   refine G.z1 1 4 ?_
   refine G.rf ?_
   refine ⟨?_,rfl⟩
   rw [cmpZ,if_pos (by unfold sgnZ at hlt;split at hlt <;> split at hlt <;> (try split at hlt) <;> omega)]
  ·have hlt:¬ sgnZ z<sgnZ w:=by simpa using h18
   refine G.z1 1 4 ?_
   refine G.rf ?_
   refine ⟨?_,rfl⟩
   have h:w<z:=by
    have h2:sgnZ w<sgnZ z:=by omega
    unfold sgnZ at h2;split at h2 <;> split at h2 <;> (try split at h2) <;> omega
   rw [cmpZ,if_neg om_,if_pos h]
 ·have hse:sgnZ z=sgnZ w:=by simpa using h15
  refine G.rp 1 fun R hR=>?_
  refine D.af (trimP_fn _ (txt z) 45) ?_
  refine D.ac ?_
  refine D.af (trimP_fn _ (txt w) 45) ?_
  rw [ez,ew]
  refine D.q3 2 5 7 8 hR ?_
  refine G.z4 5 5 7 8 27 ?_
  refine G.cd (fun h27=>?_) fun h27=>?_
  ·have hne:(decS z.natAbs).length≠(decS w.natAbs).length:=fun e=>by
    have h:(((decS z.natAbs).length:Nat):Int)≠(((decS w.natAbs).length:Nat):Int):=by simpa using h27
    exact h (by rw [e])
   refine G.z2 5 5 32 ?_
   refine G.cd (fun h32=>?_) fun h32=>?_
   ·have hlt:z.natAbs<w.natAbs:=decS_len_lt (by
     have h:(((decS z.natAbs).length:Nat):Int)<(((decS w.natAbs).length:Nat):Int):=by simpa using h32
     omega)
    refine G.z1 3 4 ?_
    refine G.rf ?_
    refine ⟨?_,rfl⟩
    rw [Int.zero_sub,sgn_wrap,cmp_sgn hse,show ordZ z.natAbs w.natAbs=-1 from if_pos hlt]
    congr 1;omega
   ·have hlt:w.natAbs<z.natAbs:=decS_len_lt (by
     have h:¬ (((decS z.natAbs).length:Nat):Int)<(((decS w.natAbs).length:Nat):Int):=by simpa using h32
     omega)
    refine G.z1 2 4 ?_
    refine G.rf ?_
    refine ⟨?_,rfl⟩
    rw [cmp_sgn hse,show ordZ z.natAbs w.natAbs=1 from by unfold ordZ;rw [if_neg om_,if_pos hlt]]
    congr 1;omega
  ·have heq:(decS z.natAbs).length=(decS w.natAbs).length:=by
    have h:(((decS z.natAbs).length:Nat):Int)=(((decS w.natAbs).length:Nat):Int):=by simpa using h27
    omega
   refine G.rp 3 fun R hR=>?_
   refine D.af (strCmp_fn _ (decS z.natAbs) (decS w.natAbs)) ?_
   rw [cmp_dec heq]
   refine D.cG ((cmpZ z w)) rfl rfl rfl rfl (by rw [cmp_sgn hse]) (by unfold cmpZ;split <;> (try split) <;> omega) (by unfold cmpZ;split <;> (try split) <;> omega) rfl rfl ?_
   refine D.q1 1 4 hR ?_
   refine G.rf ?_
   exact ⟨rfl,rfl⟩

def chkZ (b:Bool):Int:=if b then 0 else 2
theorem icheck_fn (C:Mem)(s:Str):Gives cx.P 74 [strV s] C (.int .i64 (chkZ (bj s))):=by
 obtain ⟨t,neg,hdp⟩:∃ t b,bq 45 s=(t,b):=⟨_,_,rfl⟩
 have hcb:bj s=(t.all digB && !(t == []) && !(t.head? == some 48 && (neg || decide (1<t.length))) && decide (t.length<=200)):=by unfold bj canonB;rw [hdp]
 refine Fn.it kr_ Tryz.func74 47 fun w0=>?_
 refine G.z1 1 0 ?_
 refine G.rp 1 fun R hR=>?_
 refine D.ai (by have h:=cutP_fn C s 45;rw [hdp] at h;exact h) rfl rfl rfl rfl rfl rfl rfl fl_ ?_
 refine D.q2 5 3 4 hR ?_
 refine G.rp 6 fun R hR=>?_
 refine D.aF rfl rfl rfl rfl rfl rfl rfl rfl ?_
 refine D.ps 2 ?_
 refine D.bf (b:=t.headD 0) rfl rfl rfl rfl rfl rfl rfl rfl (fun hg=>⟨by omega,(by
  cases t with
  | nil=>exact Bool.noConfusion (show true=false from hg.1)
  | cons b t=>rfl)⟩) rfl rfl ?_
 refine D.ps 7 ?_
 refine D.aF rfl rfl rfl rfl rfl rfl rfl rfl ?_
 refine D.aq ?_
 refine D.aF rfl rfl rfl rfl rfl rfl rfl rfl ?_
 refine D.e2 3 30 hR ?_
 refine G.cd (fun h30=>?_) fun h30=>?_
 ·have hno:bj s=false:=by
   rw [hcb]
   cases t with
   | nil=>simp
   | cons b t =>
    simp at h30
    rcases h30 with h | ⟨h,h2⟩
    ·simp;intro _ _;omega
    ·have hb:b=48:=UInt8.toNat_inj.1 (by show b.toNat=48;omega)
     subst hb
     have h6:(neg || decide (1<((48:UInt8)::t).length))=true:=by
      rcases h2 with h2 | h2
      ·rw [decide_eq_true (by simp;omega)];simp
      ·rw [h2];rfl
     rw [h6];simp
  refine G.z1 1 2 ?_
  refine G.rf ?_
  exact ⟨by rw [hno];rfl,rfl⟩
 ·have hlen:t.length<=200:=by
   simp at h30
   omega
  refine G.z3 3 3 32 33 ?_
  refine G.loop (fun fr C' L' μ=>∃ (i:Nat),(i<=t.length/\∀ c∈t.take i,digB c=true)/\fr=[(3,[],strV t),(32,[],.int .i64 t.length),(33,[],.int .i64 i)]/\L'=[]/\μ=t.length-i) (h_3 3 32 33) ⟨0,⟨Nat.zero_le _,by simp⟩,rfl,rfl,rfl⟩ (fun fr C0' L0' m hle0 hI=>?_)
  obtain ⟨i,⟨hi,hdig⟩,rfl,rfl,rfl⟩:=hI
  refine G.z4 1 3 32 33 34 ?_
  refine G.cd (fun h34=>?_) fun h34=>?_
  ·have hil:i<t.length:=by simpa using h34
   obtain ⟨c,hc⟩:∃ c,t[i]?=some c:=⟨t[i],List.getElem?_eq_getElem hil⟩
   refine G.z4 2 3 5 32 33 ?_
   refine G.rp 2 fun R hR=>?_
   refine D.bf rfl rfl rfl rfl rfl rfl rfl rfl (fun _=>⟨by omega,hc⟩) rfl rfl ?_
   refine D.ps 4 ?_
   refine D.bf rfl rfl rfl rfl rfl rfl rfl rfl (fun _=>⟨by omega,hc⟩) rfl rfl ?_
   refine D.ac ?_
   refine D.aF rfl rfl rfl rfl rfl rfl rfl rfl ?_
   refine D.e4 3 32 33 45 hR ?_
   refine G.cd (fun h45=>?_) fun h45=>?_
   ·have hno:bj s=false:=by
     have h1:t.all digB=false:=by
      rw [List.all_eq_false]
      refine ⟨c,List.mem_of_getElem? hc, ?_⟩
      simp at h45
      unfold digB
      simp
      omega
     rw [hcb,h1];rfl
    refine G.z1 1 2 ?_
    refine G.rf ?_
    exact ⟨by rw [hno];rfl,rfl⟩
   ·have hcd:digB c=true:=by
     simp at h45
     unfold digB
     simp
     omega
    refine G.rg fun R hR=>?_
    refine D.am _ ?_
    refine D.q3 1 3 32 33 hR ?_
    refine G.ax (m':=t.length-(i+1)) om_ mup (h_3 3 32 33) ⟨i+1,⟨by omega,fun x hx=>by
     rw [List.take_add_one,hc] at hx
     rcases List.mem_append.1 hx with h | h
     ·exact hdig x h
     ·simp at h;subst h;exact hcd⟩,rfl,rfl,rfl⟩
  ·have hil:t.length<=i:=by
    have:¬ i<t.length:=by simpa using h34
    omega
   rw [List.take_of_length_le hil] at hdig
   have hall:t.all digB=true:=List.all_eq_true.2 hdig
   have hyes:bj s=true:=by
    rw [hcb,hall,decide_eq_true hlen]
    cases t with
    | nil=>simp at h30
    | cons b t =>
     simp at h30
     simp
     by_cases hb:b=48
     ·subst hb
      have h5:=h30.2
      simp at h5
      exact .inr ⟨h5.2,List.eq_nil_of_length_eq_zero om_⟩
     ·exact .inl hb
   refine G.z1 1 2 ?_
   refine G.rf ?_
   exact ⟨by rw [hyes];rfl,rfl⟩

theorem a8 {n k:Nat}(h:n<B9 ^ k)(hk:0<k):(decS n).length<=9*k:=cO (by rw [pow_B9];exact h) om_
theorem abs18 {z:Int}{m:Nat}(h:(txt z).length<=m):z.natAbs<10 ^ m:=by
 have h1:(decS z.natAbs).length<=m:=by
  unfold txt at h
  split at h
  ·simp at h;omega
  ·exact h
 obtain ⟨h2,h3⟩:=aO z.natAbs
 have h4:=co h2.1
 rw [h3] at h4
 exact Nat.lt_of_lt_of_le h4 (Nat.pow_le_pow_right (by decide) h1)
theorem e18:(10:Nat) ^ 18=1000000000000000000:=by decide
theorem e9:(10:Nat) ^ 9=1000000000:=by decide
theorem sum_lt9 {a b k:Nat}(ha:a<B9 ^ k)(hb:b<B9 ^ k):a+b<B9 ^ (k+1):=by
 rw [Nat.pow_succ]
 have:B9 ^ k*2<=B9 ^ k*B9:=Nat.mul_le_mul_left _ (by decide)
 omega
theorem iadd_fn (C:Mem)(hT:Tabs C)(z w:Int)(k:Nat)(hk0:0<k)(hk:k<=40000)(hz:z.natAbs<B9 ^ k)(hw:w.natAbs<B9 ^ k):Gives cx.P 121 [strV (txt z),strV (txt w)] C (strV (txt (z+w))):=by
 have hzl:=a8 hz hk0
 have hwl:=a8 hw hk0
 refine Fn.it kr_ Tryz.func121 62 fun w0=>?_
 refine G.z2 1 0 1 ?_
 refine G.rp 1 fun R hR=>?_
 refine D.af (quick_fn _ z 18 (Nat.le_refl _)) ?_
 refine D.q4 5 0 1 5 6 hR ?_
 refine G.z4 1 0 1 5 16 ?_
 refine G.cut (fun fr C' L' μ=>(True)/\fr=[(0,[],strV (txt z)),(1,[],strV (txt w))]/\L'=[]) ?_ (fun fr C16 L16 μ hle16 hI=>?_)
 ·refine G.cd (fun h16=>?_) fun h16=>?_
  ·have hz18:=of_decide_eq_true h16
   rw [if_pos hz18]
   have hza:=abs18 hz18
   rw [e18] at hza
   refine G.rp 1 fun R hR=>?_
   refine D.af (quick_fn _ w 18 (Nat.le_refl _)) ?_
   refine D.q5 5 0 1 5 7 8 hR ?_
   refine G.z5 1 0 1 5 7 22 ?_
   refine G.cd (fun h22=>?_) fun h22=>?_
   ·have hw18:=of_decide_eq_true h22
    rw [if_pos hw18]
    have hwa:=abs18 hw18
    rw [e18] at hwa
    refine G.rp 2 fun R hR=>?_
    refine D.am _ ?_
    refine D.ai (iof_fn _ (hT.mono mup) (z+w) om_ om_) rfl rfl rfl rfl rfl rfl rfl fl_ ?_
    refine D.q1 1 4 hR ?_
    refine G.rf ?_
    exact ⟨rfl,rfl⟩
   ·refine G.aw 0 (Mem.le.refl _) (h_2 0 1) ⟨trivial,rfl,rfl⟩
  ·refine G.aw 0 (Mem.le.refl _) (h_2 0 1) ⟨trivial,rfl,rfl⟩
 ·obtain ⟨_,rfl,rfl⟩:=hI
  refine G.rp 1 fun R hR=>?_
  refine D.aP (open_fn _ z om_) rfl rfl rfl rfl rfl rfl rfl fl_ (fun v28 C28 hle28 hq28=>?_)
  refine D.ac ?_
  refine D.aP (open_fn _ w om_) rfl rfl rfl rfl rfl rfl rfl fl_ (fun v30 C30 hle30 hq30=>?_)
  refine D.aj (fun b9=>?_)
  refine D.aj (fun b10=>?_)
  obtain ⟨pz,rfl,hpz⟩:=hq28
  obtain ⟨pw,rfl,hpw⟩:=hq30
  obtain ⟨Az,mz,cz,rfl⟩:=hpz.form
  obtain ⟨Aw,mw,cw,rfl⟩:=hpw.form
  refine D.ag (j:=1) ?_
  refine D.ag (j:=1) ?_
  refine D.e2 9 10 hR ?_
  refine G.rp 1 fun R hR=>?_
  refine D.ae (.tail _ (.head _)) ?_
  refine D.ac ?_
  refine D.ae (.head _) ?_
  refine D.q3 1 9 10 35 hR ?_
  refine G.cd (fun h35=>?_) fun h35=>?_
  ·have hsg:decide (z<0)=decide (w<0):=by simpa using h35
   refine G.aH [0,1,2,3,4,5,6,7,8,9] [(8,1)] rfl kr_ (fun R hB hR=>?_)
   refine D.ac ?_
   refine D.ae (.tail _ (.head _)) ?_
   refine D.ac ?_
   refine D.ae (.tail _ (.head _)) ?_
   refine D.ac ?_
   refine D.ae (.head _) ?_
   refine D.aP (plus_n (k:=k) _ (hpz.mono mup) (hpw.mono mup) hz hw om_) rfl rfl rfl rfl rfl rfl rfl fl_ (fun v42 C42 hle42 hq42=>?_)
   obtain ⟨Ap,mp,cp,rfl⟩:=hq42.form
   refine D.ak [.bool (decide (z<0)),_] ?_
   refine D.aC (fun _=>(close_fn _ (hT.mono mup) _ _ _ hq42 (bT (k:=100000) (n:=k+1) (sum_lt9 hz hw) om_))) rfl rfl rfl rfl rfl rfl rfl rfl rfl ?_
   refine D.q1 1 4 hR ?_
   refine G.rf ?_
   exact ⟨by rw [sg_same hsg],rfl⟩
  ·have hsg:decide (z<0)≠decide (w<0):=by simpa using h35
   refine G.rp 1 fun R hR=>?_
   refine D.ae (.tail _ (.head _)) ?_
   refine D.ac ?_
   refine D.ae (.head _) ?_
   refine D.af (order_n _ (hpz.mono mup) (hpw.mono mup)) ?_
   refine D.q3 1 9 10 50 hR ?_
   refine G.cut (fun fr C' L' μ=>∃ (z2 w2:Int)(v2 u2:Value),(NineC C' v2 z2.natAbs/\NineC C' u2 w2.natAbs/\w2.natAbs<=z2.natAbs/\z2+w2=z+w/\decide (z2<0)≠decide (w2<0)/\z2.natAbs<B9 ^ k)/\fr=[(9,[],.pointer (some ⟨b9,0,none⟩)),(10,[],.pointer (some ⟨b10,0,none⟩))]/\L'=[.obj b10 (.cells ⟨[.bool (decide (w2<0)),u2]⟩ 209 (0,0)),.obj b9 (.cells ⟨[.bool (decide (z2<0)),v2]⟩ 209 (0,0))]) ?_ (fun fr C50 L50 μ hle50 hI=>?_)
   ·refine G.cd (fun h50=>?_) fun h50=>?_
    ·have hlt:z.natAbs<w.natAbs:=by
      have:ordZ z.natAbs w.natAbs<0:=by simpa using h50
      exact ordZ_lt.1 this
     refine G.rg fun R hR=>?_
     refine D.ae (.head _) ?_
     refine D.ae (.tail _ (.head _)) ?_
     refine D.ag (j:=1) ?_
     refine D.ag (j:=1) ?_
     refine D.e2 9 10 hR ?_
     refine G.aw 0 mup (h_2 9 10) ⟨w,z,_,_,⟨hpw.mono mup,hpz.mono mup,by omega,Int.add_comm w z,Ne.symm hsg,hw⟩,rfl,rfl⟩
    ·have hlt:w.natAbs<=z.natAbs:=by
      have h:¬ ordZ z.natAbs w.natAbs<0:=by simpa using h50
      rw [ordZ_lt] at h
      omega
     refine G.aw 0 mup (h_2 9 10) ⟨z,w,_,_,⟨hpz.mono mup,hpw.mono mup,hlt,rfl,hsg,hz⟩,rfl,rfl⟩
   ·obtain ⟨z2 ,w2 ,v2 ,u2,⟨hv2,hu2,hle2,hsum2,hsg2,hz2⟩,rfl,rfl⟩:=hI
    obtain ⟨Az2,mz2,cz2,rfl⟩:=hv2.form
    obtain ⟨Aw2,mw2,cw2,rfl⟩:=hu2.form
    refine G.aH [0,1,2,3,4,5,6,7,8,9] [(8,1)] rfl kr_ (fun R hB hR=>?_)
    refine D.ac ?_
    refine D.ae (.tail _ (.head _)) ?_
    refine D.ac ?_
    refine D.ae (.tail _ (.head _)) ?_
    refine D.ac ?_
    refine D.ae (.head _) ?_
    refine D.aP (minus_n (k:=k) _ (hv2.mono mup) (hu2.mono mup) hz2 hle2 om_) rfl rfl rfl rfl rfl rfl rfl fl_ (fun v59 C59 hle59 hq59=>?_)
    obtain ⟨Ap,mp,cp,rfl⟩:=hq59.form
    refine D.ak [.bool (decide (z2<0)),_] ?_
    refine D.aC (fun _=>(close_fn _ (hT.mono mup) _ _ _ hq59 (bT (k:=100000) (n:=k) om_ om_))) rfl rfl rfl rfl rfl rfl rfl rfl rfl ?_
    refine D.q1 1 4 hR ?_
    refine G.rf ?_
    exact ⟨by rw [sg_more hsg2 om_,hsum2],rfl⟩
theorem sgZ_mul (z w:Int):sgZ (decide (z<0) != decide (w<0)) (z.natAbs*w.natAbs)=z*w:=by
 unfold sgZ
 have h1:z=if z<0 then -(z.natAbs:Int) else (z.natAbs:Int):=by split <;> omega
 have h2:w=if w<0 then -(w.natAbs:Int) else (w.natAbs:Int):=by split <;> omega
 by_cases hz:z<0 <;> by_cases hw:w<0
 ·rw [decide_eq_true hz,decide_eq_true hw,if_neg (by decide)]
  rw [if_pos hz] at h1;rw [if_pos hw] at h2
  rw [Int.natCast_mul]
  conv=>rhs;rw [h1,h2]
  rw [Int.neg_mul_neg]
 ·rw [decide_eq_true hz,decide_eq_false hw,if_pos (by decide)]
  rw [if_pos hz] at h1;rw [if_neg hw] at h2
  rw [Int.natCast_mul]
  conv=>rhs;rw [h1,h2]
  rw [Int.neg_mul]
 ·rw [decide_eq_false hz,decide_eq_true hw,if_pos (by decide)]
  rw [if_neg hz] at h1;rw [if_pos hw] at h2
  rw [Int.natCast_mul]
  conv=>rhs;rw [h1,h2]
  rw [Int.mul_neg]
 ·rw [decide_eq_false hz,decide_eq_false hw,if_neg (by decide)]
  rw [if_neg hz] at h1;rw [if_neg hw] at h2
  rw [Int.natCast_mul]
  conv=>rhs;rw [h1,h2]
theorem prod_lt9 {a b k:Nat}(ha:a<B9 ^ k)(hb:b<B9 ^ k):a*b<B9 ^ (k+k):=by
 rw [Nat.pow_add];exact Nat.mul_lt_mul'' ha hb
theorem prod18 {z w:Int}(hz:z.natAbs<1000000000)(hw:w.natAbs<1000000000):-1000000000000000000<z*w/\z*w<1000000000000000000:=by
 have h:z.natAbs*w.natAbs<=999999999*999999999:=Nat.mul_le_mul om_ om_
 rw [<- Int.natAbs_mul] at h
 omega
theorem imul_fn (C:Mem)(hT:Tabs C)(z w:Int)(k:Nat)(hk0:0<k)(hk:k<=40000)(hz:z.natAbs<B9 ^ k)(hw:w.natAbs<B9 ^ k):Gives cx.P 97 [strV (txt z),strV (txt w)] C (strV (txt (z*w))):=by
 have hzl:=a8 hz hk0
 have hwl:=a8 hw hk0
 refine Fn.it kr_ Tryz.func97 43 fun w0=>?_
 refine G.z2 1 0 1 ?_
 refine G.rp 1 fun R hR=>?_
 refine D.ai (quick_fn _ z 9 om_) rfl rfl rfl rfl rfl rfl rfl fl_ ?_
 refine D.q4 5 0 1 5 6 hR ?_
 refine G.z4 1 0 1 5 16 ?_
 refine G.cut (fun fr C' L' μ=>(True)/\fr=[(0,[],strV (txt z)),(1,[],strV (txt w))]/\L'=[]) ?_ (fun fr C16 L16 μ hle16 hI=>?_)
 ·refine G.cd (fun h16=>?_) fun h16=>?_
  ·have hz18:=of_decide_eq_true h16
   rw [if_pos hz18]
   have hza:=abs18 hz18
   rw [e9] at hza
   refine G.rp 1 fun R hR=>?_
   refine D.ai (quick_fn _ w 9 om_) rfl rfl rfl rfl rfl rfl rfl fl_ ?_
   refine D.q5 5 0 1 5 7 8 hR ?_
   refine G.z5 1 0 1 5 7 22 ?_
   refine G.cd (fun h22=>?_) fun h22=>?_
   ·have hw18:=of_decide_eq_true h22
    rw [if_pos hw18]
    have hwa:=abs18 hw18
    rw [e9] at hwa
    have hpr:=prod18 hza hwa
    refine G.rp 2 fun R hR=>?_
    refine D.cG ((z*w)) rfl rfl rfl rfl om_ om_ om_ rfl rfl ?_
    refine D.ai (iof_fn _ (hT.mono mup) (z*w) om_ om_) rfl rfl rfl rfl rfl rfl rfl fl_ ?_
    refine D.q1 1 4 hR ?_
    refine G.rf ?_
    exact ⟨rfl,rfl⟩
   ·refine G.aw 0 (Mem.le.refl _) (h_2 0 1) ⟨trivial,rfl,rfl⟩
  ·refine G.aw 0 (Mem.le.refl _) (h_2 0 1) ⟨trivial,rfl,rfl⟩
 ·obtain ⟨_,rfl,rfl⟩:=hI
  refine G.rp 1 fun R hR=>?_
  refine D.aP (open_fn _ z om_) rfl rfl rfl rfl rfl rfl rfl fl_ (fun v28 C28 hle28 hq28=>?_)
  refine D.ac ?_
  refine D.aP (open_fn _ w om_) rfl rfl rfl rfl rfl rfl rfl fl_ (fun v30 C30 hle30 hq30=>?_)
  refine D.aj (fun b9=>?_)
  refine D.aj (fun b10=>?_)
  obtain ⟨pz,rfl,hpz⟩:=hq28
  obtain ⟨pw,rfl,hpw⟩:=hq30
  obtain ⟨Az,mz,cz,rfl⟩:=hpz.form
  obtain ⟨Aw,mw,cw,rfl⟩:=hpw.form
  refine D.ag (j:=1) ?_
  refine D.ag (j:=1) ?_
  refine D.e2 9 10 hR ?_
  refine G.aH [0,1,2,3,4,5,6,7,8,9,10,11,12] [(11,1)] rfl kr_ (fun R hB hR=>?_)
  refine D.ac ?_
  refine D.ae (.tail _ (.head _)) ?_
  refine D.ac ?_
  refine D.ae (.head _) ?_
  refine D.ps 2 ?_
  refine D.ae (.tail _ (.head _)) ?_
  refine D.ac ?_
  refine D.ae (.head _) ?_
  refine D.aP (times_n (k:=k) _ (hpz.mono mup) (hpw.mono mup) hz hw om_) rfl rfl rfl rfl rfl rfl rfl fl_ (fun v40 C40 hle40 hq40=>?_)
  obtain ⟨Ap,mp,cp,rfl⟩:=hq40.form
  refine D.ak [.bool (decide (z<0) != decide (w<0)),_] ?_
  refine D.aC (fun _=>(close_fn _ (hT.mono mup) _ _ _ hq40 (bT (k:=100000) (n:=k+k) (prod_lt9 hz hw) om_))) rfl rfl rfl rfl rfl rfl rfl rfl rfl ?_
  refine D.q1 1 4 hR ?_
  refine G.rf ?_
  exact ⟨by rw [sgZ_mul],rfl⟩

def divQ (z w:Int):Nat:=if z<0/\z.natAbs % w.natAbs≠0 then z.natAbs / w.natAbs+1 else z.natAbs / w.natAbs
def divR (z w:Int):Nat:=if z<0/\z.natAbs % w.natAbs≠0 then w.natAbs-z.natAbs % w.natAbs else z.natAbs % w.natAbs
theorem div_mod {z w:Int}(hw:0<w):sgZ (decide (z<0) != decide (w<0)) (divQ z w)=z / w/\(divR z w:Int)=z % w:=by
 obtain ⟨n,rfl⟩:∃ n:Nat,w=n:=⟨w.natAbs,by omega⟩
 have hn:0<n:=by omega
 rw [decide_eq_false (by omega:¬ ((n:Nat):Int)<0),Bool.bne_false]
 have h1:=Nat.mod_add_div z.natAbs n
 have h2:=Nat.mod_lt z.natAbs hn
 obtain ⟨q,hq⟩:∃ q,z.natAbs / n=q:=⟨_,rfl⟩
 obtain ⟨r,hr⟩:∃ r,z.natAbs % n=r:=⟨_,rfl⟩
 have key:sgZ (decide (z<0)) (divQ z n)=z / n/\(divR z n:Int)=z % n:=by
  have h3:=(Int.ediv_emod_unique (a:=z) (r:=(divR z n:Int)) (q:=sgZ (decide (z<0)) (divQ z n)) (by omega:(0:Int)<(n:Int))).2
  have h4:(divR z n:Int)+(n:Int)*sgZ (decide (z<0)) (divQ z n)=z/\0<=(divR z n:Int)/\(divR z n:Int)<(n:Int):=by
   unfold divQ divR sgZ
   simp only [Int.natAbs_natCast]
   rw [hq,hr]
   rw [hr,hq] at h1
   rw [hr] at h2
   have h5:((r+n*q:Nat):Int)=(z.natAbs:Int):=by rw [h1]
   rw [Int.natCast_add,Int.natCast_mul] at h5
   by_cases hz:z<0
   ·rw [decide_eq_true hz,if_pos rfl]
    by_cases hr0:r=0
    ·subst hr0
     rw [if_neg (by simp),if_neg (by simp)]
     rw [Int.mul_neg]
     omega
    ·rw [if_pos ⟨hz,hr0⟩,if_pos ⟨hz,hr0⟩]
     rw [Int.mul_neg,Int.natCast_add,Int.mul_add]
     omega
   ·rw [decide_eq_false hz,if_neg (fun h:z<0/\r≠0=>hz h.1),if_neg (fun h:z<0/\r≠0=>hz h.1),if_neg (by decide)]
    omega
  have h6:=h3 h4
  exact ⟨h6.1.symm,h6.2.symm⟩
 exact key
theorem idivmod_fn (C:Mem)(hT:Tabs C)(z w:Int)(k:Nat)(hk0:0<k)(hk:k<=40000)(hz:z.natAbs<B9 ^ k)(hw:w.natAbs<B9 ^ k)(hw0:0<w):Gives cx.P 157 [strV (txt z),strV (txt w)] C (.tuple #[strV (txt (z / w)),strV (txt (z % w)),.int .i64 0]):=by
 have hzl:=a8 hz hk0
 have hwl:=a8 hw hk0
 have hwn:0<w.natAbs:=by omega
 refine Fn.it kr_ Tryz.func157 50 fun w0=>?_
 refine G.z2 3 0 1 ?_
 refine G.z3 2 0 1 12 ?_
 refine G.cd (fun h12=>?_) fun h12=>?_
 ·have h:=txtEq0 w
  rw [h] at h12
  have:w=0:=of_decide_eq_true h12
  omega
 ·refine G.rp 1 fun R hR=>?_
  refine D.aP (open_fn _ z om_) rfl rfl rfl rfl rfl rfl rfl fl_ (fun v14 C14 hle14 hq14=>?_)
  refine D.ac ?_
  refine D.aP (open_fn _ w om_) rfl rfl rfl rfl rfl rfl rfl fl_ (fun v16 C16 hle16 hq16=>?_)
  refine D.aj (fun b7=>?_)
  refine D.aj (fun b8=>?_)
  obtain ⟨pz,rfl,hpz⟩:=hq14
  obtain ⟨pw,rfl,hpw⟩:=hq16
  obtain ⟨Az,mz,cz,rfl⟩:=hpz.form
  obtain ⟨Aw,mw,cw,rfl⟩:=hpw.form
  refine D.ag (j:=1) ?_
  refine D.ag (j:=1) ?_
  refine D.e2 7 8 hR ?_;clear hR R
  refine G.rp 1 fun R hR=>?_
  refine D.ae (.tail _ (.head _)) ?_
  refine D.ac ?_
  refine D.ae (.head _) ?_
  refine D.aP (divide_fn _ _ _ _ _ (hpz.mono mup) (hpw.mono mup) (bT (k:=100000) (n:=k) hz om_) hwn) rfl rfl rfl rfl rfl rfl rfl fl_ (fun v22 C22 hle22 hq22=>?_)
  obtain ⟨vq,vr,rfl,hvq,hvr⟩:=hq22
  refine D.q4 5 7 8 9 10 hR ?_;clear hR R
  obtain ⟨lr,hcr,hrv,hsr⟩:=id hvr
  obtain ⟨Ar,cr,heR,_⟩:=id hsr
  rw [List.length_map] at heR
  subst heR
  have hlr:lr.length=0 ↔ z.natAbs % w.natAbs=0:=by
   rw [<- hrv,can9_nil hcr]
   exact List.length_eq_zero_iff
  refine G.rp 1 fun R hR=>?_
  refine D.ae (.tail _ (.head _)) ?_
  refine D.ps 4 ?_
  refine D.aq ?_
  refine D.e5 7 8 9 10 31 hR ?_;clear hR R
  refine G.cut (fun fr C' L' μ=>∃ (v9 v10:Value),(NineC C' v9 (divQ z w)/\NineC C' v10 (divR z w))/\fr=[(7,[],.pointer (some ⟨b7,0,none⟩)),(8,[],.pointer (some ⟨b8,0,none⟩)),(9,[],v9),(10,[],v10)]/\L'=[.obj b8 (.cells ⟨[.bool (decide (w<0)),.slice Aw mw cw]⟩ 209 (0,0)),.obj b7 (.cells ⟨[.bool (decide (z<0)),.slice Az mz cz]⟩ 209 (0,0))]) ?_ (fun fr C31 L31 μ hle31 hI=>?_)
  ·refine G.cd (fun h31=>?_) fun h31=>?_
   ·have hcond:z<0/\z.natAbs % w.natAbs≠0:=by
     have h:decide (z<0)=true/\0<lr.length:=by simpa using h31
     exact ⟨of_decide_eq_true h.1,fun e=>by have:=hlr.2 e;omega⟩
    have hQ:divQ z w=z.natAbs / w.natAbs+1:=if_pos hcond
    have hR':divR z w=w.natAbs-z.natAbs % w.natAbs:=if_pos hcond
    have hql:z.natAbs / w.natAbs<B9 ^ k:=Nat.lt_of_le_of_lt (Nat.div_le_self _ _) hz
    refine G.aH [0,3,4,5,1,2,6,7,8] [] rfl kr_ (fun R hB hR=>?_)
    refine D.ps 2 ?_
    refine D.ae (.head _) ?_
    refine D.ac ?_
    refine D.ah [encU 1] (fun p33 C33 hle33 hs33=>?_)
    refine D.aP (plus_n (k:=k) _ (hvq.mono mup) (⟨[1],⟨(fun x hx=>(by rw [List.mem_singleton.1 hx];decide)),by simp⟩,rfl,hs33.mono mup⟩:NineC _ _ 1) hql (Nat.lt_of_lt_of_le (by decide:1<B9 ^ 1) (Nat.pow_le_pow_right (by decide) hk0)) om_) rfl rfl rfl rfl rfl rfl rfl fl_ (fun v34 C34 hle34 hq34=>?_)
    refine D.aP (minus_n (k:=k) _ (hpw.mono mup) (hvr.mono mup) hw (Nat.le_of_lt (Nat.mod_lt _ hwn)) om_) rfl rfl rfl rfl rfl rfl rfl fl_ (fun v38 C38 hle38 hq38=>?_)
    refine D.ps 2 ?_
    refine D.e4 7 8 9 10 hR ?_;clear hR hB R
    refine G.aw 0 mup (h_4 7 8 9 10) ⟨_,_,⟨by rw [hQ];exact hq34.mono mup,by rw [hR'];exact hq38.mono mup⟩,rfl,rfl⟩
   ·have hcond:¬ (z<0/\z.natAbs % w.natAbs≠0):=fun h=>by
     have h2:0<lr.length:=by
      rcases Nat.eq_zero_or_pos lr.length with h3 | h3
      ·exact absurd (hlr.1 h3) h.2
      ·exact h3
     have h3:(decide (z<0) && decide ((0:Int)<(lr.length:Int)))=true:=by
      rw [decide_eq_true h.1,decide_eq_true om_];rfl
     rw [h3] at h31;cases h31
    have hQ:divQ z w=z.natAbs / w.natAbs:=if_neg hcond
    have hR':divR z w=z.natAbs % w.natAbs:=if_neg hcond
    refine G.aw 0 mup (h_4 7 8 9 10) ⟨_,_,⟨by rw [hQ];exact hvq.mono mup,by rw [hR'];exact hvr.mono mup⟩,rfl,rfl⟩
  ·obtain ⟨v9 ,v10,⟨h9,h10⟩,rfl,rfl⟩:=hI
   obtain ⟨A9,m9,c9,rfl⟩:=h9.form
   obtain ⟨A10,m10,c10,rfl⟩:=h10.form
   have hqb:divQ z w<B9 ^ 100000:=by
    have h1:z.natAbs / w.natAbs<=z.natAbs:=Nat.div_le_self _ _
    have h2:divQ z w<=z.natAbs+1:=by unfold divQ;split <;> omega
    have h3:B9 ^ k*2<=B9 ^ (k+1):=by rw [Nat.pow_succ];exact Nat.mul_le_mul_left _ (by decide)
    have h4:z.natAbs+1<B9 ^ (k+1):=by have:=Nat.pow_pos (n:=k) (show 0<B9 by decide);omega
    exact bT (k:=100000) (n:=k+1) (Nat.lt_of_le_of_lt h2 h4) om_
   have hrb:divR z w<B9 ^ 100000:=by
    have h1:=Nat.mod_lt z.natAbs hwn
    have h2:divR z w<=w.natAbs:=by unfold divR;split <;> omega
    exact bT (k:=100000) (n:=k) (Nat.lt_of_le_of_lt h2 hw) om_
   refine G.rp 1 fun R hR=>?_
   refine D.ae (.tail _ (.head _)) ?_
   refine D.ac ?_
   refine D.ae (.head _) ?_
   refine D.ps 2 ?_
   refine D.ak [.bool (decide (z<0) != decide (w<0)),_] ?_
   refine D.af (close_fn _ (hT.mono mup) _ _ _ (h9.mono mup) hqb) ?_
   refine D.ac ?_
   refine D.ak [.bool false,_] ?_
   refine D.af (close_fn _ (hT.mono mup) _ _ _ (h10.mono mup) hrb) ?_
   refine D.q3 3 4 5 6 hR ?_;clear hR R
   refine G.az (G.dropAll (G.eM rfl rfl rfl rfl ?_))
   refine ⟨?_,rfl⟩
   rw [(div_mod hw0).1,show sgZ false (divR z w)=z % w from (div_mod hw0).2]
end Go.Proofs.YtllimhhofkcgpaaGreatDoor
namespace Go.Jog
open Go

section
variable {cx:Cx} {n:Nat} {ds:List (Option Nat)} {R:Rg n ds} {its:List It} {fr:Fr} {C:Mem} {L:List Ent} {i k d:Nat} {o:Oper} {g:GL} {v:Value}

theorem D.eP {t f ty off:Nat}{x:Operand}{xs:List Value}{ti te:TI}{fs:List (Nat × Nat)}(hk:Nat.ble k 1=true)(hd:o.dst=some d)(hop:o.op=.field t x f)
  (hg:gOf ds fr o.guard=some g) (hx:ev fr g x=some (.agg ⟨xs⟩)) (ht:cx.T.get t=some ti) (hfs:ti.k=.struct fs) (hf:fs[f]?=some (ty,off)) (hte:cx.T.get ty=some te)
  (hv:(bif te.agg then some (.agg ⟨(xs.drop off).take te.size⟩) else xs[off]?)=some v) (hp:aG n ds ((d,g,v)::fr) d=true) (hwf:wfG ds fr g=true)
  (h:D cx R its ((d,g,v)::fr) C L):D cx R ((i,k,o)::its) fr C L:=by
 refine D.run _ hk hd hg (fun _ a hs w=>?_) hp hwf h
 have e1:execOp a.eval o=(do Pure.pure (.value (<- Instr.field t (a.eval x) f)):Sem Next):=by unfold execOp;rw [hop]
 obtain ⟨kk,s1,b1,z1,g1⟩:=ti
 simp only at hfs
 subst hfs
 obtain ⟨fields,hu,hm⟩:=und_struct cx.hT ht
 obtain ⟨fd,h1,rfl,rfl⟩:∃ fd,fields[f]?=some fd/\fd.type=ty/\fd.offset=off:=by
  rw [<- hm,List.getElem?_map] at hf
  cases hx:fields.toList[f]? with
  | none=>rw [hx] at hf;cases hf
  | some fd =>
   rw [hx] at hf
   simp only [Option.map_some,Option.some.injEq,Prod.mk.injEq] at hf
   exact ⟨fd,by simpa using hx,hf.1,hf.2⟩
 rw [e1,hs _ _ hx]
 unfold Instr.field
 simp only [Sem.run_bind,run_underlying hu,Result.andThen_ok,h1,asAgg,part,Sem.run_pure]
 rw [is_agg cx.hT hte w]
 simp only [Result.andThen_ok]
 cases hag:te.agg with
 | true =>
  rw [hag] at hv
  simp only [cond_true,Option.some.injEq] at hv
  subst hv
  simp only [if_true,Sem.run_bind,cF cx.hT hte w,Result.andThen_ok,Sem.run_pure,List.extract_toArray,List.extract_eq_take_drop,Nat.add_sub_cancel_left]
 | false =>
  rw [hag] at hv
  simp only [cond_false] at hv
  simp [hv]
end
end Go.Jog
namespace Go.Proofs.YtllimhhofkcgpaaGreatDoor
open Go Go.Jog
set_option maxRecDepth 100000

theorem can9_pos {l:List Nat}{n:Nat}(hc:Can9 l)(hv:val9 l=n):0<l.length ↔ 0<n:=by
 have h:=can9_nil hc
 rw [hv] at h
 have h2:l.length=0 ↔ n=0:=by rw [h];exact List.length_eq_zero_iff
 omega
theorem igcd_fn (C:Mem)(hT:Tabs C)(z w:Int)(k:Nat)(hk0:0<k)(hk:k<=40000)(hz:z.natAbs<B9 ^ k)(hw:w.natAbs<B9 ^ k):Gives cx.P 76 [strV (txt z),strV (txt w)] C (strV (txt (Nat.gcd z.natAbs w.natAbs:Nat))):=by
 have hzl:=a8 hz hk0
 have hwl:=a8 hw hk0
 refine Fn.it kr_ Tryz.func76 56 fun w0=>?_
 refine G.z2 1 0 1 ?_
 refine G.rp 1 fun R hR=>?_
 refine D.af (quick_fn _ z 18 (Nat.le_refl _)) ?_
 refine D.q4 5 0 1 5 6 hR ?_
 refine G.z4 1 0 1 5 18 ?_
 refine G.cut (fun fr C' L' μ=>(True)/\fr=[(0,[],strV (txt z)),(1,[],strV (txt w))]/\L'=[]) ?_ (fun fr C18 L18 μ hle18 hI=>?_)
 ·refine G.cd (fun h18=>?_) fun h18=>?_
  ·have hz18:=of_decide_eq_true h18
   rw [if_pos hz18]
   have hza:=abs18 hz18
   rw [e18] at hza
   refine G.rp 1 fun R hR=>?_
   refine D.af (quick_fn _ w 18 (Nat.le_refl _)) ?_
   refine D.q5 5 0 1 5 7 8 hR ?_
   refine G.z5 1 0 1 5 7 24 ?_
   refine G.cd (fun h24=>?_) fun h24=>?_
   ·have hw18:=of_decide_eq_true h24
    rw [if_pos hw18]
    have hwa:=abs18 hw18
    rw [e18] at hwa
    refine G.loop (fun fr C' L' μ=>∃ (x y:Int),(x.natAbs<1000000000000000000/\y.natAbs<1000000000000000000/\Nat.gcd x.natAbs y.natAbs=Nat.gcd z.natAbs w.natAbs)/\fr=[(5,[],.int .i64 x),(7,[],.int .i64 y)]/\L'=[]/\μ=y.natAbs+1) (h_2 5 7) ⟨z,w,⟨hza,hwa,rfl⟩,rfl,rfl,rfl⟩ (fun fr C0' L0' m hle0 hI=>?_)
    obtain ⟨x,y,⟨hxa,hya,hg⟩,rfl,rfl,rfl⟩:=hI
    refine G.z3 2 5 7 26 ?_
    refine G.cd (fun h26=>?_) fun h26=>?_
    ·have hy0:y≠0:=by simpa using h26
     have hta:(x.tmod y).natAbs=x.natAbs % y.natAbs:=Int.natAbs_tmod x y
     have htl:=Nat.mod_lt x.natAbs (show 0<y.natAbs by omega)
     refine G.aH [0,1,2,3,4,5] [] rfl kr_ (fun R hB hR=>?_)
     refine D.ps 3 ?_
     refine D.eQ (x.tmod y) rfl rfl rfl rfl rfl rfl hy0 rfl rfl rfl ?_
     refine D.q2 2 5 7 hR ?_
     refine G.ax (m':=(x.tmod y).natAbs+1) om_ hle0 (h_2 5 7) ⟨y,x.tmod y,⟨hya,by omega,by rw [hta,<- hg,Nat.gcd_comm x.natAbs,Nat.gcd_rec y.natAbs x.natAbs,Nat.gcd_comm]⟩,rfl,rfl,rfl⟩
    ·have hy0:y=0:=by simpa using h26
     subst hy0
     rw [show (0:Int).natAbs=0 from rfl,Nat.gcd_zero_right] at hg
     refine G.rp 3 fun R hR=>?_
     have hwx:IntKind.i64.wrap (0-x)=0-x:=wrap_i64 om_ om_
     refine D.max ((x.natAbs:Int)) rfl rfl rfl rfl rfl rfl om_ rfl rfl ?_
     refine D.ai (iof_fn _ (hT.mono mup) (x.natAbs:Int) om_ om_) rfl rfl rfl rfl rfl rfl rfl fl_ ?_
     refine D.q1 1 4 hR ?_
     refine G.rf ?_
     exact ⟨by rw [hg],rfl⟩
   ·refine G.aw 0 (Mem.le.refl _) (h_2 0 1) ⟨trivial,rfl,rfl⟩
  ·refine G.aw 0 (Mem.le.refl _) (h_2 0 1) ⟨trivial,rfl,rfl⟩
 ·obtain ⟨_,rfl,rfl⟩:=hI
  refine G.rp 1 fun R hR=>?_
  refine D.aP (open_fn _ z om_) rfl rfl rfl rfl rfl rfl rfl fl_ (fun v37 C37 hle37 hq37=>?_)
  obtain ⟨pz,rfl,hpz⟩:=hq37
  refine D.eP rfl rfl rfl rfl rfl rfl rfl rfl rfl rfl rfl rfl ?_
  refine D.ac ?_
  refine D.aP (open_fn _ w om_) rfl rfl rfl rfl rfl rfl rfl fl_ (fun v40 C40 hle40 hq40=>?_)
  obtain ⟨pw,rfl,hpw⟩:=hq40
  refine D.eP rfl rfl rfl rfl rfl rfl rfl rfl rfl rfl rfl rfl ?_
  refine D.q2 2 9 10 hR ?_
  refine G.loop (fun fr C' L' μ=>∃ (x y:Nat)(v9 v10:Value),(NineC C' v9 x/\NineC C' v10 y/\x<B9 ^ k/\y<B9 ^ k/\Nat.gcd x y=Nat.gcd z.natAbs w.natAbs)/\fr=[(9,[],v9),(10,[],v10)]/\L'=[]/\μ=y+1) (h_2 9 10) ⟨_,_,_,_,⟨hpz.mono mup,hpw.mono mup,hz,hw,rfl⟩,rfl,rfl,rfl⟩ (fun fr C1' L1' m hle1 hI=>?_)
  obtain ⟨x,y,v9,v10,⟨h9,h10,hxk,hyk,hg⟩,rfl,rfl,rfl⟩:=hI
  obtain ⟨l,hlc,hlv,hls⟩:=id h10
  obtain ⟨A10,c10,rfl,_⟩:=id hls
  rw [List.length_map] at h10 ⊢
  have hlp:=can9_pos hlc hlv
  refine G.z3 3 9 10 44 ?_
  refine G.cd (fun h44=>?_) fun h44=>?_
  ·have hy0:0<y:=hlp.1 (by simpa using h44)
   have htl:=Nat.mod_lt x hy0
   refine G.rp 2 fun R hR=>?_
   refine D.aP (divide_fn _ _ _ _ _ (h9.mono mup) (h10.mono mup) (bT (k:=100000) (n:=k) hxk om_) hy0) rfl rfl rfl rfl rfl rfl rfl fl_ (fun v48 C48 hle48 hq48=>?_)
   obtain ⟨vq,vr,rfl,hvq,hvr⟩:=hq48
   refine D.q2 5 10 12 hR ?_
   refine G.z2 4 9 10 ?_
   refine G.ax (m':=x % y+1) om_ mup (h_2 9 10) ⟨y,x % y,_,_,⟨h10.mono mup,hvr.mono mup,hyk,Nat.lt_trans (Nat.mod_lt _ hy0) hyk,by rw [<- hg,Nat.gcd_comm x,Nat.gcd_rec y x,Nat.gcd_comm]⟩,rfl,rfl,rfl⟩
  ·have hy0:y=0:=by
    have h:¬ 0<l.length:=by simpa using h44
    omega
   subst hy0
   rw [Nat.gcd_zero_right] at hg
   obtain ⟨A9,m9,c9,rfl⟩:=h9.form
   refine G.rp 1 fun R hR=>?_
   refine D.ak [.bool false,_] ?_
   refine D.ai (close_fn _ (hT.mono mup) _ _ _ (h9.mono mup) (bT (k:=100000) (n:=k) hxk om_)) rfl rfl rfl rfl rfl rfl rfl fl_ ?_
   refine D.q1 1 4 hR ?_
   refine G.rf ?_
   exact ⟨by rw [hg];rfl,rfl⟩
end Go.Proofs.YtllimhhofkcgpaaGreatDoor
namespace Go.Jog
open Go

def preS (b:Bool):List UInt8:=if b then [45] else []
def cT:Option (List UInt8)->List UInt8
 | none=>[]
 | some b=>47::b
def denS (d:Nat):Option (List UInt8):=if d=1 then none else some (decS d)
def qtx (q:Rat):List UInt8:=preS (decide (q.num<0))++decS q.num.natAbs++cT (denS q.den)
theorem txt_pre (z:Int):txt z=preS (decide (z<0))++decS z.natAbs:=by
 unfold txt preS
 by_cases h:z<0
 ·rw [if_pos h,decide_eq_true h];rfl
 ·rw [if_neg h,decide_eq_false h];rfl
theorem qtx_txt (q:Rat):qtx q=txt q.num++cT (denS q.den):=by rw [txt_pre];rfl
theorem qtx_int (z:Int):qtx z=txt z:=by
 rw [qtx_txt]
 show txt z++cT (denS 1)=txt z
 simp [denS,cT]
theorem decV_t10 {s:List UInt8}{i:Nat}{c:UInt8}(h:s[i]?=some c):decV (s.take (i+1))=10*decV (s.take i)+(c.toNat-48):=by
 rw [decV_tk h];omega
theorem decV_le9 {s:List UInt8}(hs:∀ c∈s,digB c=true){i:Nat}(hi:i<=9):decV (s.take i)<1000000000:=by
 have h1:=co (s:=s.take i) (fun c hc=>hs c (List.mem_of_mem_take hc))
 have h2:10 ^ (s.take i).length<=10 ^ 9:=Nat.pow_le_pow_right (by decide) (by rw [List.length_take];omega)
 omega
def fit9 (A:List UInt8)(B:Option (List UInt8)):Bool:=decide (A.length<=9) && decide ((B.getD []).length<=9)
def denV:Option (List UInt8)->Nat
 | none=>1
 | some b=>decV b
theorem pre_get (p A r:List UInt8){j:Nat}{c:UInt8}(h:A[j]?=some c):(p++A++r)[p.length+j]?=some c:=by
 have hj:=(List.getElem?_eq_some_iff.1 h).1
 rw [List.append_assoc,List.getElem?_append_right om_,Nat.add_sub_cancel_left,List.getElem?_append_left hj,h]
theorem post_get (p A r:List UInt8)(j:Nat):(p++A++r)[p.length+A.length+j]?=r[j]?:=by
 rw [List.getElem?_append_right (by rw [List.length_append];omega),List.length_append,Nat.add_sub_cancel_left]
theorem mk_parts (n:Int){d:Nat}(hd:d≠0):(mkRat n d).num=n / ((Nat.gcd n.natAbs d:Nat):Int)/\(mkRat n d).den=d / Nat.gcd n.natAbs d:=by
 rw [mkRat,dif_neg hd,Rat.normalize_eq]
 exact ⟨rfl,rfl⟩
theorem dens_one {d:Nat}(h:d=1):denS d=none:=if_pos h
theorem dI {d:Nat}(h:d≠1):denS d=some (decS d):=if_neg h
theorem decS_ne (n:Nat):decS n≠[]:=(aO n).1.2.1
theorem decS_dig (n:Nat):∀ c∈decS n,digB c=true:=(aO n).1.1
theorem denS_dig (d:Nat):∀ b,denS d=some b->∀ c∈b,digB c=true:=by
 intro b h
 unfold denS at h
 split at h
 ·cases h
 ·cases h;exact decS_dig d
theorem denV_denS (d:Nat):denV (denS d)=d:=by
 unfold denS
 split
 ·rename_i h;exact h.symm
 ·exact (aO d).2
def QB (k:Nat)(q:Rat):Prop:=q.num.natAbs<B9 ^ k/\q.den<B9 ^ k
theorem QB.le {k m:Nat}{q:Rat}(h:QB k q)(hk:k<=m):QB m q:=⟨Nat.lt_of_lt_of_le h.1 (Nat.pow_le_pow_right (by decide) hk),Nat.lt_of_lt_of_le h.2 (Nat.pow_le_pow_right (by decide) hk)⟩
theorem mk_bound {n:Int}{d k:Nat}(hd:d≠0)(hn:n.natAbs<B9 ^ k)(hdk:d<B9 ^ k):QB k (mkRat n d):=by
 obtain ⟨h1,h2⟩:=mk_parts n hd
 refine ⟨?_, ?_⟩
 ·rw [h1,Int.natAbs_ediv_of_dvd (Int.dvd_natAbs.1 (Int.natCast_dvd_natCast.2 (Nat.gcd_dvd_left _ _))),Int.natAbs_natCast]
  exact Nat.lt_of_le_of_lt (Nat.div_le_self _ _) hn
 ·rw [h2]
  exact Nat.lt_of_le_of_lt (Nat.div_le_self _ _) hdk
theorem rat_add_mk (a b:Rat):a+b=mkRat (a.num*b.den+b.num*a.den) (a.den*b.den):=by
 rw [Rat.add_def,Rat.normalize_eq_mkRat]
theorem rat_mul_mk (a b:Rat):a*b=mkRat (a.num*b.num) (a.den*b.den):=by
 rw [Rat.mul_def,Rat.normalize_eq_mkRat]
end Go.Jog
namespace Go.Proofs.YtllimhhofkcgpaaGreatDoor
open Go Go.Jog
set_option maxRecDepth 100000

def quickV (sg:Bool)(A:Str)(B:Option Str):Value :=
 if fit9 A B then .tuple #[.int .i64 (sgZ sg (decV A)),.int .i64 (denV B),.bool true] else .tuple #[.int .i64 0,.int .i64 0,.bool false]
theorem rquick_raw (C:Mem)(sg:Bool)(A:Str)(B:Option Str)(hA:∀ c∈A,digB c=true)(hA0:A≠[])(hB:∀ b,B=some b->∀ c∈b,digB c=true)(hl:(preS sg++A++cT B).length<=1000000) :
  Gives cx.P 95 [strV (preS sg++A++cT B)] C (quickV sg A B):=by
 obtain ⟨s,hs⟩:∃ s,preS sg++A++cT B=s:=⟨_,rfl⟩
 obtain ⟨p,hp⟩:∃ p,(preS sg).length=p:=⟨_,rfl⟩
 have hp1:p=if sg then 1 else 0:=by rw [<- hp];cases sg <;> rfl
 have hgA:∀ j c,A[j]?=some c->s[p+j]?=some c:=fun j c h=>by rw [<- hs,<- hp];exact pre_get _ _ _ h
 have hgB:∀ j,s[p+A.length+j]?=(cT B)[j]?:=fun j=>by rw [<- hs,<- hp];exact post_get _ _ _ _
 have hsl:s.length=p+A.length+(cT B).length:=by rw [<- hs,<- hp,List.length_append,List.length_append]
 have hAl:0<A.length:=List.length_pos_iff.2 hA0
 rw [hs] at hl ⊢
 refine Fn.it kr_ Tryz.func95 73 fun w0=>?_
 refine G.z3 3 0 2 3 ?_
 refine G.z5 2 0 2 3 5 6 ?_
 refine G.rp 5 fun R hR=>?_
 refine D.bf (b:=s.getD 0 0) rfl rfl rfl rfl rfl rfl rfl rfl (fun _=>⟨by omega,(by rw [List.getD_eq_getElem?_getD,show (0:Int).toNat=0 from rfl];obtain ⟨c,hc⟩:∃ c,s[0]?=some c:=⟨s[0]'om_,List.getElem?_eq_getElem om_⟩;rw [hc];rfl)⟩) rfl rfl ?_
 refine D.ac ?_
 refine D.aq ?_
 refine D.e6 0 2 3 5 6 15 hR ?_;clear hR R
 refine G.cut (fun fr C' L' μ=>(True)/\fr=[(0,[],strV s),(2,[],.int .i64 0),(3,[],.int .i64 0),(5,[],.int .i64 p),(6,[],.bool sg)]/\L'=[]) ?_ (fun fr C15 L15 μ hle15 hI=>?_)
 ·refine G.cd (fun h15=>?_) fun h15=>?_
  ·have hsg:sg=true:=by
    cases sg with
    | true=>rfl
    | false =>
     exfalso
     rw [if_neg (by decide)] at hp1
     subst hp1
     obtain ⟨c,hc⟩:∃ c,A[0]?=some c:=⟨A[0],List.getElem?_eq_getElem hAl⟩
     have h1:=hgA 0 c hc
     have h2:=hA c (List.mem_of_getElem? hc)
     rw [Nat.add_zero] at h1
     rw [List.getD_eq_getElem?_getD,h1] at h15
     unfold digB at h2
     simp at h15 h2
     omega
   subst hsg
   rw [if_pos rfl] at hp1
   subst hp1
   refine G.z5 2 0 2 3 5 6 ?_
   refine G.aw 0 (Mem.le.refl _) (h_5 0 2 3 5 6) ⟨trivial,rfl,rfl⟩
  ·have hsg:sg=false:=by
    cases sg with
    | false=>rfl
    | true =>
     exfalso
     have h1:s[0]?=some 45:=by rw [<- hs];rfl
     rw [if_pos rfl] at hp1
     have h2:(decide ((0:Int)<((s.length:Nat):Int)) && decide ((((s.getD 0 0).toNat:Nat):Int)=45))=false:=by simpa using h15
     rw [List.getD_eq_getElem?_getD,h1,decide_eq_true om_] at h2
     exact absurd h2 (by decide)
   subst hsg
   rw [if_neg (by decide)] at hp1
   subst hp1
   refine G.aw 0 (Mem.le.refl _) (h_5 0 2 3 5 6) ⟨trivial,rfl,rfl⟩
 ·obtain ⟨_,rfl,rfl⟩:=hI
  refine G.z6 2 0 2 3 5 6 7 ?_
  refine G.loop (fun fr C' L' μ=>∃ (j:Nat),(j<=A.length/\j<=9)/\fr=[(0,[],strV s),(2,[],.int .i64 ((decV (A.take j):Nat):Int)),(3,[],.int .i64 0),(5,[],.int .i64 ((p+j:Nat):Int)),(6,[],.bool sg),(7,[],.int .i64 p)]/\L'=[]/\μ=A.length-j+1) (h_6 0 2 3 5 6 7) ⟨0,⟨by omega,by omega⟩,rfl,rfl,rfl⟩ (fun fr C0' L0' m hle0 hI=>?_)
  obtain ⟨j,⟨hj,hj9⟩,rfl,rfl,rfl⟩:=hI
  obtain ⟨c,hc⟩:∃ c,p+j<s.length->s[p+j]?=some c:=⟨s.getD (p+j) 0,fun h=>by rw [List.getD_eq_getElem?_getD,List.getElem?_eq_getElem h];rfl⟩
  refine G.rp 7 fun R hR=>?_
  refine D.bf (b:=c) rfl rfl rfl rfl rfl rfl rfl rfl (fun hg=>⟨by omega,hc (by have h:decide (((p+j:Nat):Int)<((s.length:Nat):Int))=true:=hg.1;have h2:=of_decide_eq_true h;omega)⟩) rfl rfl ?_
  refine D.ac ?_
  refine D.aq ?_
  refine D.e7 0 2 3 5 6 7 26 hR ?_;clear hR R
  refine G.cd (fun h26=>?_) fun h26=>?_
  ·have h26':p+j<s.length/\c.toNat≠47:=by
    simp at h26
    omega
   have hjl:j<A.length:=by
    rcases Nat.lt_or_ge j A.length with h | h
    ·exact h
    ·exfalso
     obtain rfl:j=A.length:=by omega
     have h1:=hc h26'.1
     have h2:=hgB 0
     rw [Nat.add_zero,h1] at h2
     cases B with
     | none=>simp [cT] at h2
     | some b =>
      simp [cT] at h2
      subst h2
      exact h26'.2 rfl
   obtain ⟨c',hcA⟩:∃ c,A[j]?=some c:=⟨A[j],List.getElem?_eq_getElem hjl⟩
   obtain rfl:c'=c:=by
    have h1:=hc h26'.1
    rw [hgA j c' hcA] at h1
    exact Option.some.inj h1
   have hcr:48<=c'.toNat/\c'.toNat<=57:=by simpa [digB] using hA c' (List.mem_of_getElem? hcA)
   have hV:=decV_le9 hA hj9
   refine G.rp 2 fun R hR=>?_
   refine D.am _ ?_
   refine D.q7 1 0 2 3 5 6 7 32 hR ?_;clear hR R
   refine G.cd (fun h32=>?_) fun h32=>?_
   ·have h9:¬ A.length<=9:=by
     have:((p+j:Nat):Int)-p=9:=by simpa using h32
     omega
    refine G.z3 3 2 3 4 ?_
    refine G.az (G.dropAll (G.eM rfl rfl rfl rfl ?_))
    refine ⟨?_,rfl⟩
    unfold quickV fit9
    rw [decide_eq_false h9,Bool.false_and,if_neg (by decide)]
   ·have h9:j≠9:=by
     have:¬ ((p+j:Nat):Int)-p=9:=by simpa using h32
     omega
    refine G.rp 1 fun R hR=>?_
    refine D.am _ ?_
    refine D.ps 2 ?_
    refine D.bf rfl rfl rfl rfl rfl rfl rfl rfl (fun _=>⟨by omega,hgA j _ hcA⟩) rfl rfl ?_
    refine D.int (((c'.toNat:Nat):Int)-48) rfl rfl rfl rfl (by rw [IntKind.wrap_u8];omega) rfl rfl ?_
    refine D.cR (c:=((c'.toNat:Nat):Int)-48) rfl rfl rfl rfl rfl rfl rfl rfl (by rw [IntKind.wrap_i64];omega) fl_ ?_
    refine D.am _ ?_
    refine D.q6 1 0 2 3 5 6 7 hR ?_;clear hR R
    refine G.rp 1 fun R hR=>?_
    refine D.am _ ?_
    refine D.q6 1 0 2 3 5 6 7 hR ?_;clear hR R
    rw [show 10*((decV (A.take j):Nat):Int)+(((c'.toNat:Nat):Int)-48)=((decV (A.take (j+1)):Nat):Int) by rw [decV_t10 hcA];omega]
    refine G.ax (m':=A.length-(j+1)+1) om_ hle0 (h_6 0 2 3 5 6 7) ⟨j+1,⟨by omega,by omega⟩,rfl,rfl,rfl⟩
  ·have hjl:j=A.length:=by
    rcases Nat.lt_or_ge j A.length with h | h
    ·exfalso
     obtain ⟨c',hcA⟩:∃ c,A[j]?=some c:=⟨A[j],List.getElem?_eq_getElem h⟩
     have h1:=hc om_
     rw [hgA j c' hcA] at h1
     obtain rfl:=Option.some.inj h1
     have hcr:48<=c'.toNat/\c'.toNat<=57:=by simpa [digB] using hA c' (List.mem_of_getElem? hcA)
     simp at h26
     have:=h26 om_
     omega
    ·omega
   subst hjl
   rw [List.take_length]
   refine G.z5 1 0 2 3 5 41 ?_
   refine G.cut (fun fr C' L' μ=>(True)/\fr=[(0,[],strV s),(2,[],.int .i64 (sgZ sg (decV A))),(3,[],.int .i64 0),(5,[],.int .i64 ((p+A.length:Nat):Int))]/\L'=[]) ?_ (fun fr C41 L41 μ hle41 hI=>?_)
   ·refine G.cd (fun h41=>?_) fun h41=>?_
    ·have hsg:sg=true:=h41
     subst hsg
     have hVA:=decV_le9 hA hj9
     rw [List.take_length] at hVA
     refine G.z4 3 0 2 3 5 ?_
     rw [show IntKind.i64.wrap (0-((decV A:Nat):Int))=sgZ true (decV A) by rw [wrap_i64 om_ om_];unfold sgZ;rw [if_pos rfl];omega]
     refine G.aw 0 (Mem.le.refl _) (h_4 0 2 3 5) ⟨trivial,rfl,rfl⟩
    ·have hsg:sg=false:=by simpa using h41
     subst hsg
     refine G.aw 0 (Mem.le.refl _) (h_4 0 2 3 5) ⟨trivial,rfl,rfl⟩
   ·obtain ⟨_,rfl,rfl⟩:=hI
    refine G.z5 4 0 2 3 5 47 ?_
    refine G.cd (fun h47=>?_) fun h47=>?_
    ·have hB0:B=none:=by
      cases B with
      | none=>rfl
      | some b =>
       exfalso
       have:p+A.length=s.length:=by simp at h47;omega
       rw [hsl] at this
       simp [cT] at this
     subst hB0
     refine G.z3 4 2 3 4 ?_
     refine G.az (G.dropAll (G.eM rfl rfl rfl rfl ?_))
     refine ⟨?_,rfl⟩
     unfold quickV fit9
     rw [decide_eq_true hj9]
     rfl
    ·obtain ⟨b,rfl⟩:∃ b,B=some b:=by
      cases B with
      | some b=>exact ⟨b,rfl⟩
      | none =>
       exfalso
       simp [hsl,cT] at h47
     have hBd:=hB b rfl
     have hsl':s.length=p+A.length+1+b.length:=by rw [hsl];simp [cT];omega
     refine G.rp 1 fun R hR=>?_
     refine D.am _ ?_
     refine D.q5 1 0 2 3 5 7 hR ?_;clear hR R
     refine G.rp 1 fun R hR=>?_
     refine D.am _ ?_
     refine D.q5 1 0 2 3 5 7 hR ?_;clear hR R
     refine G.loop (fun fr C' L' μ=>∃ (j:Nat),(j<=b.length/\j<=9)/\fr=[(0,[],strV s),(2,[],.int .i64 (sgZ sg (decV A))),(3,[],.int .i64 ((decV (b.take j):Nat):Int)),(5,[],.int .i64 ((p+A.length+1+j:Nat):Int)),(7,[],.int .i64 ((p+A.length+1:Nat):Int))]/\L'=[]/\μ=b.length-j+1) (h_5 0 2 3 5 7) ⟨0,⟨by omega,by omega⟩,rfl,rfl,rfl⟩ (fun fr C1' L1' m hle1 hI=>?_)
     obtain ⟨j,⟨hk,hk9⟩,rfl,rfl,rfl⟩:=hI
     refine G.z6 4 0 2 3 5 7 56 ?_
     refine G.cd (fun h56=>?_) fun h56=>?_
     ·have hkl:j<b.length:=by
       have:p+A.length+1+j<s.length:=by simp at h56;omega
       omega
      obtain ⟨c,hcB⟩:∃ c,b[j]?=some c:=⟨b[j],List.getElem?_eq_getElem hkl⟩
      have hcs:s[p+A.length+1+j]?=some c:=by rw [Nat.add_assoc,hgB,Nat.add_comm 1 j];exact hcB
      have hcr:48<=c.toNat/\c.toNat<=57:=by simpa [digB] using hBd c (List.mem_of_getElem? hcB)
      have hV:=decV_le9 hBd hk9
      refine G.rp 2 fun R hR=>?_
      refine D.am _ ?_
      refine D.q6 1 0 2 3 5 7 62 hR ?_;clear hR R
      refine G.cd (fun h62=>?_) fun h62=>?_
      ·have h9:¬ b.length<=9:=by
        have:((p+A.length+1+j:Nat):Int)-((p+A.length+1:Nat):Int)=9:=by simpa using h62
        omega
       refine G.z3 3 2 3 4 ?_
       refine G.az (G.dropAll (G.eM rfl rfl rfl rfl ?_))
       refine ⟨?_,rfl⟩
       unfold quickV fit9
       rw [show (some b).getD []=b from rfl,decide_eq_false h9,Bool.and_false,if_neg (by decide)]
      ·have h9:j≠9:=by
        have:¬ ((p+A.length+1+j:Nat):Int)-((p+A.length+1:Nat):Int)=9:=by simpa using h62
        omega
       refine G.rp 1 fun R hR=>?_
       refine D.am _ ?_
       refine D.ps 2 ?_
       refine D.bf rfl rfl rfl rfl rfl rfl rfl rfl (fun _=>⟨by omega,hcs⟩) rfl rfl ?_
       refine D.int (((c.toNat:Nat):Int)-48) rfl rfl rfl rfl (by rw [IntKind.wrap_u8];omega) rfl rfl ?_
       refine D.cR (c:=((c.toNat:Nat):Int)-48) rfl rfl rfl rfl rfl rfl rfl rfl (by rw [IntKind.wrap_i64];omega) fl_ ?_
       refine D.am _ ?_
       refine D.q5 1 0 2 3 5 7 hR ?_;clear hR R
       refine G.rp 1 fun R hR=>?_
       refine D.am _ ?_
       refine D.q5 1 0 2 3 5 7 hR ?_;clear hR R
       rw [show 10*((decV (b.take j):Nat):Int)+(((c.toNat:Nat):Int)-48)=((decV (b.take (j+1)):Nat):Int) by rw [decV_t10 hcB];omega]
       refine G.ax (m':=b.length-(j+1)+1) om_ hle1 (h_5 0 2 3 5 7) ⟨j+1,⟨by omega,by omega⟩,rfl,rfl,rfl⟩
     ·have hkl:j=b.length:=by
       have:¬ p+A.length+1+j<s.length:=by simp at h56;omega
       omega
      subst hkl
      rw [List.take_length]
      refine G.z3 5 2 3 4 ?_
      refine G.az (G.dropAll (G.eM rfl rfl rfl rfl ?_))
      refine ⟨?_,rfl⟩
      unfold quickV fit9
      rw [show (some b).getD []=b from rfl,decide_eq_true hj9,decide_eq_true hk9]
      rfl

theorem quotT_dvd {n:Int}{g:Nat}(hg:g ∣ n.natAbs):n.tdiv (g:Int)=n / (g:Int):=Int.tdiv_eq_ediv_of_dvd (Int.dvd_natAbs.1 (Int.natCast_dvd_natCast.2 hg))
theorem qtx_mk {n:Int}{d:Nat}(hd:d≠0):qtx (mkRat n d)=txt (n / ((Nat.gcd n.natAbs d:Nat):Int))++cT (denS (d / Nat.gcd n.natAbs d)):=by
 rw [qtx_txt,(mk_parts n hd).1,(mk_parts n hd).2]
theorem rsmall_fn (C:Mem)(hT:Tabs C)(n:Int)(d:Nat)(hd:0<d)(hn:n.natAbs<9000000000000000000)(hdl:d<9000000000000000000):Gives cx.P 119 [.int .i64 n,.int .i64 d] C (strV (qtx (mkRat n d))):=by
 obtain ⟨g,hg⟩:∃ g,Nat.gcd n.natAbs d=g:=⟨_,rfl⟩
 have hg0:0<g:=by rw [<- hg];exact Nat.gcd_pos_of_pos_right _ hd
 have hgn:g ∣ n.natAbs:=by rw [<- hg];exact Nat.gcd_dvd_left _ _
 have hgd:g ∣ d:=by rw [<- hg];exact Nat.gcd_dvd_right _ _
 have hgl:g<=d:=Nat.le_of_dvd hd hgd
 rw [qtx_mk om_,hg]
 refine Fn.it kr_ Tryz.func119 35 fun w0=>?_
 refine G.z2 1 0 1 ?_
 refine G.z4 4 0 1 5 6 ?_
 refine G.loop (fun fr C' L' μ=>∃ (x y:Int),(x.natAbs<9000000000000000000/\y.natAbs<9000000000000000000/\Nat.gcd x.natAbs y.natAbs=g)/\fr=[(0,[],.int .i64 n),(1,[],.int .i64 d),(5,[],.int .i64 x),(6,[],.int .i64 y)]/\L'=[]/\μ=y.natAbs+1) (h_4 0 1 5 6) ⟨n,d,⟨hn,by omega,by rw [Int.natAbs_natCast];exact hg⟩,rfl,rfl,rfl⟩ (fun fr C0' L0' m hle0 hI=>?_)
 obtain ⟨x,y,⟨hxa,hya,hgi⟩,rfl,rfl,rfl⟩:=hI
 refine G.z5 2 0 1 5 6 10 ?_
 refine G.cd (fun h10=>?_) fun h10=>?_
 ·have hy0:y≠0:=by simpa using h10
  have hta:(x.tmod y).natAbs=x.natAbs % y.natAbs:=Int.natAbs_tmod x y
  have htl:=Nat.mod_lt x.natAbs (show 0<y.natAbs by omega)
  refine G.aH [0,1,2,3,4,5] [] rfl kr_ (fun R hB hR=>?_)
  refine D.ps 3 ?_
  refine D.eQ (x.tmod y) rfl rfl rfl rfl rfl rfl hy0 rfl rfl rfl ?_
  refine D.q4 2 0 1 5 6 hR ?_
  refine G.ax (m':=(x.tmod y).natAbs+1) om_ hle0 (h_4 0 1 5 6) ⟨y,x.tmod y,⟨hya,by omega,by rw [hta,<- hgi,Nat.gcd_comm x.natAbs,Nat.gcd_rec y.natAbs x.natAbs,Nat.gcd_comm]⟩,rfl,rfl,rfl⟩
 ·have hy0:y=0:=by simpa using h10
  subst hy0
  rw [show (0:Int).natAbs=0 from rfl,Nat.gcd_zero_right] at hgi
  refine G.z4 2 0 1 5 16 ?_
  refine G.cut (fun fr C' L' μ=>(True)/\fr=[(0,[],.int .i64 n),(1,[],.int .i64 d),(5,[],.int .i64 g)]/\L'=[]) ?_ (fun fr C16 L16 μ hle16 hI=>?_)
  ·refine G.cd (fun h16=>?_) fun h16=>?_
   ·have hx0:x<0:=by simpa using h16
    refine G.z3 3 0 1 5 ?_
    rw [show IntKind.i64.wrap (0-x)=(g:Int) by rw [wrap_i64 om_ om_];omega]
    refine G.aw 0 (Mem.le.refl _) (h_3 0 1 5) ⟨trivial,rfl,rfl⟩
   ·have hx0:¬ x<0:=by simpa using h16
    rw [show x=(g:Int) by omega]
    refine G.aw 0 (Mem.le.refl _) (h_3 0 1 5) ⟨trivial,rfl,rfl⟩
  ·obtain ⟨_,rfl,rfl⟩:=hI
   have hnq:(n / (g:Int)).natAbs<=n.natAbs:=by
    rw [Int.natAbs_ediv_of_dvd (Int.dvd_natAbs.1 (Int.natCast_dvd_natCast.2 hgn)),Int.natAbs_natCast]
    exact Nat.div_le_self _ _
   have hdq:=Nat.div_le_self d g
   refine G.aH [0,1,2,3,4,5,6,7] [] rfl kr_ (fun R hB hR=>?_)
   refine D.ps 2 ?_
   refine D.quoT (n / (g:Int)) rfl rfl rfl rfl rfl rfl om_ (quotT_dvd hgn) (wrap_i64 om_ om_) rfl rfl ?_
   refine D.ps 2 ?_
   refine D.quoN (d) (g) rfl rfl rfl rfl rfl rfl hg0 (.inl ⟨rfl,by omega⟩) rfl rfl ?_
   refine D.q2 2 0 1 hR ?_
   refine G.z3 2 0 1 26 ?_
   refine G.cd (fun h26=>?_) fun h26=>?_
   ·have h1:d / g=1:=by
     have h2:(((d / g:Nat):Int))=1:=by simpa using h26
     omega
    refine G.rp 1 fun R hR=>?_
    refine D.ai (itoaZ_g _ (hT.mono mup) _ om_ om_) rfl rfl rfl rfl rfl rfl rfl fl_ ?_
    refine D.q1 1 4 hR ?_
    refine G.rf ?_
    refine ⟨?_,rfl⟩
    rw [h1,dens_one rfl]
    simp [cT]
   ·have h1:d / g≠1:=by
     intro h2
     rw [h2] at h26
     exact absurd h26 (by decide)
    have hT1:=txt_len (n / (g:Int))
    have hT2:=txt_len ((d / g:Nat):Int)
    have hT3:(decS (n / (g:Int)).natAbs).length<=20:=cO (Nat.lt_of_le_of_lt hnq (Nat.lt_trans hn (by decide))) (by decide)
    have hT4:(decS ((d / g:Nat):Int).natAbs).length<=20:=cO (by rw [Int.natAbs_natCast];exact Nat.lt_of_le_of_lt hdq (Nat.lt_trans hdl (by decide))) (by decide)
    refine G.rp 1 fun R hR=>?_
    refine D.ai (itoaZ_g _ (hT.mono mup) _ om_ om_) rfl rfl rfl rfl rfl rfl rfl fl_ ?_
    refine D.cg rfl rfl rfl rfl rfl rfl (fun _=>(by simp only [List.length_cons,List.length_nil];omega)) rfl rfl ?_
    refine D.ac ?_
    refine D.ai (itoaZ_g _ (hT.mono mup) ((d / g:Nat):Int) (Int.le_trans (by decide) (Int.natCast_nonneg _)) (Int.le_trans (Int.ofNat_le.2 hdq) om_)) rfl rfl rfl rfl rfl rfl rfl fl_ ?_
    refine D.cg rfl rfl rfl rfl rfl rfl (fun _=>(by simp only [List.length_append,List.length_cons,List.length_nil];omega)) rfl rfl ?_
    refine D.q1 1 4 hR ?_
    refine G.rf ?_
    refine ⟨?_,rfl⟩
    rw [dI h1,bM,List.append_assoc]
    rfl
theorem join_fn (C:Mem)(z:Int)(d:Nat)(k:Nat)(hk0:0<k)(hk:k<=40000)(hz:z.natAbs<B9 ^ k)(hd:d<B9 ^ k):Gives cx.P 108 [strV (txt z),strV (decS d)] C (strV (txt z++cT (denS d))):=by
 have hzl:(txt z).length<=9*k+1:=by
  have:=a8 hz hk0
  unfold txt
  split
  ·simp;omega
  ·omega
 have hdl:=a8 hd hk0
 refine Fn.it kr_ Tryz.func108 12 fun w0=>?_
 refine G.z2 1 0 1 ?_
 refine G.z3 2 0 1 6 ?_
 refine G.cd (fun h6=>?_) fun h6=>?_
 ·have h1:d=1:=by rw [decEq1] at h6;exact of_decide_eq_true h6
  refine G.z1 2 4 ?_
  refine G.rf ?_
  refine ⟨?_,rfl⟩
  rw [dens_one h1]
  simp [cT]
 ·have h1:d≠1:=by rw [decEq1] at h6;exact of_decide_eq_false h6
  refine G.rp 1 fun R hR=>?_
  refine D.cg rfl rfl rfl rfl rfl rfl (fun _=>(by simp only [List.length_cons,List.length_nil];omega)) rfl rfl ?_
  refine D.ac ?_
  refine D.cg rfl rfl rfl rfl rfl rfl (fun _=>(by simp only [List.length_append,List.length_cons,List.length_nil];omega)) rfl rfl ?_
  refine D.q1 1 4 hR ?_
  refine G.rf ?_
  refine ⟨?_,rfl⟩
  rw [dI h1,List.append_assoc]
  rfl
theorem rparts_fn (C:Mem)(s:Str)(hl:s.length<1000000):Gives cx.P 96 [strV s] C (.tuple #[strV (cut1 47 s).1,strV ((cut1 47 s).2.getD [49])]):=by
 refine Fn.it kr_ Tryz.func96 18 fun w0=>?_
 refine G.z1 2 0 ?_
 refine G.rp 1 fun R hR=>?_
 refine D.ai (cut_fn _ s 47 om_) rfl rfl rfl rfl rfl rfl rfl fl_ ?_
 refine D.q3 7 4 5 6 hR ?_
 refine G.z3 2 4 5 14 ?_
 refine G.cd (fun h14=>?_) fun h14=>?_
 ·have h1:(cut1 47 s).2=none:=by
   cases h:(cut1 47 s).2 with
   | none=>rfl
   | some b=>rw [h] at h14;simp at h14
  refine G.z2 3 2 3 ?_
  refine G.az (G.dropAll (G.aK rfl rfl rfl ?_))
  refine ⟨?_,rfl⟩
  rw [h1]
  rfl
 ·obtain ⟨b,h1⟩:∃ b,(cut1 47 s).2=some b:=by
   cases h:(cut1 47 s).2 with
   | some b=>exact ⟨b,rfl⟩
   | none=>rw [h] at h14;simp at h14
  refine G.z2 4 2 3 ?_
  refine G.az (G.dropAll (G.aK rfl rfl rfl ?_))
  refine ⟨?_,rfl⟩
  rw [h1]
  rfl
theorem cut1_app {c:UInt8}:∀ {a:Str}(b:Str),c ∉ a->cut1 c (a++c::b)=(a,some b)
 | [],b,_=>by simp [cut1]
 | x::a,b,h=>by
  have hx:x≠c:=fun e=>h (e ▸ List.mem_cons_self)
  have hr:=cut1_app (c:=c) (a:=a) b (fun h2=>h (List.mem_cons_of_mem _ h2))
  simp only [List.cons_append,cut1,if_neg hx,hr]
theorem cut1_none {c:UInt8}:∀ {a:Str},c ∉ a->cut1 c a=(a,none)
 | [],_=>rfl
 | x::a,h=>by
  have hx:x≠c:=fun e=>h (e ▸ List.mem_cons_self)
  have hr:=cut1_none (c:=c) (a:=a) (fun h2=>h (List.mem_cons_of_mem _ h2))
  simp only [cut1,if_neg hx,hr]
theorem slash_dig {s:Str}(h:∀ c∈s,digB c=true):(47:UInt8) ∉ s:=fun h2=>absurd (h 47 h2) (by decide)
theorem slash_txt (z:Int):(47:UInt8) ∉ txt z:=by
 unfold txt
 split
 ·intro h
  rcases List.mem_cons.1 h with h | h
  ·cases h
  ·exact slash_dig (decS_dig _) h
 ·exact slash_dig (decS_dig _)
theorem cut1_qtx (q:Rat):cut1 47 (qtx q)=(txt q.num,denS q.den):=by
 rw [qtx_txt]
 unfold denS
 split
 ·rw [show cT none=[] from rfl,List.append_nil];exact cut1_none (slash_txt _)
 ·exact cut1_app _ (slash_txt _)
theorem one_dec:decS 1=[49]:=by rw [decS];rfl
theorem den_get (d:Nat):(denS d).getD [49]=decS d:=by
 unfold denS
 split
 ·rename_i h;subst h;exact one_dec.symm
 ·rfl
theorem parts_q (C:Mem)(q:Rat)(hl:(qtx q).length<1000000):Gives cx.P 96 [strV (qtx q)] C (.tuple #[strV (txt q.num),strV (decS q.den)]):=by
 have h:=rparts_fn C (qtx q) hl
 rwa [cut1_qtx,den_get] at h


def divS (z w:Int):Rat:=mkRat (if w<0 then -z else z) w.natAbs
theorem lowest_fn (C:Mem)(hT:Tabs C)(z w:Int)(k:Nat)(hk0:0<k)(hk:k<=40000)(hz:z.natAbs<B9 ^ k)(hw:w.natAbs<B9 ^ k)(hw0:w≠0):Gives cx.P 120 [strV (txt z),strV (txt w)] C (strV (qtx (divS z w))):=by
 have hzl:=a8 hz hk0
 have hwl:=a8 hw hk0
 obtain ⟨y,hy⟩:∃ y,(if w<0 then -z else z)=y:=⟨_,rfl⟩
 obtain ⟨d,hd⟩:∃ d,w.natAbs=d:=⟨_,rfl⟩
 have hd0:d≠0:=by omega
 have hya:y.natAbs=z.natAbs:=by rw [<- hy];split <;> omega
 obtain ⟨g,hg⟩:∃ g,Nat.gcd y.natAbs d=g:=⟨_,rfl⟩
 have hg0:0<g:=by rw [<- hg];exact Nat.gcd_pos_of_pos_right _ om_
 have hgd:g ∣ d:=by rw [<- hg];exact Nat.gcd_dvd_right _ _
 have hgl:g<=d:=Nat.le_of_dvd om_ hgd
 unfold divS
 rw [hy,hd,qtx_mk hd0,hg]
 refine Fn.it kr_ Tryz.func120 35 fun w0=>?_
 refine G.z2 1 0 1 ?_
 refine G.rp 1 fun R hR=>?_
 refine D.af (isign_fn _ w) ?_
 refine D.q3 1 0 1 8 hR ?_
 refine G.cut (fun fr C' L' μ=>(True)/\fr=[(0,[],strV (txt y)),(1,[],strV (txt (d:Nat)))]/\L'=[]) ?_ (fun fr C8 L8 μ hle8 hI=>?_)
 ·refine G.cd (fun h8=>?_) fun h8=>?_
  ·have hw1:w<0:=by
    have h:sgnZ w<0:=by simpa using h8
    unfold sgnZ at h
    split at h <;> omega
   rw [if_pos hw1] at hy
   refine G.rp 1 fun R hR=>?_
   refine D.ai (ineg_fn _ z om_) rfl rfl rfl rfl rfl rfl rfl fl_ ?_
   refine D.ac ?_
   refine D.ai (ineg_fn _ w om_) rfl rfl rfl rfl rfl rfl rfl fl_ ?_
   refine D.q2 2 0 1 hR ?_
   refine G.aw 0 (Mem.le.refl _) (h_2 0 1) ⟨trivial,by rw [hy,show -w=((d:Nat):Int) by omega],rfl⟩
  ·have hw1:¬ w<0:=by
    intro h2
    have h:¬ sgnZ w<0:=by simpa using h8
    unfold sgnZ at h
    split at h <;> omega
   rw [if_neg hw1] at hy
   refine G.aw 0 (Mem.le.refl _) (h_2 0 1) ⟨trivial,by rw [hy,show w=((d:Nat):Int) by omega],rfl⟩
 ·obtain ⟨_,rfl,rfl⟩:=hI
  refine G.rp 2 fun R hR=>?_
  refine D.ai (igcd_fn _ (hT.mono mup) y (d:Nat) k hk0 hk om_ om_) rfl rfl rfl rfl rfl rfl rfl fl_ ?_
  refine D.q3 1 0 1 5 hR ?_
  rw [Int.natAbs_natCast,hg]
  refine G.z4 2 0 1 5 17 ?_
  refine G.cut (fun fr C' L' μ=>(True)/\fr=[(0,[],strV (txt (y / (g:Nat)))),(1,[],strV (txt ((d / g:Nat):Int)))]/\L'=[]) ?_ (fun fr C17 L17 μ hle17 hI=>?_)
  ·refine G.cd (fun h17=>?_) fun h17=>?_
   ·refine G.rp 2 fun R hR=>?_
    refine D.ai (idivmod_fn _ (hT.mono mup) y (g:Nat) k hk0 hk om_ om_ om_) rfl rfl rfl rfl rfl rfl rfl fl_ ?_
    refine D.q3 5 0 1 5 hR ?_
    refine G.rp 2 fun R hR=>?_
    refine D.ai (idivmod_fn _ (hT.mono mup) (d:Nat) (g:Nat) k hk0 hk om_ om_ om_) rfl rfl rfl rfl rfl rfl rfl fl_ ?_
    refine D.q2 5 0 1 hR ?_
    refine G.aw 0 (Mem.le.refl _) (h_2 0 1) ⟨trivial,by rw [Int.natCast_ediv],rfl⟩
   ·have hg1:g=1:=by
     rw [bM,decEq1] at h17
     simpa using h17
    refine G.aw 0 (Mem.le.refl _) (h_2 0 1) ⟨trivial,by rw [hg1,Nat.div_one,Int.natCast_one,Int.ediv_one],rfl⟩
  ·obtain ⟨_,rfl,rfl⟩:=hI
   rw [bM]
   refine G.rp 2 fun R hR=>?_
   refine D.ai (join_fn _ (y / (g:Nat)) (d / g) k hk0 hk (by rw [Int.natAbs_ediv_of_dvd (Int.dvd_natAbs.1 (Int.natCast_dvd_natCast.2 (by rw [<- hg];exact Nat.gcd_dvd_left _ _))),Int.natAbs_natCast];exact Nat.lt_of_le_of_lt (Nat.div_le_self _ _) om_) (Nat.lt_of_le_of_lt (Nat.div_le_self _ _) om_)) rfl rfl rfl rfl rfl rfl rfl fl_ ?_
   refine D.q1 1 4 hR ?_
   refine G.rf ?_
   exact ⟨rfl,rfl⟩

theorem decS_eq {a b:Nat}(h:decS a=decS b):a=b:=by rw [<- (aO a).2,h,(aO b).2]
theorem txt_eq {z w:Int}(h:txt z=txt w):z=w:=by
 have h1:=bU z
 rw [h,bU w] at h1
 have h2:=decS_eq (Prod.mk.inj h1).1
 have h3:decide (w<0)=decide (z<0):=(Prod.mk.inj h1).2
 by_cases hw:w<0
 ·rw [decide_eq_true hw] at h3
  have:=of_decide_eq_true h3.symm
  omega
 ·rw [decide_eq_false hw] at h3
  have:=of_decide_eq_false h3.symm
  omega
theorem qtx_eq {a b:Rat}(h:qtx a=qtx b):a=b:=by
 have h1:=cut1_qtx a
 rw [h,cut1_qtx b] at h1
 have h2:=txt_eq (Prod.mk.inj h1).1
 have h3:=congrArg denV (Prod.mk.inj h1).2
 rw [denV_denS,denV_denS] at h3
 exact Rat.ext h2.symm h3.symm
theorem qtxEq (a b:Rat):((⟨(qtx a).toArray⟩:ByteArray).data.toList == (⟨(qtx b).toArray⟩:ByteArray).data.toList)=decide (a=b):=by
 show (qtx a == qtx b)=_
 rw [Bool.eq_iff_iff,beq_iff_eq,decide_eq_true_eq]
 exact ⟨qtx_eq,fun h=>by rw [h]⟩
theorem qtx_zero:qtx 0=[48]:=by
 rw [show (0:Rat)=((0:Int):Rat) from rfl,qtx_int]
 unfold txt
 rw [if_neg om_,show decS (0:Int).natAbs=decS 0 from rfl,decS];rfl
theorem eo:qtx 1=[49]:=by
 rw [show (1:Rat)=((1:Int):Rat) from rfl,qtx_int]
 exact one_val.symm
theorem qtxEq0 (a:Rat):((⟨(qtx a).toArray⟩:ByteArray).data.toList == (⟨#[48]⟩:ByteArray).data.toList)=decide (a=0):=by
 have h:=qtxEq a 0
 rwa [qtx_zero] at h
theorem qtxEq1 (a:Rat):((⟨(qtx a).toArray⟩:ByteArray).data.toList == (⟨#[49]⟩:ByteArray).data.toList)=decide (a=1):=by
 have h:=qtxEq a 1
 rwa [eo] at h
theorem qtx_ne (a:Rat):0<(qtx a).length:=by
 unfold qtx
 rw [List.length_append,List.length_append]
 have:=List.length_pos_iff.2 (decS_ne a.num.natAbs)
 omega
theorem bk {q:Rat}{k:Nat}(h:QB k q)(hk:0<k):(qtx q).length<=18*k+2:=by
 unfold qtx
 rw [List.length_append,List.length_append]
 have h1:=a8 h.1 hk
 have h2:=a8 h.2 hk
 have h3:(preS (decide (q.num<0))).length<=1:=by cases decide (q.num<0) <;> simp [preS]
 have h4:(cT (denS q.den)).length<=9*k+1:=by
  unfold denS
  split
  ·simp [cT]
  ·simp [cT];exact h2
 omega
theorem qtx_head (q:Rat):∃ c r,qtx q=c::r/\((((c.toNat:Nat):Int) == 45)=decide (q.num<0)):=by
 by_cases h:q.num<0
 ·refine ⟨45,decS q.num.natAbs++cT (denS q.den), ?_,by rw [decide_eq_true h];decide⟩
  unfold qtx
  rw [decide_eq_true h]
  rfl
 ·obtain ⟨c,r,hc⟩:∃ c r,decS q.num.natAbs=c::r:=List.exists_cons_of_ne_nil (decS_ne _)
  refine ⟨c,r++cT (denS q.den), ?_, ?_⟩
  ·unfold qtx
   rw [decide_eq_false h,hc]
   rfl
  ·have h2:=decS_dig q.num.natAbs c (by rw [hc];exact List.mem_cons_self)
   rw [decide_eq_false h]
   unfold digB at h2
   have h3:=of_decide_eq_true h2
   exact decide_eq_false om_
theorem dV {q:Rat}(h:¬ q.num<0)(h0:q≠0):qtx (-q)=45::qtx q:=by
 have hn:q.num≠0:=fun e=>h0 (Rat.num_eq_zero.1 e)
 unfold qtx
 rw [Rat.neg_num,Rat.neg_den,decide_eq_true om_,decide_eq_false h,Int.natAbs_neg]
 rfl
theorem qtx_neg_of_neg {q:Rat}(h:q.num<0):qtx q=45::qtx (-q):=by
 have h2:=dV (q:=-q) (by rw [Rat.neg_num];omega) (by intro e;have h3:=congrArg Rat.num e;rw [Rat.neg_num] at h3;have h4:(0:Rat).num=0:=rfl;omega)
 rwa [Rat.neg_neg] at h2
def fitQ (q:Rat):Bool:=fit9 (decS q.num.natAbs) (denS q.den)
theorem fit_lt {n:Nat}(h:(decS n).length<=9):n<1000000000:=by
 have h1:=co (decS_dig n)
 rw [(aO n).2] at h1
 exact Nat.lt_of_lt_of_le h1 (Nat.le_trans (Nat.pow_le_pow_right (by decide) h) (by decide))
theorem fitQ_lt {q:Rat}(h:fitQ q=true):q.num.natAbs<1000000000/\q.den<1000000000:=by
 unfold fitQ fit9 at h
 rw [Bool.and_eq_true,decide_eq_true_eq,decide_eq_true_eq] at h
 refine ⟨fit_lt h.1, ?_⟩
 by_cases h1:q.den=1
 ·omega
 ·rw [dI h1] at h
  exact fit_lt h.2
theorem rquick_fn (C:Mem)(q:Rat)(hl:(qtx q).length<=1000000):Gives cx.P 95 [strV (qtx q)] C (if fitQ q then .tuple #[.int .i64 q.num,.int .i64 (q.den:Nat),.bool true] else .tuple #[.int .i64 0,.int .i64 0,.bool false]):=by
 have h:=rquick_raw C (decide (q.num<0)) (decS q.num.natAbs) (denS q.den) (decS_dig _) (decS_ne _) (denS_dig _) hl
 unfold quickV at h
 rw [(aO _).2,denV_denS] at h
 have e:sgZ (decide (q.num<0)) q.num.natAbs=q.num:=by
  unfold sgZ
  by_cases h:q.num<0
  ·rw [decide_eq_true h,if_pos rfl];omega
  ·rw [decide_eq_false h,if_neg (by decide)];omega
 rw [e] at h
 exact h
theorem rneg_fn (C:Mem)(q:Rat)(hl:(qtx q).length<=1000000):Gives cx.P 62 [strV (qtx q)] C (strV (qtx (-q))):=by
 have hpos:=qtx_ne q
 refine Fn.it kr_ Tryz.func62 13 fun w0=>?_
 refine G.z1 1 0 ?_
 refine G.z2 2 0 4 ?_
 refine G.cd (fun h4=>?_) fun h4=>?_
 ·have h0:q=0:=by rw [qtxEq0] at h4;exact of_decide_eq_true h4
  refine G.z1 2 2 ?_
  refine G.rf ?_
  refine ⟨?_,rfl⟩
  rw [h0,Rat.neg_zero]
 ·have h0:q≠0:=by rw [qtxEq0] at h4;exact of_decide_eq_false h4
  obtain ⟨c,r,hcr,hcd⟩:=qtx_head q
  refine G.rp 1 fun R hR=>?_
  refine D.bf rfl rfl rfl rfl rfl rfl rfl rfl (fun _=>⟨by omega,by rw [hcr];rfl⟩) rfl rfl ?_
  refine D.q2 1 0 8 hR ?_
  refine G.cd (fun h8=>?_) fun h8=>?_
  ·have hn:q.num<0:=by rw [hcd] at h8;exact of_decide_eq_true h8
   refine G.rp 1 fun R hR=>?_
   refine D.bu 1 (qtx q).length rfl rfl rfl rfl rfl rfl rfl rfl rfl (fun _=>⟨.inr ⟨_,rfl⟩,.inl ⟨rfl,rfl⟩,.inl ⟨rfl,rfl⟩,by omega,Nat.le_refl _,Nat.le_refl _⟩) rfl rfl ?_
   refine D.q1 1 2 hR ?_
   refine G.rf ?_
   refine ⟨?_,rfl⟩
   rw [List.take_length,qtx_neg_of_neg hn]
   rfl
  ·have hn:¬ q.num<0:=by rw [hcd] at h8;exact of_decide_eq_false h8
   refine G.rp 1 fun R hR=>?_
   refine D.cg rfl rfl rfl rfl rfl rfl (fun _=>(by simp only [List.length_cons,List.length_nil];omega)) rfl rfl ?_
   refine D.q1 1 2 hR ?_
   refine G.rf ?_
   refine ⟨?_,rfl⟩
   rw [dV hn h0]
   rfl
theorem rsign_fn (C:Mem)(q:Rat)(hl:(qtx q).length<=1000000):Gives cx.P 57 [strV (qtx q)] C (.int .i64 (sgnZ q.num)):=by
 obtain ⟨c,r,hcr,hcd⟩:=qtx_head q
 have hpos:=qtx_ne q
 refine Fn.it kr_ Tryz.func57 15 fun w0=>?_
 refine G.z1 1 0 ?_
 refine G.z2 3 0 3 ?_
 refine G.cd (fun h3=>?_) fun h3=>?_
 ·have h0:q=0:=by rw [qtxEq0] at h3;exact of_decide_eq_true h3
  refine G.z1 1 2 ?_
  refine G.rf ?_
  refine ⟨?_,rfl⟩
  rw [h0]
  rfl
 ·have h0:q≠0:=by rw [qtxEq0] at h3;exact of_decide_eq_false h3
  have hn0:q.num≠0:=fun e=>h0 (Rat.num_eq_zero.1 e)
  refine G.rp 5 fun R hR=>?_
  refine D.bf rfl rfl rfl rfl rfl rfl rfl rfl (fun _=>⟨by omega,by rw [hcr];rfl⟩) rfl rfl ?_
  refine D.ac ?_
  refine D.aq ?_
  refine D.q1 1 6 hR ?_
  refine G.cd (fun h6=>?_) fun h6=>?_
  ·rw [hcd] at h6
   have hn:q.num<0:=by
    have h:=(Bool.and_eq_true _ _ ▸ h6:_/\_).2
    exact of_decide_eq_true h
   skip
   refine G.z1 1 2 ?_
   refine G.rf ?_
   refine ⟨?_,rfl⟩
   unfold sgnZ
   rw [if_pos hn]
  ·rw [hcd,decide_eq_true (show (0:Int)<((⟨(qtx q).toArray⟩:ByteArray).data.toList.length:Int) by show (0:Int)<(((qtx q).length:Nat):Int);omega),Bool.true_and] at h6
   have hn:¬ q.num<0:=of_decide_eq_false h6
   refine G.z1 1 2 ?_
   refine G.rf ?_
   refine ⟨?_,rfl⟩
   unfold sgnZ
   rw [if_neg hn,if_neg hn0]

theorem rquick_q (C:Mem)(q:Rat)(hl:(qtx q).length<=1000000):Gives cx.P 95 [strV (qtx q)] C (.tuple #[.int .i64 (if fitQ q then q.num else 0),.int .i64 (if fitQ q then ((q.den:Nat):Int) else 0),.bool (fitQ q)]):=by
 have h:=rquick_fn C q hl
 cases hf:fitQ q with
 | true=>rw [hf] at h;exact h
 | false=>rw [hf] at h;exact h
def cmpQ (a b:Rat):Int:=if a<b then -1 else if b<a then 1 else 0
theorem cmpQ_of {a b:Rat}:cmpQ a b=cmpZ (a.num*b.den) (b.num*a.den):=by
 unfold cmpQ cmpZ
 simp only [Rat.lt_iff]
theorem ep (a:Rat):0<a.den:=Nat.pos_of_ne_zero a.den_nz
theorem nine_mul {a:Int}{d:Nat}(ha:a.natAbs<1000000000)(hd:d<1000000000):-1000000000000000000<a*(d:Int)/\a*(d:Int)<1000000000000000000:=prod18 ha (by rw [Int.natAbs_natCast];exact hd)
theorem nine_mulN {a d:Nat}(ha:a<1000000000)(hd:d<1000000000):a*d<1000000000000000000:=Nat.mul_lt_mul'' ha hd
theorem parts_z (C:Mem)(q:Rat)(hl:(qtx q).length<1000000):Gives cx.P 96 [strV (qtx q)] C (.tuple #[strV (txt q.num),strV (txt ((q.den:Nat):Int))]):=by
 have h:=parts_q C q hl
 rwa [<- bM] at h
theorem cD {z w:Int}{k:Nat}(hz:z.natAbs<B9 ^ k)(hw:w.natAbs<B9 ^ k):(z*w).natAbs<B9 ^ (k+k):=by
 rw [Int.natAbs_mul]
 exact prod_lt9 hz hw
theorem divS_pos {z:Int}{d:Nat}(hd:0<d):divS z ((d:Nat):Int)=mkRat z d:=by
 unfold divS
 rw [if_neg om_,Int.natAbs_natCast]
theorem denI {k:Nat}{q:Rat}(h:QB k q):((q.den:Nat):Int).natAbs<B9 ^ k:=by rw [Int.natAbs_natCast];exact h.2
theorem rcompare_fn (C:Mem)(hT:Tabs C)(a b:Rat)(k:Nat)(hk0:0<k)(hk:k<=20000)(ha:QB k a)(hb:QB k b):Gives cx.P 58 [strV (qtx a),strV (qtx b)] C (.int .i64 (cmpQ a b)):=by
 have hal:=bk ha hk0
 have hbl:=bk hb hk0
 refine Fn.it kr_ Tryz.func58 65 fun w0=>?_
 refine G.z2 1 0 1 ?_
 refine G.z3 3 0 1 19 ?_
 refine G.cd (fun h19=>?_) fun h19=>?_
 ·have h0:a=b:=by rw [qtxEq] at h19;exact of_decide_eq_true h19
  refine G.z1 1 4 ?_
  refine G.rf ?_
  refine ⟨?_,rfl⟩
  subst h0
  rw [cmpQ,if_neg (Rat.lt_irrefl),if_neg (Rat.lt_irrefl)]
 ·refine G.rp 1 fun R hR=>?_
  refine D.ai (rquick_q _ a om_) rfl rfl rfl rfl rfl rfl rfl fl_ ?_
  refine D.q5 7 0 1 5 6 7 hR ?_
  refine G.z5 1 0 1 5 6 26 ?_
  refine G.cut (fun fr C' L' μ=>(True)/\fr=[(0,[],strV (qtx a)),(1,[],strV (qtx b))]/\L'=[]) ?_ (fun fr C26 L26 μ hle26 hI=>?_)
  ·refine G.cd (fun h26=>?_) fun h26=>?_
   ·have hfa:fitQ a=true:=h26
    rw [if_pos hfa,if_pos hfa]
    have ha9:=fitQ_lt hfa
    refine G.rp 1 fun R hR=>?_
    refine D.ai (rquick_q _ b om_) rfl rfl rfl rfl rfl rfl rfl fl_ ?_
    refine D.q7 7 0 1 5 6 8 9 10 hR ?_
    refine G.z7 1 0 1 5 6 8 9 33 ?_
    refine G.cd (fun h33=>?_) fun h33=>?_
    ·have hfb:fitQ b=true:=h33
     rw [if_pos hfb,if_pos hfb]
     have hb9:=fitQ_lt hfb
     have hm1:=nine_mul ha9.1 hb9.2
     have hm2:=nine_mul hb9.1 ha9.2
     refine G.rp 2 fun R hR=>?_
     refine D.am _ ?_
     refine D.ps 2 ?_
     refine D.am _ ?_
     refine D.q2 2 11 12 hR ?_
     refine G.z3 4 11 12 40 ?_
     refine G.cd (fun h40=>?_) fun h40=>?_
     ·have h1:=of_decide_eq_true h40
      refine G.z1 1 4 ?_
      refine G.rf ?_
      refine ⟨?_,rfl⟩
      rw [cmpQ_of,cmpZ,if_pos h1]
     ·have h1:=of_decide_eq_false h40
      refine G.z1 4 44 ?_
      refine G.cd (fun h44=>?_) fun h44=>?_
      ·have h2:=of_decide_eq_true h44
       refine G.z1 1 4 ?_
       refine G.rf ?_
       refine ⟨?_,rfl⟩
       rw [cmpQ_of,cmpZ,if_neg h1,if_pos h2]
      ·have h2:=of_decide_eq_false h44
       refine G.z1 1 4 ?_
       refine G.rf ?_
       refine ⟨?_,rfl⟩
       rw [cmpQ_of,cmpZ,if_neg h1,if_neg h2]
    ·refine G.aw 0 (Mem.le.refl _) (h_2 0 1) ⟨trivial,rfl,rfl⟩
   ·refine G.aw 0 (Mem.le.refl _) (h_2 0 1) ⟨trivial,rfl,rfl⟩
  ·obtain ⟨_,rfl,rfl⟩:=hI
   refine G.rp 1 fun R hR=>?_
   refine D.ai (parts_z _ a om_) rfl rfl rfl rfl rfl rfl rfl fl_ ?_
   refine D.q3 5 1 13 14 hR ?_
   refine G.rp 1 fun R hR=>?_
   refine D.ai (parts_z _ b om_) rfl rfl rfl rfl rfl rfl rfl fl_ ?_
   refine D.q4 5 13 14 15 16 hR ?_
   refine G.rp 2 fun R hR=>?_
   refine D.ai (imul_fn _ (hT.mono mup) _ _ k hk0 om_ ha.1 (denI hb)) rfl rfl rfl rfl rfl rfl rfl fl_ ?_
   refine D.ps 2 ?_
   refine D.ai (imul_fn _ (hT.mono mup) _ _ k hk0 om_ hb.1 (denI ha)) rfl rfl rfl rfl rfl rfl rfl fl_ ?_
   refine D.ai (icompare_fn _ _ _ (by have:=a8 (cD ha.1 (denI hb)) om_;omega) (by have:=a8 (cD hb.1 (denI ha)) om_;omega)) rfl rfl rfl rfl rfl rfl rfl fl_ ?_
   refine D.q1 1 4 hR ?_
   refine G.rf ?_
   exact ⟨by rw [cmpQ_of],rfl⟩
theorem radd_fn (C:Mem)(hT:Tabs C)(a b:Rat)(k:Nat)(hk0:0<k)(hk:k<=10000)(ha:QB k a)(hb:QB k b):Gives cx.P 77 [strV (qtx a),strV (qtx b)] C (strV (qtx (a+b))):=by
 have hal:=bk ha hk0
 have hbl:=bk hb hk0
 have hda:=ep a
 have hdb:=ep b
 have hdd:0<a.den*b.den:=Nat.mul_pos hda hdb
 refine Fn.it kr_ Tryz.func77 67 fun w0=>?_
 refine G.z2 1 0 1 ?_
 refine G.z3 2 0 1 16 ?_
 refine G.cd (fun h16=>?_) fun h16=>?_
 ·have h0:a=0:=by rw [qtxEq0] at h16;exact of_decide_eq_true h16
  refine G.z1 2 4 ?_
  refine G.rf ?_
  refine ⟨?_,rfl⟩
  rw [h0,Rat.zero_add]
 ·refine G.z3 2 0 1 19 ?_
  refine G.cd (fun h19=>?_) fun h19=>?_
  ·have h0:b=0:=by rw [qtxEq0] at h19;exact of_decide_eq_true h19
   refine G.z1 2 4 ?_
   refine G.rf ?_
   refine ⟨?_,rfl⟩
   rw [h0,Rat.add_zero]
  ·refine G.rp 1 fun R hR=>?_
   refine D.ai (rquick_q _ a om_) rfl rfl rfl rfl rfl rfl rfl fl_ ?_
   refine D.q5 7 0 1 5 6 7 hR ?_
   refine G.z5 1 0 1 5 6 27 ?_
   refine G.cut (fun fr C' L' μ=>(True)/\fr=[(0,[],strV (qtx a)),(1,[],strV (qtx b))]/\L'=[]) ?_ (fun fr C27 L27 μ hle27 hI=>?_)
   ·refine G.cd (fun h27=>?_) fun h27=>?_
    ·have hfa:fitQ a=true:=h27
     rw [if_pos hfa,if_pos hfa]
     have ha9:=fitQ_lt hfa
     refine G.rp 1 fun R hR=>?_
     refine D.ai (rquick_q _ b om_) rfl rfl rfl rfl rfl rfl rfl fl_ ?_
     refine D.q7 7 0 1 5 6 8 9 10 hR ?_
     refine G.z7 1 0 1 5 6 8 9 34 ?_
     refine G.cd (fun h34=>?_) fun h34=>?_
     ·have hfb:fitQ b=true:=h34
      rw [if_pos hfb,if_pos hfb]
      have hb9:=fitQ_lt hfb
      have hm1:=nine_mul ha9.1 hb9.2
      have hm2:=nine_mul hb9.1 ha9.2
      have hm3:=nine_mulN ha9.2 hb9.2
      refine G.rp 2 fun R hR=>?_
      refine D.am _ ?_
      refine D.ps 2 ?_
      refine D.am _ ?_
      refine D.am _ ?_
      refine D.ps 2 ?_
      refine D.cG (((a.den*b.den:Nat):Int)) rfl rfl rfl rfl (Int.natCast_mul _ _).symm om_ om_ rfl rfl ?_
      refine D.ai (rsmall_fn _ (hT.mono mup) _ _ hdd om_ om_) rfl rfl rfl rfl rfl rfl rfl fl_ ?_
      refine D.q1 1 4 hR ?_
      refine G.rf ?_
      exact ⟨by rw [rat_add_mk],rfl⟩
     ·refine G.aw 0 (Mem.le.refl _) (h_2 0 1) ⟨trivial,rfl,rfl⟩
    ·refine G.aw 0 (Mem.le.refl _) (h_2 0 1) ⟨trivial,rfl,rfl⟩
   ·obtain ⟨_,rfl,rfl⟩:=hI
    refine G.rp 1 fun R hR=>?_
    refine D.ai (parts_z _ a om_) rfl rfl rfl rfl rfl rfl rfl fl_ ?_
    refine D.q3 5 1 11 12 hR ?_
    refine G.rp 1 fun R hR=>?_
    refine D.ai (parts_z _ b om_) rfl rfl rfl rfl rfl rfl rfl fl_ ?_
    refine D.q4 5 11 12 13 14 hR ?_
    refine G.rp 2 fun R hR=>?_
    refine D.ai (imul_fn _ (hT.mono mup) _ _ k hk0 om_ ha.1 (denI hb)) rfl rfl rfl rfl rfl rfl rfl fl_ ?_
    refine D.ps 2 ?_
    refine D.ai (imul_fn _ (hT.mono mup) _ _ k hk0 om_ hb.1 (denI ha)) rfl rfl rfl rfl rfl rfl rfl fl_ ?_
    refine D.ai (iadd_fn _ (hT.mono mup) _ _ (k+k) om_ om_ (cD ha.1 (denI hb)) (cD hb.1 (denI ha))) rfl rfl rfl rfl rfl rfl rfl fl_ ?_
    refine D.ps 2 ?_
    refine D.ai (imul_fn _ (hT.mono mup) _ _ k hk0 om_ (denI ha) (denI hb)) rfl rfl rfl rfl rfl rfl rfl fl_ ?_
    refine D.ai (lowest_fn _ (hT.mono mup) _ _ (k+k+1) om_ om_ (Nat.lt_of_le_of_lt (Int.natAbs_add_le _ _) (sum_lt9 (cD ha.1 (denI hb)) (cD hb.1 (denI ha)))) (bT (cD (denI ha) (denI hb)) om_) (by rw [<- Int.natCast_mul];omega)) rfl rfl rfl rfl rfl rfl rfl fl_ ?_
    refine D.q1 1 4 hR ?_
    refine G.rf ?_
    exact ⟨by rw [rat_add_mk,<- Int.natCast_mul,divS_pos hdd],rfl⟩
end Go.Proofs.YtllimhhofkcgpaaGreatDoor
