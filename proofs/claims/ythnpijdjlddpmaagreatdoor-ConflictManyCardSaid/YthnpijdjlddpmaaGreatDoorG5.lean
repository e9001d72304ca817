/- Laws that the proofs of this seat share, part 5. -/
import Derived.Test.YthnpijdjlddpmaaGreatDoorG4
import Derived.Test.YthnpijdjlddpmaaGreatDoorShelf
set_option maxHeartbeats 4000000
namespace Go.Proofs.YthnpijdjlddpmaaGreatDoor
open Tryz
open Go Go.Jog
set_option maxRecDepth 100000
variable {Q a b j k:Nat}{l:List Nat}{m t:Nat}{w:Int}{x:Nat}{z:Int}
theorem Ak (k:Nat)(s:Str):cR (List.replicate k 48++s)=cR s:=by
 induction k with
 | zero=>rfl
 | succ k a=>rw [MX,ND,dw,a];simp
theorem Iy (h:x<1000000000):uc 9 x=List.replicate (9-(bP x).length) 48++bP x:=by
 obtain ⟨h1,h2,h3⟩:=rN 9 x h;obtain ⟨h4,h5⟩:=bN x;have b:(bP x).length<=9:=iY om_ om_;refine wg h2 (fun c a=>?_) (by rw [h1];simp;omega) (by rw [h3,Ak,h5]);rcases Mh.1 a with a | a
 ·rw [NT a];rfl
 ·exact h4.1 c a
def GV (l:List Nat)(j:Nat)(s:Str):Prop:=(j=0/\s=[])∨(0<j/\yU s/\cR s=bj (l.drop (l.length-j))/\0<cR s)
theorem zL {s:Str}(b:vn l)(d:j<l.length)(h:GV l j s):GV l (j+1) (s++if j=0 then bP (g9 l (l.length-1-j)) else uc 9 (g9 l (l.length-1-j))):=by
 have a:l[l.length-1-j]?=some (g9 l (l.length-1-j)):=uy om_;refine .inr ⟨by omega, ?_⟩;rw [show l.length-(j+1)=l.length-1-j by omega];rcases h with ⟨rfl,rfl⟩ | ⟨h0,h1,h2,h3⟩
 ·rw [aI rfl,Nu];obtain ⟨h4,h5⟩:=bN (g9 l (l.length-1-0));have c:bj (l.drop (l.length-1-0))=g9 l (l.length-1-0):=by
   rw [MB om_,show l.length-1-0+1=l.length by omega,Nm];rw [aj om_] at a;rw [Nc a];show _+B9*0=_;omega
  refine ⟨h4,by rw [h5,c], ?_⟩;rw [h5];rcases NL (g9 l (l.length-1-0)) with h | h
  ·rw [h] at a;exact absurd (by rw [Oq];exact a) b.2
  ·exact h
 ·rw [aC om_];rw [show l.length-j=l.length-1-j+1 by omega] at h2;exact zS b.1 a h1 h2 h3
theorem jd (C:Mem)(V:Tabs C)(m:Bool)(v:Value)(n:Nat)(W:NineC C v n)(X:n<B9 ^ 100000):Gives cx.P 216 [.agg ⟨[.bool m,v]⟩] C (al (txt (sgZ m n))):=by
 obtain ⟨ls,J,K,ai,hs⟩:=W.get X;obtain ⟨A,c,rfl,_⟩:=id hs;simp only [ax] at hs ⊢;refine Qf kr_ func216 Z 34 Z Z fun w0=>Pb fun R a=>Pr U6 fun L=>C4 1 [1] a Z<|G.freeze 0 Z fun _ _ o=>O7 1 Z fun R a=>O8 (PtrTo.block (Mem.get o mup) _) U8<|C4 2 [1,10] a Z<|O9 (fun y=>?_) fun y=>?_
 ·have M:ls=[]:=by
   have:(ls.length:Int)=0:=by simpa using y
   exact MA om_
  refine C6 1 [2] Z<|Pl (P8 (He Z Z) ?_ Gt);subst M;refine ⟨?_,Z⟩;rw [<- K,(xh (sgZ m (bj []))).2 (by cases m <;> rfl)];rfl
 ·have M:0<ls.length:=by
   have:¬ (ls.length:Int)=0:=by simpa using y
   omega
  obtain ⟨d,g⟩:∃ d:Str,(if m then [45] else [])=d:=⟨_,rfl⟩;have aj:d.length<=1:=by rw [<- g];split <;> simp
  refine Pb fun R a=>Pq U5 fun b=>Pd [1,3] a Z<|G.nilArr 5 1<|G.perm (L':=[.obj b (.cells ⟨[.pointer none,.slice none 0 0]⟩ 354 (0,0)),.arr (.slice none 0 0) 5 1 0 []]) (List.Perm.swap _ _ _)<|O7 1 Z fun R a=>O8 (PtrTo.block (Mem.get o mup) _) U8<|Pd [1,3,12] a Z<|G.cut (fun fr C' e z=>∃ (q:Option Addr)(w:Value),(q=none∨q=some ⟨b,0,none⟩)/\fr=[(1,[],.pointer (some ⟨L,0,none⟩)),(3,[],.pointer (some ⟨b,0,none⟩))]/\e=[.obj b (.cells ⟨[.pointer q,w]⟩ 354 (0,0)),.arr w 5 1 d.length (u8s d)]) ?_ (fun fr _ ak z _ f=>?_)
  ·refine O9 (fun B=>?_) fun B=>?_
   ·rw [aI B] at g;subst g;refine Px [(0,3)] Z fun R a=>D.call (tf _ b none (.slice none 0 0) [] 45 (.inl Z) (by simp)) Z (.inr dc_) U6 (LR _) fl_ fun am _ an _ Y=>Pd [1,3] a Z ?_;obtain ⟨w1,rfl⟩:=Y;refine Pj 0 mup (hn_ [1,3] Z) ⟨some ⟨b,0,none⟩,w1,.inr Z,Z,Z⟩
   ·rw [aC (by rw [B];decide)] at g;subst g;refine Pj 0 mup (hn_ [1,3] Z) ⟨none,.slice none 0 0,.inl Z,Z,Z⟩
  ·obtain ⟨q ,w,hq,rfl,rfl⟩:=f;refine O7 1 Z fun R a=>O8 (PtrTo.block (Mem.get o mup) _) U8<|PK (yI _ A ls.length c) U7 fun ao _ _ aa=>Pd [1,3,16] a Z ?_;obtain ⟨bb,rfl,ab⟩:=aa;refine Po (L':=[.obj b (.cells ⟨[.pointer q,w]⟩ 354 (0,0)),.arr w 5 1 (d++[]).length (u8s (d++[]))]) (by rw [Mi])<|G.rangeFunc Z Z Z kr_ (qQ _ bb _ _ ls ab hs.m_ om_) (fun j e=>∃ (q:Option Addr)(w:Value)(s:Str),((q=none∨q=some ⟨b,0,none⟩)/\GV ls j s/\s.length<=9*j)/\e=[.obj b (.cells ⟨[.pointer q,w]⟩ 354 (0,0)),.arr w 5 1 (d++s).length (u8s (d++s))]) ⟨q,w,[],⟨hq,.inl ⟨Z,Z⟩,by simp⟩,Z⟩ Z (fun _ _=>rfl) (fun u v=>[(1,[],.pointer (some ⟨L,0,none⟩)),(3,[],.pointer (some ⟨b,0,none⟩)),(4,[],u),(5,[],v)]) (fun l u v W1 e=>?_) (fun l j u v e W1 f E=>?_) (fun bD e f=>?_)
   ·exact C6 1 [1,3,4,18] Z<|C6 1 [1,3,4,5] Z<|QZ ⟨Z,Z,Z,Z,trivial⟩
   ·obtain ⟨q,w,s,⟨F,p,N⟩,rfl⟩:=f;have O:j<ls.length:=by have:=(aX.1 E).1;rwa [fg] at this
    rw [sP O] at E;cases E
    have Q:=zL J O p;obtain ⟨x,H⟩:∃ x,g9 ls (ls.length-1-j)=x:=⟨_,rfl⟩;have i:x<B9:=by rw [<- H];exact jG J.1 _
    rw [show ls.getD (ls.length-1-j) 0=x from H];rw [H] at Q;have ap:(bP x).length<=9:=iY (by rw [B9v] at i;omega) om_;have ac:=Iy (x:=x) (by rw [B9v] at i;exact i);have aq:(uc 9 x).length=9:=(rN 9 x (by rw [B9v] at i;omega)).1;refine O7 1 Z fun R a=>Pp (zU _ V.m_ x (by rw [B9v] at i;omega)) U7 fl_<|C4 1 [1,3,4,6] a Z<|O7 2 Z fun R a=>O8 (PtrTo.block (Mem.get o mup) _) U8<|Pa U6<|Pi _ U7<|C4 1 [3,6,26] a Z<|G.cut (fun fr C' e z=>∃ (k:Option Addr)(r:Value)(t:Str),((k=none∨k=some ⟨b,0,none⟩)/\t++bP x=d++(s++if j=0 then bP x else uc 9 x)/\t.length<=9*j+10)/\fr=[(3,[],.pointer (some ⟨b,0,none⟩)),(6,[],al (bP x))]/\e=[.obj b (.cells ⟨[.pointer k,r]⟩ 354 (0,0)),.arr r 5 1 t.length (u8s t)]) ?_ (fun fr _ ar z _ f=>?_)
    ·refine O9 (fun I=>?_) fun I=>?_
     ·have S:0<j:=by
       have:((ls.length-1-j:Nat):Int)<(ls.length:Int)-1:=by simpa using I
       omega
      refine Px [(3,3)] Z fun R a=>Pc 2 Z<|P2 (bP x).length 9 U9 (fun _=>⟨.inr ⟨_,Z⟩,.inl ⟨Z,Z⟩,.inl ⟨Z,Z⟩,by omega,LP _,LP _⟩) U2 ?_;rw [show ((([48,48,48,48,48,48,48,48,48]:Str).take 9).drop (bP x).length)=List.replicate (9-(bP x).length) 48 from by rw [show (([48,48,48,48,48,48,48,48,48]:Str).take 9)=List.replicate 9 48 from rfl,List.drop_replicate]];refine D.call (jp _ b q w (d++s) (List.replicate (9-(bP x).length) 48) F (by simp;omega)) Z (.inr dc_) U6 (LR _) fl_ fun au _ av _ ad=>Pd [3,6] a Z ?_;obtain ⟨w1,rfl⟩:=ad;refine Pj 0 mup (hn_ [3,6] Z) ⟨some ⟨b,0,none⟩,w1,_,⟨.inr Z,by rw [aC om_,ac];simp [],by simp;omega⟩,Z,Z⟩
     ·have S:j=0:=by
       have:¬ ((ls.length-1-j:Nat):Int)<(ls.length:Int)-1:=by simpa using I
       omega
      refine Pj 0 mup (hn_ [3,6] Z) ⟨q,w,d++s,⟨F,by rw [aI S,Mo],by simp;omega⟩,Z,Z⟩
    ·obtain ⟨k ,r ,t,⟨ae,af,aw⟩,rfl,rfl⟩:=f;refine Px [(1,3)] Z fun R a=>Pa U6<|D.call (jp _ b k r t (bP x) ae om_) Z (.inr dc_) U6 (LR _) fl_ fun ay _ az _ ag=>P0 [] trivial (a _ _ _ Z ?_);obtain ⟨w4,rfl⟩:=ag;rw [af];exact QD (R:=fun e=>∃ (q:Option Addr)(w:Value)(s:Str),((q=none∨q=some ⟨b,0,none⟩)/\GV ls (j+1) s/\s.length<=9*(j+1))/\e=[.obj b (.cells ⟨[.pointer q,w]⟩ 354 (0,0)),.arr w 5 1 (d++s).length (u8s (d++s))]) (LR _) ⟨some ⟨b,0,none⟩,w4,_,⟨.inr Z,Q,by rw [LZ];split <;> omega⟩,Z⟩
   ·obtain ⟨q,w,s,⟨F,p,N⟩,rfl⟩:=f;rw [fg] at p;obtain ⟨aA,T,U,aB⟩:0<ls.length/\yU s/\cR s=bj (ls.drop (ls.length-ls.length))/\0<cR s:=p.elim (fun h=>by omega) id;rw [NZ,NB,K] at U;refine G.perm (L':=[.obj b (.cells ⟨[.pointer q,w]⟩ 354 (0,0)),.arr w 5 1 (d++s).length (u8s (d++s)),.obj bD (.deferred (some []))]) (pkL [1,1,0] Z)<|Px [(0,3)] Z fun R a=>D.call (AD _ b q w (d++s) (fun h=>T.2.1 (List.append_eq_nil_iff.1 h).2) (by simp;rw [fg] at N;omega)) Z (.inr dc_) U6 (LR _) fl_ fun aD _ aE _ ah=>C4 1 [2] a Z ?_;obtain ⟨rfl,rfl⟩:=ah;refine Pl (QX (He Z Z) ?_);refine ⟨?_,Z⟩;have es:s=bP n:=by rw [<- U];exact yF T
    rw [G8 m n (fun _=>by omega),es,<- g];cases m <;> rfl
theorem qG (a:0<Q):(x+B9*t) / Q=B9*(t / Q)+(x+B9*(t % Q)) / Q/\(x+B9*t) % Q=(x+B9*(t % Q)) % Q:=by
 have h:x+B9*t=(x+B9*(t % Q))+Q*(B9*(t / Q)):=by
  have h1:=Ot t Q;have h2:B9*t=B9*(t % Q)+B9*(Q*(t / Q)):=by rw [<- Nk,h1]
  rw [h2,Nat.mul_left_comm];omega
 rw [h,Oh _ _ a,Nat.add_mul_mod_self_left];exact ⟨by omega,Z⟩
theorem kC (a:0<Q)(b:x<B9):(x+B9*(t % Q)) / Q<B9:=by
 rw [N1 a];have h1:=MR t a;have h2:B9*(t % Q+1)<=B9*Q:=NH _ h1;rw [Nk] at h2;omega
theorem eN (h:j<l.length):bj (l.drop j)=g9 l j+B9*bj (l.drop (j+1)):=by
 rw [MB h,bj,vU (aj h)]
theorem jS (h:j<l.length):bj ((l.set j x).drop j)=x+B9*bj (l.drop (j+1)):=by
 rw [MB (by simpa using h),bj,List.getElem_set_self,List.drop_set_of_lt om_]
theorem qF (C:Mem)(Y M:Value)(m d:Nat)(ha:NineC C Y m)(hm:m<B9 ^ 200000)(F:Sl C 1 M ([d].map bX))(H:0<d)(hd:d<B9) :
  Pur cx.P 248 [Y,M] C fun u D=>∃ q r,u=.tuple #[q,r]/\NineC D q (m / d)/\NineC D r (m % d):=by
 have aa:NineC C M d:=⟨[d],⟨fun x o=>(by rw [Mn.1 o];exact hd),by simp;omega⟩,by show d+B9*0=d;omega,F⟩;have N:=ha;obtain ⟨a,ai,ab,az,O⟩:=ha.get hm;obtain ⟨A0,c0,rfl,_⟩:=id O;obtain ⟨B0,d0,rfl,aB⟩:=id F;simp only [ax,aE] at F aa O N ⊢;have p:=B9v;refine Qf kr_ func248 Z 146 Z Z fun w0=>Pb fun R b=>Pr U6 fun b3=>Pq U5 fun g=>C4 1 [0,3,4,5] b Z<|G.freeze 1 Z fun _ _ K=>O7 1 Z fun R b=>O8 (PtrTo.block (Mem.get K mup) _) U8<|Pn (nR _ N.m_ aa.m_) U7<|C4 1 [0,3,4,5,17] b Z<|O9 (fun Q=>?_) fun Q=>?_
 ·have S:m<d:=by
   have:iQ m d<0:=by simpa using Q
   exact io.1 this
  refine O7 1 Z fun R b=>Pg (j:=0) U12<|C4 1 [4,5] b Z<|Pl (P8 (xD (.head _) Z Z Z Z Z) ?_ Gt);refine ⟨Z,_,_,Z, ?_, ?_⟩
  ·rw [NY S];exact NineC.zero _
  ·rw [NX S];exact N.mono mup
 ·have S:d<=m:=by
   have h:¬ iQ m d<0:=by simpa using Q
   rw [io] at h;omega
  obtain ⟨n,hn⟩:∃ n,a.length=n:=⟨_,rfl⟩;refine Pb fun R b=>O8 (PtrTo.block (Mem.get K mup) _) U8<|C4 2 [0,3,4,5,21] b Z<|O9 (fun ac=>?_) fun ac=>?_
  ·refine O7 2 Z fun R b=>P3 U9 (LP _) (by show 8*a.length<=281474976710656;omega) (by simp only [maxLen];omega) fl_ fun f=>Pg (j:=1) U12<|Pd [0,3,4] b Z<|Pb fun R b=>Pq U5 fun k=>Pg (j:=0) U12<|Pd [0,3,4,6] b Z<|O7 1 Z fun R b=>PK (yI _ A0 a.length c0) U7 fun aC _ _ aj=>Pd [3,4,6,26] b Z ?_;obtain ⟨bb,rfl,ak⟩:=aj;refine Po (L':=[.obj k (.cells ⟨[.int .u64 ((bj (a.drop (a.length-0)) % d:Nat):Int)]⟩ 160 (0,0)),.obj g (.cells ⟨[qU f a.length a.length]⟩ 305 (0,0)),.arr (qU f a.length a.length) 160 1 a.length ((List.replicate a.length 0).map bX).flatten]) (by rw [<- Bb,Od,Nm,show bj []=0 from Z,Nat.zero_mod];rfl)<|G.rangeFunc Z Z Z kr_ (qQ _ bb _ _ a ak O.m_ om_) (fun j e=>∃ (c:List Nat),(c.length=a.length/\Dig9 c/\bj (c.drop (a.length-j))=bj (a.drop (a.length-j)) / d)/\e=[.obj k (.cells ⟨[.int .u64 ((bj (a.drop (a.length-j)) % d:Nat):Int)]⟩ 160 (0,0)),.obj g (.cells ⟨[qU f a.length a.length]⟩ 305 (0,0)),.arr (qU f a.length a.length) 160 1 a.length (c.map bX).flatten]) ⟨List.replicate a.length 0,⟨Nd,(fun x o=>by rw [NT o];decide),by rw [Od,Nm,List.drop_of_length_le (by simp)];simp [bj]⟩,Z⟩ Z (fun _ _=>rfl) (fun u v=>[(3,[],.pointer (some ⟨b3,0,none⟩)),(4,[],.pointer (some ⟨g,0,none⟩)),(6,[],.pointer (some ⟨k,0,none⟩)),(7,[],u),(8,[],v)]) (fun l u v W1 e=>?_) (fun l j u v e W1 s U=>?_) (fun bD e s=>?_)
   ·exact C6 1 [3,4,6,7,28] Z<|C6 1 [3,4,6,7,8] Z<|QZ ⟨Z,Z,Z,Z,Z,trivial⟩
   ·obtain ⟨c,⟨I,L,B⟩,rfl⟩:=s;have al:j<a.length:=by have:=(aX.1 U).1;rwa [fg] at this
    rw [sP al] at U;cases U
    obtain ⟨i,hi⟩:∃ i,a.length-1-j=i:=⟨_,rfl⟩;have ad:a.length-j=i+1:=by omega
    obtain ⟨T,hT⟩:∃ T,bj (a.drop (i+1))=T:=⟨_,rfl⟩;have am:=jG ai.1 i;have aD:=MR T H;have hX:T % d*B9+g9 a i<18446744073709551616:=by
     have:=MG B9 (show T % d<=999999999 by omega);rw [p] at this ⊢;omega
    rw [hi,ad,hT,show a.getD i 0=g9 a i from rfl];rw [ad,hT] at B;have an:T % d*B9+g9 a i=g9 a i+B9*(T % d):=by rw [ML,Oe]
    have V:=qG (t:=T) (x:=g9 a i) H;have ae:=kC (t:=T) H am;rw [<- an] at V ae;refine Pb fun R b=>Pe (.head _) U9<|D.int (((T % d*B9:Nat):Int)) U4 (by rw [show (1000000000:Int)=((B9:Nat):Int) from Z,<- M1,IntKind.wrap_u64];omega) U2<|Pa U6<|D.int (((T % d*B9+g9 a i:Nat):Int)) U4 (by rw [IntKind.wrap_u64];omega) U2<|Pg (j:=0) U12<|Pd [3,4,6,7] b Z<|G.cut (fun fr C' e W=>(True)/\fr=[]/\e=[.obj k (.cells ⟨[.int .u64 (((T % d*B9+g9 a i) % d:Nat):Int)]⟩ 160 (0,0)),.arr (qU f a.length a.length) 160 1 a.length (aA (c.map bX).flatten [Value.int .u64 (((T % d*B9+g9 a i) / d:Nat):Int)] (i*1)),.obj g (.cells ⟨[qU f a.length a.length]⟩ 305 (0,0))]) ?_ (fun fr aF aG W aH s=>?_)
    ·refine PV (.cut [0,1,2,3,4,5,6,8,9,10,12] (.alt 7 (.fin [11,13,14]) (.alt 13 (.fin [7,11,14]) .stop))) [] Z Z kr_ fun R p b w=>Pe (.tail _ (.head _)) U9<|Pa U6<|Pe (.head _) U9<|O8 (PtrTo.block (Mem.get K mup) _) U8<|Pm F.m_ U10 om_ (rfl:([d].map bX)[(0:Int).toNat]?=some (bX d)) fl_ fun aI ao=>O8 ao U8<|P5 (T % d*B9+g9 a i) (d) U6 om_ (.inr ⟨Z,by omega⟩) U2<|O8 (PtrTo.block (Mem.get K mup) _) U8<|Pm F.m_ U10 om_ (rfl:([d].map bX)[(0:Int).toNat]?=some (bX d)) fl_ fun aJ ap=>O8 ap U8<|PG (i*1) U10 (fun _=>⟨by omega,by omega,Z⟩) U2<|PF w Z ⟨?_, ?_,trivial⟩
     ·first | refine Qm (.head _) U9 ?_ | refine Qm (.tail _ (.head _)) U9 ?_
      refine P6 (T % d*B9+g9 a i) (d) U6 om_ U2<|PJ (j:=2) U11 (by show i*1+1<=_;rw [bS dK,I];omega)<|Pg (j:=1) U12<|P0 [] trivial (b _ _ _ Z ?_);clear b p w R;exact Pj 0 (Mem.le.refl _) (fr':=[]) trivial ⟨trivial,Z,Z⟩
     ·refine PJ (j:=2) U11 (by show i*1+1<=_;rw [bS dK,I];omega) ?_
      first | refine Qm (.head _) U9 ?_ | refine Qm (.tail _ (.head _)) U9 ?_
      refine P6 (T % d*B9+g9 a i) (d) U6 om_ U2<|Pg (j:=1) U12<|P0 [] trivial (b _ _ _ Z ?_);clear b p w R;exact Pj 0 (Mem.le.refl _) (fr':=[]) trivial ⟨trivial,Z,Z⟩
    obtain ⟨_,rfl,rfl⟩:=s;refine G.perm (L':=[.obj k (.cells ⟨[.int .u64 (((T % d*B9+g9 a i) % d:Nat):Int)]⟩ 160 (0,0)),.obj g (.cells ⟨[qU f a.length a.length]⟩ 305 (0,0)),.arr (qU f a.length a.length) 160 1 a.length (aA (c.map bX).flatten [Value.int .u64 (((T % d*B9+g9 a i) / d:Nat):Int)] (i*1))]) (pkL [0,1,0] Z) ?_;have af:bj (a.drop i)=g9 a i+B9*T:=by rw [eN om_,hT]
    have aq:bj (a.drop (a.length-(j+1))) % d=(T % d*B9+g9 a i) % d:=by rw [show a.length-(j+1)=i by omega,af,V.2]
    exact Po (L':=[.obj k (.cells ⟨[.int .u64 ((bj (a.drop (a.length-(j+1))) % d:Nat):Int)]⟩ 160 (0,0)),.obj g (.cells ⟨[qU f a.length a.length]⟩ 305 (0,0)),.arr (qU f a.length a.length) 160 1 a.length ((c.set i ((T % d*B9+g9 a i) / d)).map bX).flatten]) (by rw [aq,<- bK dK _ (by omega:i<c.length)];rfl)<|QD (R:=fun e=>∃ (c:List Nat),(c.length=a.length/\Dig9 c/\bj (c.drop (a.length-(j+1)))=bj (a.drop (a.length-(j+1))) / d)/\e=[.obj k (.cells ⟨[.int .u64 ((bj (a.drop (a.length-(j+1))) % d:Nat):Int)]⟩ 160 (0,0)),.obj g (.cells ⟨[qU f a.length a.length]⟩ 305 (0,0)),.arr (qU f a.length a.length) 160 1 a.length (c.map bX).flatten]) (LR _) ⟨c.set i ((T % d*B9+g9 a i) / d),⟨by simp [I],L.set ae,by rw [show a.length-(j+1)=i by omega,af,jS om_,B,V.1];omega⟩,Z⟩
   ·obtain ⟨c,⟨I,L,B⟩,rfl⟩:=s;rw [fg,NZ,NB,NB,ab] at B;rw [fg,NZ,NB,ab];refine G.freezeArr 3 (c.map bX) rfl rfl (by intro r hr;obtain ⟨y,_,rfl⟩:=L4.1 hr;rfl) (by rw [ax,I]) fun Cq aK ag=>G.cut (fun fr C' e W=>∃ (E z:Value),(NineC C' E (m / d)/\NineC C' z (m % d))/\fr=[(4,[],.pointer (some ⟨g,0,none⟩)),(5,[],z)]/\e=[.obj g (.cells ⟨[E]⟩ 305 (0,0)),.obj bD (.deferred (some [])),.obj k (.cells ⟨[.int .u64 ((m % d:Nat):Int)]⟩ 160 (0,0))]) ?_ (fun fr aL aM W aN s=>?_)
    ·refine PV (.cut [0,2] (.alt 1 (.fin [3,4,5,6]) (.alt 3 (.fin [1,4,5,6]) .stop))) [] Z Z kr_ fun R p b w=>Pe (.tail _ (.tail _ (.head _))) U9<|Pe (.tail _ (.head _)) U9<|PF w Z ⟨?_, ?_,trivial⟩
     ·refine PK (tr _ L ag.m_) U7 fun E ar _ A=>Ps [bX (m % d)] U12 fun au av _ X=>PI (tr _ (l:=[m % d]) (fun x o=>by rw [Mn.1 o];have:=MR m H;omega) X.m_) U7 fl_ (fun z aw _ J=>?_);obtain ⟨A7,m7,c7,rfl⟩:=A.form;refine Pg (j:=2) U12<|Pa U6<|Pd [4,5] b Z ?_;clear b p w R;rw [show bj [m % d]=m % d from (by show m % d+B9*0=m % d;omega)] at J;rw [B] at A;exact Pj 0 mup (hn_ [4,5] Z) ⟨_,z,⟨A.mono mup,J.mono mup⟩,Z,Z⟩
     ·refine Ps [bX (m % d)] U12 fun au av _ X=>PK (tr _ L ag.m_) U7 fun E ar _ A=>PI (tr _ (l:=[m % d]) (fun x o=>by rw [Mn.1 o];have:=MR m H;omega) X.m_) U7 fl_ (fun z aw _ J=>?_);obtain ⟨A7,m7,c7,rfl⟩:=A.form;refine Pg (j:=2) U12<|Pa U6<|Pd [4,5] b Z ?_;clear b p w R;rw [show bj [m % d]=m % d from (by show m % d+B9*0=m % d;omega)] at J;rw [B] at A;exact Pj 0 mup (hn_ [4,5] Z) ⟨_,z,⟨A.mono mup,J.mono mup⟩,Z,Z⟩
    obtain ⟨E,z,⟨ah,ay⟩,rfl,rfl⟩:=s;refine G.perm (L':=[.obj bD (.deferred (some [])),.obj g (.cells ⟨[E]⟩ 305 (0,0)),.obj k (.cells ⟨[.int .u64 ((m % d:Nat):Int)]⟩ 160 (0,0))]) (pkL [1,0,0] Z) ?_;obtain ⟨A7,m7,c7,rfl⟩:=ah.form;refine Pl (QX (xD (.head _) Z Z Z Z Z) ?_);exact ⟨Z,_,_,Z,ah,ay⟩
  ·exact absurd ac dc_
theorem tm (h:Dig9 l)(a:k<=l.length):bj l / B9 ^ k=bj (l.drop k):=by
 have e:bj l=bj (l.take k)+B9 ^ k*bj (l.drop k):=by
  conv=>lhs;rw [<- M4 k l]
  rw [eQ,Mv,NI a]
 have h1:=ie (h.take k);rw [Mv,NI a] at h1;rw [e,Oh _ _ (N9 dc_),NY h1,M6]
theorem si {b a:List Nat}(f:vn b)(c:vn a)(j:0<a.length)(m:a.length<=b.length):bj b / bj a<=bj (b.drop (a.length-1)) / g9 a (a.length-1)/\0<g9 a (a.length-1):=by
 have d:bj (a.drop (a.length-1))=g9 a (a.length-1):=by
  rw [eN om_,show a.length-1+1=a.length by omega,Nm];show _+B9*0=_;omega
 have h1:=tm c.1 (k:=a.length-1) om_;have h2:=tm f.1 (k:=a.length-1) om_;have e:0<g9 a (a.length-1):=by
  rcases NL (g9 a (a.length-1)) with h | h
  ·have h3:=uy (l:=a) (i:=a.length-1) om_;rw [h] at h3;exact absurd (by rw [Oq];exact h3) c.2
  ·exact h
 refine ⟨?_,e⟩;rw [<- h2,<- d,<- h1,Nat.div_div_eq_div_mul];have g:0<B9 ^ (a.length-1):=N9 dc_;rw [d] at h1;refine Nat.div_le_div_left (Nat.mul_div_le _ _) ?_;rw [h1];exact Oa g e
theorem yh (h:l.length=k+1):bj (l.drop k)=g9 l k:=by
 rw [eN om_,show k+1=l.length by omega,Nm];show _+B9*0=_;omega
theorem Ga (h:l.length=k+2):bj (l.drop k)=g9 l (k+1)*B9+g9 l k:=by
 rw [eN om_,yh (k:=k+1) om_,ML];omega
theorem ww {a b:List Nat}(c:vn a)(d:vn b)(h:bj b<=bj a):b.length<=a.length:=by
 rcases Mw a.length b.length with h1 | h1
 ·have:=sb c.1 d h1;omega
 ·exact h1
theorem uU {a b:List Nat}(c:vn a)(d:vn b)(h:bj a<B9*bj b):a.length<=b.length+1:=by
 have h2:=ie d.1;refine qP c (MV h ?_);rw [M7,ML];exact MG _ (Nat.le_of_lt h2)
theorem iK {f:Nat}(a:m<B9 ^ k)(b:f<B9):m*f<B9 ^ (k+1):=by
 rw [M7];exact NE a b
theorem KK (h:x<B9*a)(b:a<B9 ^ k):x<B9 ^ (k+1):=by
 rw [M7,ML _ B9];exact Of h (Nat.mul_lt_mul_of_pos_left b dc_)
theorem GU (l:List Nat):(l.map bX).all (fun r=>r.all nT)=true:=by
 rw [List.all_map,Mg];intro x _;rfl
theorem Aj (C:Mem)(va vb:Value)(m n:Nat)(ha:NineC C va m)(hb:NineC C vb n)(hm:m<B9 ^ 100000)(aB:B9<=n) :
  Pur cx.P 248 [va,vb] C fun u D=>∃ q r,u=.tuple #[q,r]/\NineC D q (m / n)/\NineC D r (m % n):=by
 have aC:0<n:=MV dc_ aB;have ac:=ha;have ad:=hb;obtain ⟨B,Q,bA,ae⟩:=hb;obtain ⟨A0,a0,c0,rfl⟩:=ha.form;obtain ⟨B0,d0,rfl,aX,bB,_⟩:=id ae;simp only [ax] at ae ad aX ⊢;have bC:maxLen<=9223372036854775807:=by simp [maxLen]
 have S:=B9v;have bD:2<=B.length:=by
  rcases Mw B.length 2 with h | h
  ·have h2:=ie Q.1;have h3:B9 ^ B.length<=B9 ^ 1:=Mt dc_ om_;rw [Nat.pow_one] at h3;omega
  ·exact h
 refine Qf kr_ func248 Z 146 Z Z (fun w0=>?_);refine Pb fun R a=>?_;refine Pr U6 (fun b3=>?_);refine Pq U5 (fun e=>?_);refine C4 1 [0,3,4,5] a Z ?_;clear a R;refine O7 1 Z fun R a=>?_
 skip
 refine Pe (.tail _ (.head _)) U9 ?_;refine Pn (nR _ ac.m_ ad.m_) U7 ?_;refine C4 1 [0,3,4,5,17] a Z ?_;clear a R;refine O9 (fun af=>?_) fun af=>?_
 ·have U:m<n:=by
   have:iQ m n<0:=by simpa using af
   exact io.1 this
  refine O7 1 Z fun R a=>?_;refine Pg (j:=0) U12 ?_;refine C4 1 [4,5] a Z ?_;clear a R;refine Pl (P8 (xD (.head _) Z Z Z Z Z) ?_ Gt);refine ⟨Z,_,_,Z, ?_, ?_⟩
  ·rw [NY U];exact NineC.zero _
  ·rw [NX U];exact ac.mono mup
 ·have U:n<=m:=by
   have h:¬ iQ m n<0:=by simpa using af
   rw [io] at h;omega
  refine Pb fun R a=>?_;refine Pe (.tail _ (.head _)) U9 ?_;refine C4 2 [0,3,4,5,21] a Z ?_;clear a R;refine O9 (fun aD=>?_) fun aD=>?_
  ·exact absurd aD (by simp;omega)
  ·have bE:=jG Q.1 (B.length-1);have aY:(B.map bX)[((B.length:Int)-1).toNat]?=some (bX (g9 B (B.length-1))):=by
    rw [show ((B.length:Int)-1).toNat=B.length-1 by omega];exact iy om_
   obtain ⟨f,hf⟩:∃ f,B9 / (g9 B (B.length-1)+1)=f:=⟨_,rfl⟩;refine Pb fun R a=>?_;refine Pe (.tail _ (.head _)) U9 ?_;refine Pe (.tail _ (.head _)) U9 ?_;refine Pa U6 ?_;refine Pi _ U7 ?_;refine Pm ae.m_ U10 om_ aY fl_ (fun bF aZ=>?_);refine O8 aZ U8 ?_;refine D.int (((g9 B (B.length-1)+1:Nat):Int)) U4 (by rw [IntKind.wrap_u64];omega) U2 ?_;refine P5 (B9) (g9 B (B.length-1)+1) U6 om_ (.inr ⟨Z,by omega⟩) U2 ?_;refine C4 1 [0,3,4,5,9] a Z ?_;clear a R;rw [hf];have w:0<f:=by rw [<- hf];exact Nat.div_pos om_ om_
   have o:f<B9:=by
    rw [<- hf];have h1:=(si Q Q om_ (LP _)).2;exact Nat.div_lt_self dc_ om_
   have y:n<B9 ^ 100000:=MS U hm;refine Pv [0,1,3,4,2,5,6,7] [] Z kr_ (fun R S a=>?_);refine Pc 2 Z ?_;refine Pe (.tail _ (.head _)) U9 ?_;refine Pa U6 ?_;refine PI (vB (k:=100000) _ ac.m_ hm o om_) U7 fl_ (fun bG _ _ a1=>?_);refine PI (vB (k:=100000) _ ad.m_ y o om_) U7 fl_ (fun bH _ a2 aF=>?_);refine Pa U6 ?_;obtain ⟨a3,bI,a4,rfl⟩:=aF.form;refine Pg (j:=1) U12 ?_;refine Pd [0,3,4,5,9] a Z ?_;clear a S R;have aG:=a1.mono a2;have aH:=aF;refine G.freeze 0 Z (fun C3 aI v=>?_);obtain ⟨P,a5,ag,bJ,ah⟩:=(aG.mono aI).get (iK hm o);obtain ⟨W,p,z,bL,V⟩:=(aH.mono aI).get (iK y o);obtain ⟨PA,pc,rfl,_⟩:=id ah;obtain ⟨bM,bN,a6,_⟩:=id V;cases a6
   simp only [ax] at ah V v aG aH ⊢;have ai:NineC C3 (.slice a3 W.length a4) (n*f):=⟨W,p,z,V⟩;have A:0<n*f:=Oa aC w;have aj:n*f<B9 ^ 100001:=da (k:=100001) (n:=100000+1) (iK (k:=100000) y o) (LP _);have bO:2<=W.length:=by
    have h1:B9<=bj W:=by rw [z];exact Md aB (NN _ w)
    rcases Mw W.length 2 with h | h
    ·have h2:=ie p.1;have h3:B9 ^ W.length<=B9 ^ 1:=Mt dc_ om_;rw [Nat.pow_one] at h3;omega
    ·exact h
   have bP:1<=P.length:=by
    rcases NL P.length with h | h
    ·have:P=[]:=MA h;subst this;have h1:m*f=0:=by rw [<- ag];rfl
     have h2:0<m*f:=Oa om_ w;omega
    ·exact h
   have a7:=(si p p om_ (LP _)).2;have bQ:=jG p.1 (W.length-1);refine O7 2 Z fun R a=>?_;refine P3 U9 (LP _) (by show 8*P.length<=281474976710656;omega) (by simp only [maxLen];omega) fl_ (fun d=>?_);refine Pg (j:=1) U12 ?_;refine Pd [0,3,4,5,9] a Z ?_;clear a R;refine Pb fun R a=>?_;refine O8 (PtrTo.block (Mem.get v mup) _) U8 ?_;refine O8 (PtrTo.block (Mem.get v mup) _) U8 ?_;refine Pa U6 ?_;refine Pi _ U7 ?_;refine Pm V.m_ U10 om_ (by rw [show ((W.length:Int)-1).toNat=W.length-1 by omega];exact iy om_:(W.map bX)[((W.length:Int)-1).toNat]?=some (bX (g9 W (W.length-1)))) fl_ (fun bR a8=>?_);refine O8 a8 U8 ?_;refine C4 1 [0,3,4,5,9,10] a Z ?_;clear a R;refine O7 2 Z fun R a=>?_;refine Pi _ U7 ?_;refine C4 1 [0,3,4,5,9,10,11] a Z ?_;clear a R;refine Po (L':=[.obj e (.cells ⟨[qU d P.length P.length]⟩ 305 (0,0)),.arr (qU d P.length P.length) 160 1 P.length ((List.replicate P.length 0).map bX).flatten]) (by rw [<- Bb];rfl) ?_;refine G.loop (fun fr C' g E=>∃ (i:Nat)(c:List Nat)(v5:Value),(i<=P.length/\c.length=P.length/\Dig9 c/\bj (c.drop i)=bj (P.drop i) / (n*f)/\NineC C' v5 (bj (P.drop i) % (n*f))/\∀ j,j<i->g9 c j=0)/\fr=[(0,[],.slice PA P.length pc),(3,[],.pointer (some ⟨b3,0,none⟩)),(4,[],.pointer (some ⟨e,0,none⟩)),(5,[],v5),(9,[],.int .u64 f),(10,[],.int .u64 (g9 W (W.length-1))),(11,[],.int .i64 ((i:Int)-1))]/\g=[.obj e (.cells ⟨[qU d P.length P.length]⟩ 305 (0,0)),.arr (qU d P.length P.length) 160 1 P.length (c.map bX).flatten]/\E=i+1) (hn_ [0,3,4,5,9,10,11] Z) ⟨P.length,List.replicate P.length 0,_,⟨LP _,Nd,(fun x hx=>by rw [NT hx];decide),by rw [Nm,List.drop_of_length_le (by simp)];simp [bj],by rw [Nm,show bj []=0 from Z,Nat.zero_mod];exact NineC.zero _,fun j _=>yn _ j⟩,Z,Z,Z⟩ (fun fr bT bU m _ F=>?_);obtain ⟨i,c,v5,⟨hi,Y,ak,H,aa,al⟩,rfl,rfl,rfl⟩:=F;refine C6 2 [0,3,4,5,9,10,11,78] Z ?_;refine O9 (fun am=>?_) fun am=>?_
   ·have aJ:0<i:=by
     have:(0:Int)<=(i:Int)-1:=by simpa using am
     omega
    obtain ⟨j,rfl⟩:∃ j,i=j+1:=⟨i-1,by omega⟩;obtain ⟨T,hT⟩:∃ T,bj (P.drop (j+1))=T:=⟨_,rfl⟩;rw [hT] at H aa;have aK:=MR T A;obtain ⟨I,a9,ba,bV,aL⟩:=aa.get (m:=100001) (Of aK (da (k:=100001) (n:=100000+1) (iK (k:=100000) y o) (LP _)));obtain ⟨RA,rc,aM,_⟩:=id aL;rw [ax] at aM;subst aM;obtain ⟨X,hX⟩:∃ X,g9 P j+B9*(T % (n*f))=X:=⟨_,rfl⟩;have aN:=jG a5.1 j;have bb:bj (g9 P j::I)=X:=by rw [bj,ba,hX]
    have J:=qG (t:=T) (x:=g9 P j) A;have bc:=kC (t:=T) A aN;rw [hX] at J bc;have ab:bj (P.drop j)=g9 P j+B9*T:=by rw [eN om_,hT]
    refine Px [(7,3)] Z (fun R a=>?_);refine Pc 2 Z ?_;refine Pm ah.m_ U10 om_ (by rw [show ((((j+1:Nat):Int)-1)).toNat=j by omega];exact iy om_:(P.map bX)[((((j+1:Nat):Int)-1)).toNat]?=some (bX (g9 P j))) fl_ (fun bW bd=>?_);refine O8 bd U8 ?_;refine Qo [bX (g9 P j)] U12 fl_ (fun bY=>?_);refine Pa U6 ?_;refine D.append (j:=0) U11 aL.m_ (GU I) (by simp only [ax,aE,maxLen];omega) (by simp only [ax,aE];omega) fl_ (fun bZ=>?_);refine D.call (fL _ _ (g9 P j::I) (n:=1+(I.map bX).length) (by rw [ax];simp;omega)) Z (.inr dc_) U6 (LR _) fl_ (fun be bf b0 _ bg=>?_);refine C4 1 [0,3,4,5,9,10,11] a Z ?_;clear a R;obtain ⟨rfl,hu⟩:=bg;have K:NineC bf be X:=⟨AZ (g9 P j::I),gH (fun x hx=>(Ma.1 hx).elim (fun h=>by rw [h];exact aN) (a9.1 x)),by rw [gG,bb],hu⟩;have aO:X<B9*(n*f):=by
     have h1:B9*(T % (n*f)+1)<=B9*(n*f):=NH _ aK;rw [Nk] at h1;omega
    have aP:X<B9 ^ 100002:=da (k:=100002) (n:=100001+1) (KK (k:=100001) aO aj) (LP _);obtain ⟨b,L,an,b1,ao⟩:=K.get aP;obtain ⟨XA,xc,aQ,_⟩:=id ao;rw [ax] at aQ;subst aQ;refine O7 1 Z fun R a=>?_;refine O8 (PtrTo.block (Mem.get v mup) _) U8 ?_;refine Pn (nR _ K.m_ ai.m_) U7 ?_;refine C4 1 [0,3,4,5,9,10,11,92] a Z ?_;clear a R;refine O9 (fun ap=>?_) fun ap=>?_
    ·have aR:X<n*f:=by
      have:iQ X (n*f)<0:=by simpa using ap
      exact io.1 this
     refine O7 1 Z fun R a=>?_;refine Pi _ U7 ?_;refine C4 1 [0,3,4,5,9,10,11] a Z ?_;clear a R;rw [show ((j+1:Nat):Int)-1-1=(j:Int)-1 by omega];refine Pk (m':=j+1) om_ mup (hn_ [0,3,4,5,9,10,11] Z) ⟨j,c,_,⟨by omega,Y,ak,by rw [eN (l:=c) om_,al j om_,H,ab,J.1,NY aR];omega,by rw [ab,J.2,NX aR];exact K.mono mup,fun j' h=>al j' om_⟩,Z,Z,Z⟩
    ·have bh:n*f<=X:=by
      have h:¬ iQ X (n*f)<0:=by simpa using ap
      rw [io] at h;omega
     have bi:=ww L p (by rw [an,z];exact bh);have b2:=uU L p (by rw [an,z];exact aO);have aq:=(si L p om_ bi).1;obtain ⟨s,ar⟩:∃ s,bj (b.drop (W.length-1))=s:=⟨_,rfl⟩;rw [an,z,ar] at aq;have b5:=jG L.1 (b.length-1);have b6:=jG L.1 (b.length-2);refine O7 3 Z fun R a=>?_;refine Pi _ U7 ?_;refine Pm ao.m_ U10 om_ (by rw [show ((b.length:Int)-1).toNat=b.length-1 by omega];exact iy om_:(b.map bX)[((b.length:Int)-1).toNat]?=some (bX (g9 b (b.length-1)))) fl_ (fun b7 bk=>?_);refine O8 bk U8 ?_;refine C4 1 [0,3,4,5,9,10,11,12] a Z ?_;clear a R;refine O7 2 Z fun R a=>?_;refine O8 (PtrTo.block (Mem.get v mup) _) U8 ?_;refine C4 2 [0,3,4,5,9,10,11,12,103] a Z ?_;clear a R;refine G.cut (fun fr C' g E=>(s<1000000000000000000)/\fr=[(0,[],.slice PA P.length pc),(3,[],.pointer (some ⟨b3,0,none⟩)),(4,[],.pointer (some ⟨e,0,none⟩)),(5,[],.slice XA b.length xc),(9,[],.int .u64 f),(10,[],.int .u64 (g9 W (W.length-1))),(11,[],.int .i64 (((j+1:Nat):Int)-1)),(12,[],.int .u64 (s:Nat))]/\g=[.obj e (.cells ⟨[qU d P.length P.length]⟩ 305 (0,0)),.arr (qU d P.length P.length) 160 1 P.length (c.map bX).flatten]) ?_ (fun fr _ b8 E _ F=>?_)
     ·refine O9 (fun au=>?_) fun au=>?_
      ·have bl:b.length=W.length-1+2:=by
        have:(W.length:Int)<(b.length:Int):=by simpa using au
        omega
       have M:=Ga bl;rw [ar,show W.length-1+1=b.length-1 by omega,show W.length-1=b.length-2 by omega] at M;have bm:g9 b (b.length-1)*B9<=999999999*B9:=MG _ om_;rw [show 999999999*B9=999999999000000000 from rfl] at bm;refine O7 1 Z fun R a=>?_;refine D.int (((g9 b (b.length-1)*B9:Nat):Int)) U4 (by rw [show (1000000000:Int)=((B9:Nat):Int) from Z,<- M1,IntKind.wrap_u64];omega) U2 ?_;refine Pc 3 Z ?_;refine Pi _ U7 ?_;refine Pm ao.m_ U10 om_ (by rw [show ((b.length:Int)-2).toNat=b.length-2 by omega];exact iy om_:(b.map bX)[((b.length:Int)-2).toNat]?=some (bX (g9 b (b.length-2)))) fl_ (fun b9 bn=>?_);refine O8 bn U8 ?_;refine D.int (((s:Nat):Int)) U4 (by rw [M,IntKind.wrap_u64];omega) U2 ?_;refine C4 1 [0,3,4,5,9,10,11,12] a Z ?_;clear a R;refine Pj 0 mup (hn_ [0,3,4,5,9,10,11,12] Z) ⟨by omega,Z,Z⟩
      ·have bo:b.length=W.length-1+1:=by
        have:¬ (W.length:Int)<(b.length:Int):=by simpa using au
        omega
       have M:=yh bo;rw [ar,show W.length-1=b.length-1 by omega] at M;rw [<- M];refine Pj 0 mup (hn_ [0,3,4,5,9,10,11,12] Z) ⟨by omega,Z,Z⟩
     ·obtain ⟨ca,rfl,rfl⟩:=F;obtain ⟨N,av⟩:∃ N,s / g9 W (W.length-1)=N:=⟨_,rfl⟩;rw [av] at aq;have cb:N<=s:=by rw [<- av];exact NJ _ _
      refine O7 2 Z fun R a=>?_;refine P5 (s) (g9 W (W.length-1)) U6 a7 (.inr ⟨Z,by omega⟩) U2 ?_;rw [av];refine D.min (((min N 999999999:Nat):Int)) Z Z Z Z Z Z om_ Z Z ?_;refine C4 1 [0,3,4,5,9,10,11,12] a Z ?_;clear a R;refine Pb fun R a=>?_;refine O8 (PtrTo.block (Mem.get v mup) _) U8 ?_;refine Pa U6 ?_;refine PI (vB (k:=100001) _ ai.m_ aj om_ om_) U7 fl_ (fun bp _ _ bq=>?_);refine C4 1 [0,3,4,5,9,10,11,12,13] a Z ?_;clear a R;refine G.loop (fun fr C' g E=>∃ (dd:Nat)(aw:Value),(X / (n*f)<=dd/\dd<B9/\NineC C' aw (n*f*dd))/\fr=[(0,[],.slice PA P.length pc),(3,[],.pointer (some ⟨b3,0,none⟩)),(4,[],.pointer (some ⟨e,0,none⟩)),(5,[],.slice XA b.length xc),(9,[],.int .u64 f),(10,[],.int .u64 (g9 W (W.length-1))),(11,[],.int .i64 (((j+1:Nat):Int)-1)),(12,[],.int .u64 (dd:Nat)),(13,[],aw)]/\g=[.obj e (.cells ⟨[qU d P.length P.length]⟩ 305 (0,0)),.arr (qU d P.length P.length) 160 1 P.length (c.map bX).flatten]/\E=dd+1) (hn_ [0,3,4,5,9,10,11,12,13] Z) ⟨min N 999999999,bp,⟨by have h:=Nat.le_min.2 ⟨aq,(by omega:X / (n*f)<=999999999)⟩;exact h,by omega,bq.mono mup⟩,Z,Z,Z⟩ (fun fr cc cd m _ F=>?_);obtain ⟨dd,aw,⟨br,aS,ay⟩,rfl,rfl,rfl⟩:=F;refine O7 2 Z fun R a=>?_;refine Pn (nR _ ay.m_ K.m_) U7 ?_;refine C4 1 [0,3,4,5,9,10,11,12,13,123] a Z ?_;clear a R;refine O9 (fun az=>?_) fun az=>?_
      ·have O:X<n*f*dd:=by
        have:0<iQ (n*f*dd) X:=by simpa using az
        exact CM.1 this
       have bs:1<=dd:=by
        rcases NL dd with h | h
        ·rw [h] at O;omega
        ·exact h
       refine O7 1 Z fun R a=>?_;refine O8 (PtrTo.block (Mem.get v mup) _) U8 ?_;refine PI (rW (k:=100002) _ ay.m_ ai.m_ (da (k:=100002) (n:=100001+1) (iK (k:=100001) aj aS) (LP _)) (NN _ bs) om_) U7 fl_ (fun bt _ _ aT=>?_);refine C4 1 [0,3,4,5,9,10,11,12,13] a Z ?_;clear a R;refine O7 1 Z fun R a=>?_;refine D.int (((dd-1:Nat):Int)) U4 (by rw [IntKind.wrap_u64];omega) U2 ?_;refine C4 1 [0,3,4,5,9,10,11,12,13] a Z ?_;clear a R;rw [show n*f*dd-n*f=n*f*(dd-1) from by rw [Nat.mul_sub,NM]] at aT;refine Pk (m':=dd-1+1) om_ mup (hn_ [0,3,4,5,9,10,11,12,13] Z) ⟨dd-1,bt,⟨by have h:=(N1 A).2 (by rw [ML];exact O);omega,by omega,aT.mono mup⟩,Z,Z,Z⟩
      ·have O:n*f*dd<=X:=by
        have h:¬ 0<iQ (n*f*dd) X:=by simpa using az
        rw [CM] at h;omega
       have aU:dd=X / (n*f):=Nat.le_antisymm ((Nat.le_div_iff_mul_le A).2 (by rw [ML];exact O)) br;have bu:X-n*f*dd=X % (n*f):=by rw [aU];have:=Ot X (n*f);omega
       refine Pv [0,1,2,3,4,5,6,7,8] [] Z kr_ (fun R S a=>?_);refine Pe (.head _) U9 ?_;refine Pc 4 Z ?_;refine PI (rW (k:=100002) _ K.m_ ay.m_ aP O om_) U7 fl_ (fun bv _ _ aV=>?_);refine PG (j*1) U10 (fun _=>⟨by omega,by omega,(by rw [show (((j+1:Nat):Int)-1).toNat=j by omega])⟩) U2 ?_;refine PJ (j:=1) U11 (by show j*1+1<=_;rw [bS dK,Y];omega) ?_;refine Pa U6 ?_;refine Pd [0,3,4,5,9,10,11] a Z ?_;clear a S R;refine O7 1 Z fun R a=>?_;refine Pi _ U7 ?_;refine C4 1 [0,3,4,5,9,10,11] a Z ?_;clear a R;rw [show ((j+1:Nat):Int)-1-1=(j:Int)-1 by omega];refine G.perm (L':=[.obj e (.cells ⟨[qU d P.length P.length]⟩ 305 (0,0)),.arr (qU d P.length P.length) 160 1 P.length (aA (c.map bX).flatten (bX dd) (j*1))]) (List.Perm.swap _ _ _) ?_;refine Po (L':=[.obj e (.cells ⟨[qU d P.length P.length]⟩ 305 (0,0)),.arr (qU d P.length P.length) 160 1 P.length ((c.set j dd).map bX).flatten]) (by rw [<- bK dK _ (by omega:j<c.length)]) ?_;rw [bu] at aV;refine Pk (m':=j+1) om_ mup (hn_ [0,3,4,5,9,10,11] Z) ⟨j,c.set j dd,bv,⟨by omega,by simp [Y],ak.set aS,by rw [jS om_,H,ab,J.1,aU];omega,by rw [ab,J.2];exact aV.mono mup,fun j' h=>by rw [ou om_];exact al j' om_⟩,Z,Z,Z⟩
   ·have aJ:i=0:=by
     have:¬ (0:Int)<=(i:Int)-1:=by simpa using am
     omega
    subst aJ;rw [NB,NB,ag,Nat.mul_div_mul_right _ _ w] at H;rw [NB,ag,Nat.mul_mod_mul_right] at aa;refine O7 2 Z fun R a=>?_;refine Ps [bX f] U12 (fun ce _ _ bw=>?_);refine PI (qF _ _ _ (m % n*f) f aa.m_ (by
     have h1:=iK (k:=100000) (Of (MR m aC) y) o;exact da (k:=200000) (n:=100000+1) h1 dc_) bw.m_ w o) U7 fl_ (fun cf _ _ bx=>?_)
    obtain ⟨q2,r2,rfl,aW,cg⟩:=bx;rw [Nat.mul_div_cancel _ w] at aW;refine C4 4 [4,5] a Z ?_;clear a R;refine G.perm (L':=[.arr (qU d P.length P.length) 160 1 P.length (c.map bX).flatten,.obj e (.cells ⟨[qU d P.length P.length]⟩ 305 (0,0))]) (List.Perm.swap _ _ _) ?_;refine Px [(1,3)] Z (fun R a=>?_);refine Pe (.tail _ (.head _)) U9 ?_;refine D.call (fL _ _ c Y) Z (.inr dc_) U6 (LR _) fl_ (fun ch _ ci _ bz=>?_);refine Pa U6 ?_;obtain ⟨rfl,hu⟩:=bz;obtain ⟨Au,cu,rfl,_⟩:=id hu;refine Pg (j:=0) U12 ?_;refine C4 1 [4,5] a Z ?_;clear a R;refine Pl (P8 (xD (.head _) Z Z Z Z Z) ?_ Gt);exact ⟨Z,_,_,Z,⟨AZ c,gH ak,by rw [gG,H],hu⟩,aW.mono mup⟩
theorem uE (C:Mem)(a b:Value)(m n:Nat)(g:NineC C a m)(h:NineC C b n)(i:m<B9 ^ 100000)(f:0<n) :
  Pur cx.P 248 [a,b] C fun u D=>∃ q r,u=.tuple #[q,r]/\NineC D q (m / n)/\NineC D r (m % n):=by
 rcases Mw n B9 with c | c
 ·obtain ⟨l,h1,h2,h3,h4⟩:=h.get (m:=1) (by rw [Nat.pow_one];exact c);have j:l≠[]:=fun e=>by rw [e] at h2;rw [<- h2] at f;exact absurd f dc_
  obtain ⟨d,rfl⟩:∃ d,l=[d]:=by
   cases l with
   | nil=>exact absurd rfl j
   | cons d l=>cases l with
    | nil=>exact ⟨d,rfl⟩
    | cons e l=>simp at h3
  have o:d=n:=by rw [<- h2];show d=d+B9*0;omega
  subst o;exact qF C a b m d g (da (k:=200000) (n:=100000) i dc_) h4 f c
 ·exact Aj C a b m n g h i c
theorem Gi (C:Mem)(s:Str)(c:UInt8):Gives cx.P 249 [al s,al [c]] C (.bool (cK c s).2):=by
 exact Ph func249 8 U3 fun w0=>C6 1 [0,1] Z<|O7 2 Z fun R a=>Pn (vS _ s c) U7<|C4 1 [4] a Z<|Pf U2<|⟨Z,Z⟩
theorem Bv (C:Mem)(s:Str)(c:UInt8):Gives cx.P 266 [al s,al [c]] C (al (cK c s).1):=by
 refine Ph func266 13 U3 fun w0=>C6 1 [0,1] Z<|O7 2 Z fun R d=>Pn (vS _ s c) U7<|Pd [0,1,7] d Z<|O9 (fun a=>?_) fun a=>?_
 ·have h:s.head?=some c:=Mu fun h=>by unfold cK at a;rw [aC h] at a;cases a
  have e:1<=s.length:=by cases s with
   | nil=>cases h
   | cons b s=>simp
  refine O7 3 Z fun R d=>P2 1 s.length U9 (fun _=>⟨.inr ⟨_,Z⟩,.inl ⟨Z,Z⟩,.inl ⟨Z,Z⟩,by omega,LP _,LP _⟩) U2<|C4 1 [4] d Z<|Pf U2 ?_;unfold cK;rw [aI h];refine ⟨?_,Z⟩;rw [Mb,List.drop_one];rfl
 ·have h:¬ s.head?=some c:=fun h=>by unfold cK at a;rw [aI h] at a;cases a
  refine C6 2 [4] Z<|Pf U2 ?_;unfold cK;rw [aC h];exact ⟨Z,Z⟩
theorem xj (C:Mem)(s:Str)(c:UInt8):Gives cx.P 232 [al s,al [c]] C (al (cK c s).1):=by
 exact Ph func232 8 U3 fun w0=>C6 1 [0,1] Z<|O7 2 Z fun R a=>Pn (Bv _ s c) U7<|C4 1 [4] a Z<|Pf U2<|⟨Z,Z⟩
def dX (z:Int):Int:=if z<0 then -1 else if z=0 then 0 else 1
theorem my (C:Mem)(z:Int):Gives cx.P 209 [al (txt z)] C (.int .i64 (dX z)):=by
 refine Ph func209 9 U3 fun w0=>C6 1 [0] Z ?_
 skip
 refine C6 3 [0,3] Z<|O9 (fun h3=>?_) fun h3=>?_
 ·have b:z=0:=by
   have h:=xi z;rw [h] at h3;exact K5 h3
  exact C6 1 [2] Z<|Pf U2<|⟨by rw [b];rfl,Z⟩
 ·have b:z≠0:=by
   have h:=xi z;rw [h] at h3;exact LS h3
  refine O7 1 Z fun R d=>Pn (Gi _ (txt z) 45) U7<|C4 1 [6] d Z<|O9 (fun a=>?_) fun a=>?_
  ·have c:z<0:=by
    rw [dv] at a;exact K5 a
   exact C6 1 [2] Z<|Pf U2<|⟨by rw [dX,aI c],Z⟩
  ·have c:¬ z<0:=by
    rw [dv] at a;exact LS a
   exact C6 1 [2] Z<|Pf U2<|⟨by rw [dX,aC c,aC b],Z⟩
theorem yi (C:Mem)(a:Tabs C)(z:Int)(b:-9223372036854775808<=z)(c:z<=9223372036854775807):Gives cx.P 79 [.int .i64 z] C (al (txt z)):=by
 exact Ph func79 5 U3 fun w0=>C6 1 [0] Z<|O7 1 Z fun R d=>Pn (sd _ a.m_ z b c) U7<|C4 1 [2] d Z<|Pf U2<|⟨Z,Z⟩
theorem vt (z:Int):(txt z).length<=(bP z.natAbs).length+1:=by unfold txt;split <;> simp
theorem se (C:Mem)(z:Int)(e:(bP z.natAbs).length<=1000000):Gives cx.P 210 [al (txt z)] C (al (txt (-z))):=by
 have f:=vt z;refine Ph func210 14 U3 fun w0=>C6 1 [0] Z<|O7 1 Z fun R a=>Pn (my _ z) U7<|Pd [0,4] a Z<|C6 2 [0,4,5] Z<|O9 (fun h5=>?_) fun h5=>?_
 ·have d:0<z:=by
   have h:dX z=1:=by simpa using h5
   unfold dX at h;split at h
   ·cases h
   ·split at h
    ·cases h
    ·omega
  refine O7 1 Z fun R a=>Qd U6 (fun _=>(by simp only [Ml,MM];omega)) U2<|C4 1 [2] a Z<|Pf U2<|⟨?_,Z⟩;unfold txt;rw [aC om_,aI om_,Oy];rfl
 ·have d:¬ 0<z:=fun h=>by
   have h2:dX z=1:=by unfold dX;rw [aC om_,aC om_]
   rw [h2] at h5;cases h5
  refine C6 2 [0,9] Z<|O9 (fun b=>?_) fun b=>?_
  ·have c:z<0:=by
    have h:dX z=-1:=by simpa using b
    unfold dX at h;split at h
    ·assumption
    ·split at h <;> cases h
   refine O7 1 Z fun R a=>P2 1 (txt z).length U9 (fun _=>⟨.inr ⟨_,Z⟩,.inl ⟨Z,Z⟩,.inl ⟨Z,Z⟩,(by unfold txt;rw [aI c];simp),LP _,LP _⟩) U2<|C4 1 [2] a Z<|Pf U2<|⟨?_,Z⟩;rw [Mb];unfold txt;rw [aI c,aC om_,Oy];rfl
  ·have c:¬ z<0:=fun h=>by
    have h2:dX z=-1:=by unfold dX;rw [aI h]
    rw [h2] at b;cases b
   refine C6 2 [2] Z<|Pf U2<|⟨?_,Z⟩;rw [show z=0 by omega];rfl
theorem Ed:∀ {s t:Str},(∀ c∈s,eM c=true)->(∀ c∈t,eM c=true)->s.length=t.length->Lib.compareBytes s t=iQ (cR s) (cR t)
 | [],[],_,_,_=>rfl
 | [],_::_,_,_,h=>by simp at h
 | _::_,[],_,_,h=>by simp at h
 | c::s,d::t,hs,g,k=>by
  have e:s.length=t.length:=by simpa using k
  have i:∀ x∈s,eM x=true:=fun x f=>hs x (by simp [f]);have j:∀ x∈t,eM x=true:=fun x f=>g x (by simp [f]);have l:=Ed i j e;have h1:=dU i;have h2:=dU j;have m:=hs c (by simp);have n:=g d (by simp);simp only [eM,LY] at m n;rw [dw,dw,e];rw [e] at h1;simp only [Lib.compareBytes];obtain ⟨p,o⟩:∃ p,10 ^ t.length=p:=⟨_,rfl⟩;rw [o] at h1 h2 ⊢;by_cases a:c<d
  ·rw [aI a];have r:c.toNat<d.toNat:=a;have h3:(c.toNat-48+1)*p<=(d.toNat-48)*p:=MG _ om_;rw [Nx] at h3;unfold iQ;rw [aI om_]
  ·rw [aC a];by_cases b:d<c
   ·rw [aI b];have u:d.toNat<c.toNat:=b;have h3:(d.toNat-48+1)*p<=(c.toNat-48)*p:=MG _ om_;rw [Nx] at h3;unfold iQ;rw [aC om_,aI om_]
   ·rw [aC b,l];have q:c.toNat=d.toNat:=by
     have h3:¬ c.toNat<d.toNat:=a;have h4:¬ d.toNat<c.toNat:=b;omega
    rw [q];unfold iQ;split <;> rename_i h5
    ·rw [aI om_]
    ·split <;> rename_i v
     ·rw [aC om_,aI om_]
     ·rw [aC om_,aC om_]
theorem oD (h:(bP a).length<(bP b).length):a<b:=by
 obtain ⟨h1,h2⟩:=bN a;obtain ⟨h3,h4⟩:=bN b;have c:=MD.2 h1.2.1;have h5:=dU h1.1;have d:=mH h3 om_;have e:10 ^ (bP a).length<=10 ^ ((bP b).length-1):=Mt dc_ om_;omega
theorem Jk (h:(bP a).length=(bP b).length):Lib.compareBytes (bP a) (bP b)=iQ a b:=by
 obtain ⟨h1,h2⟩:=bN a;obtain ⟨h3,h4⟩:=bN b;rw [Ed h1.1 h3.1 h,h2,h4]
def sZ (z w:Int):Int:=if z<w then -1 else if w<z then 1 else 0
theorem dR (z:Int):(z<0/\dX z=-1)∨(z=0/\dX z=0)∨(0<z/\dX z=1):=by
 unfold dX;split
 ·exact .inl ⟨by assumption,Z⟩
 ·split
  ·exact .inr (.inl ⟨by assumption,Z⟩)
  ·exact .inr (.inr ⟨by omega,Z⟩)
theorem wq (h:dX z=dX w):sZ z w=dX z*iQ z.natAbs w.natAbs:=by
 have a:=dR w;rw [<- h] at a;unfold sZ iQ;rcases dR z with ⟨h1,h2⟩ | ⟨h1,h2⟩ | ⟨h1,h2⟩ <;> rw [h2] at a ⊢
 ·have h3:w<0:=by omega
  split <;> split <;> (try split) <;> omega
 ·have h3:w=0:=by omega
  subst h1 h3;simp
 ·have h3:0<w:=by omega
  split <;> split <;> (try split) <;> omega
theorem Fj (z:Int):IntKind.i64.wrap (-(dX z))=-(dX z):=by
 rcases dR z with ⟨h1,h2⟩ | ⟨h1,h2⟩ | ⟨h1,h2⟩ <;> rw [h2] <;> rfl
theorem BG (C:Mem)(a b:Str):Gives cx.P 233 [al a,al b] C (.int .i64 (Lib.compareBytes a b)):=vE Tryz.scmp a b C kr_
theorem ot (C:Mem)(z w:Int)(_m:(bP z.natAbs).length<=1000000)(_n:(bP w.natAbs).length<=1000000):Gives cx.P 161 [al (txt z),al (txt w)] C (.int .i64 (sZ z w)):=by
 have ez:(cK 45 (txt z)).1=bP z.natAbs:=by rw [dv]
 have j:(cK 45 (txt w)).1=bP w.natAbs:=by rw [dv]
 refine Ph func161 41 U3 fun w0=>C6 1 [0,1] Z<|O7 1 Z fun R b=>Pn (my _ z) U7<|Pa U6<|Pn (my _ w) U7<|C4 2 [0,1,5,6] b Z<|C6 3 [0,1,5,6,15] Z<|O9 (fun c=>?_) fun c=>?_
 ·have k:dX z≠dX w:=by simpa using c
  refine C6 3 [18] Z<|O9 (fun d=>?_) fun d=>?_
  ·have a:dX z<dX w:=by simpa using d
   refine C6 1 [4] Z<|Pf U2<|⟨?_,Z⟩;rw [sZ,aI (by unfold dX at a;split at a <;> split at a <;> (try split at a) <;> omega)]
  ·have a:¬ dX z<dX w:=by simpa using d
   refine C6 1 [4] Z<|Pf U2<|⟨?_,Z⟩;have h:w<z:=by
    have h2:dX w<dX z:=by omega
    unfold dX at h2;split at h2 <;> split at h2 <;> (try split at h2) <;> omega
   rw [sZ,aC om_,aI h]
 ·have f:dX z=dX w:=by simpa using c
  refine O7 1 Z fun R b=>Pn (xj _ (txt z) 45) U7<|Pa U6<|Pn (xj _ (txt w) 45) U7 ?_;rw [ez,j];refine C4 2 [5,7,8] b Z<|C6 5 [5,7,8,27] Z<|O9 (fun g=>?_) fun g=>?_
  ·have k:(bP z.natAbs).length≠(bP w.natAbs).length:=fun e=>by
    have h:(((bP z.natAbs).length:Nat):Int)≠(((bP w.natAbs).length:Nat):Int):=by simpa using g
    exact h (by rw [e])
   refine C6 5 [5,32] Z<|O9 (fun i=>?_) fun i=>?_
   ·have a:z.natAbs<w.natAbs:=oD (by
     have h:(((bP z.natAbs).length:Nat):Int)<(((bP w.natAbs).length:Nat):Int):=by simpa using i
     omega)
    refine C6 3 [4] Z<|Pf U2<|⟨?_,Z⟩;rw [Int.zero_sub,Fj,wq f,show iQ z.natAbs w.natAbs=-1 from aI a];congr 1;omega
   ·have a:w.natAbs<z.natAbs:=oD (by
     have h:¬ (((bP z.natAbs).length:Nat):Int)<(((bP w.natAbs).length:Nat):Int):=by simpa using i
     omega)
    refine C6 2 [4] Z<|Pf U2<|⟨?_,Z⟩;rw [wq f,show iQ z.natAbs w.natAbs=1 from by unfold iQ;rw [aC om_,aI a]];congr 1;omega
  ·have l:(bP z.natAbs).length=(bP w.natAbs).length:=by
    have h:(((bP z.natAbs).length:Nat):Int)=(((bP w.natAbs).length:Nat):Int):=by simpa using g
    omega
   refine O7 3 Z fun R b=>Pn (BG _ (bP z.natAbs) (bP w.natAbs)) U7 ?_;rw [Jk l];refine PN ((sZ z w)) U4 (by rw [wq f]) (by unfold sZ;split <;> (try split) <;> omega) (by unfold sZ;split <;> (try split) <;> omega) U2 ?_
   exact C4 1 [4] b Z<|Pf U2<|⟨Z,Z⟩
def oW (b:Bool):Int:=if b then 0 else 2
theorem uv (C:Mem)(s:Str):Gives cx.P 207 [al s] C (.int .i64 (oW (cm s))):=by
 obtain ⟨t,neg,p⟩:∃ t b,cK 45 s=(t,b):=⟨_,_,rfl⟩;have g:cm s=(t.all eM && !(t == []) && !(t.head? == some 48 && (neg || decide (1<t.length))) && decide (t.length<=200)):=by unfold cm uS;rw [p]
 refine Ph func207 47 U3 fun w0=>C6 1 [0] Z<|O7 1 Z fun R a=>Pp (by have h:=D7 C s 45;rw [p] at h;exact h) U7 fl_<|C4 5 [3,4] a Z<|O7 6 Z fun R a=>PD U8<|Pc 2 Z<|PY (b:=t.headD 0) U8 (fun r=>⟨by omega,(by
  cases t with
  | nil=>exact Bool.noConfusion (show true=false from r.1)
  | cons b t=>rfl)⟩) U2 ?_
 refine Pc 7 Z<|PD U8<|Pz U8<|PD U8<|Pd [3,30] a Z<|O9 (fun d=>?_) fun d=>?_
 ·have j:cm s=false:=by
   rw [g];cases t with
   | nil=>simp
   | cons b t =>
    simp at d;rcases d with h | ⟨h,h2⟩
    ·simp;intro _ _;omega
    ·have e:b=48:=UInt8.toNat_inj.1 (by show b.toNat=48;omega);subst e;have u:(neg || decide (1<((48:UInt8)::t).length))=true:=by
      rcases h2 with h2 | h2
      ·rw [Mc (by simp;omega)];simp
      ·rw [h2];rfl
     rw [u];simp
  exact C6 1 [2] Z<|Pf U2<|⟨by rw [j];rfl,Z⟩
 ·have v:t.length<=200:=by
   simp at d;omega
  refine C6 3 [3,32,33] Z<|G.loop (fun fr C' w y=>∃ (i:Nat),(i<=t.length/\∀ c∈t.take i,eM c=true)/\fr=[(3,[],al t),(32,[],.int .i64 t.length),(33,[],.int .i64 i)]/\w=[]/\y=t.length-i) (hn_ [3,32,33] Z) ⟨0,⟨LV _,by simp⟩,Z,Z,Z⟩ (fun fr E F m _ z=>?_);obtain ⟨i,⟨H,k⟩,rfl,rfl,rfl⟩:=z;refine C6 1 [3,32,33,34] Z<|O9 (fun l=>?_) fun l=>?_
  ·have n:i<t.length:=by simpa using l
   obtain ⟨c,f⟩:∃ c,t[i]?=some c:=⟨t[i],aj n⟩;refine C6 2 [3,5,32,33] Z<|O7 2 Z fun R a=>PY U8 (fun _=>⟨by omega,f⟩) U2<|Pc 4 Z<|PY U8 (fun _=>⟨by omega,f⟩) U2<|Pa U6<|PD U8<|Pd [3,32,33,45] a Z<|O9 (fun o=>?_) fun o=>?_
   ·have j:cm s=false:=by
     have h1:t.all eM=false:=by
      rw [Ob];refine ⟨c,LQ f, ?_⟩;simp at o;unfold eM;simp;omega
     rw [g,h1];rfl
    exact C6 1 [2] Z<|Pf U2<|⟨by rw [j];rfl,Z⟩
   ·have A:eM c=true:=by
     simp at o;unfold eM;simp;omega
    refine Pb fun R a=>Pi _ U7<|C4 1 [3,32,33] a Z<|Pk (m':=t.length-(i+1)) om_ mup (hn_ [3,32,33] Z) ⟨i+1,⟨by omega,fun x q=>by
     rw [Mx,f] at q;rcases Mh.1 q with h | h
     ·exact k x h
     ·simp at h;subst h;exact A⟩,rfl,rfl,rfl⟩
  ·have n:t.length<=i:=by
    have:¬ i<t.length:=by simpa using l
    omega
   rw [MZ n] at k;have B:t.all eM=true:=Mg.2 k;have D:cm s=true:=by
    rw [g,B,Mc v];cases t with
    | nil=>simp at d
    | cons b t =>
     simp at d;simp;by_cases e:b=48
     ·subst e;have h5:=d.2;simp at h5;exact .inr ⟨h5.2,MA om_⟩
     ·exact .inl e
   exact C6 1 [2] Z<|Pf U2<|⟨by rw [D];rfl,Z⟩
theorem bT {n:Nat}(h:n<B9 ^ k)(a:0<k):(bP n).length<=9*k:=iY (by rw [Hl];exact h) om_
theorem AJ (h:(txt z).length<=m):z.natAbs<10 ^ m:=by
 have h1:(bP z.natAbs).length<=m:=by
  unfold txt at h;split at h
  ·simp at h;omega
  ·exact h
 obtain ⟨h2,h3⟩:=bN z.natAbs;have h4:=dU h2.1;rw [h3] at h4;exact MV h4 (Mt dc_ h1)
theorem e18:(10:Nat) ^ 18=1000000000000000000:=by decide
theorem e9:(10:Nat) ^ 9=1000000000:=by decide
theorem vx (c:a<B9 ^ k)(d:b<B9 ^ k):a+b<B9 ^ (k+1):=by
 rw [M7];have:B9 ^ k*2<=B9 ^ k*B9:=NH _ dc_;omega
theorem IW (C:Mem)(l:Tabs C)(z w:Int)(k:Nat)(u:0<k)(Y:k<=40000)(f:z.natAbs<B9 ^ k)(g:w.natAbs<B9 ^ k):Gives cx.P 145 [al (txt z),al (txt w)] C (al (txt (z+w))):=by
 have aa:=bT f u;have ab:=bT g u;refine Ph func145 62 U3 fun w0=>C6 1 [0,1] Z<|O7 1 Z fun R a=>Pn (iP _ z 18 (LP _)) U7<|C4 5 [0,1,5,6] a Z<|C6 1 [0,1,5,16] Z<|G.cut (fun fr C' m o=>(True)/\fr=[(0,[],al (txt z)),(1,[],al (txt w))]/\m=[]) ?_ (fun fr _ ac o _ p=>?_)
 ·refine O9 (fun v=>?_) fun v=>?_
  ·have x:=K5 v;rw [aI x];have K:=AJ x;rw [e18] at K;refine O7 1 Z fun R a=>Pn (iP _ w 18 (LP _)) U7<|C4 5 [0,1,5,7,8] a Z<|C6 1 [0,1,5,7,22] Z<|O9 (fun y=>?_) fun y=>?_
   ·have A:=K5 y;rw [aI A];have L:=AJ A;rw [e18] at L;exact O7 2 Z fun R a=>Pi _ U7<|Pp (yi _ l.m_ (z+w) om_ om_) U7 fl_<|C4 1 [4] a Z<|Pf U2<|⟨Z,Z⟩
   ·refine Pj 0 (Mem.le.refl _) (hn_ [0,1] Z) ⟨trivial,Z,Z⟩
  ·refine Pj 0 (Mem.le.refl _) (hn_ [0,1] Z) ⟨trivial,Z,Z⟩
 ·obtain ⟨_,rfl,rfl⟩:=p;refine O7 1 Z fun R a=>PI (ip _ z om_) U7 fl_ fun ad _ _ M=>Pa U6<|PI (ip _ w om_) U7 fl_ fun ae _ _ N=>Pq U5 fun B=>Pq U5 (fun D=>?_);obtain ⟨pz,rfl,d⟩:=M;obtain ⟨pw,rfl,e⟩:=N;obtain ⟨Az,mz,cz,rfl⟩:=d.form;obtain ⟨Aw,mw,cw,rfl⟩:=e.form;refine Pg (j:=1) U12<|Pg (j:=1) U12<|Pd [9,10] a Z<|O7 1 Z fun R a=>Pe (.tail _ (.head _)) U9<|Pa U6<|Pe (.head _) U9<|C4 1 [9,10,35] a Z<|O9 (fun q=>?_) fun q=>?_
  ·have i:decide (z<0)=decide (w<0):=by simpa using q
   refine Pv [0,1,2,3,4,5,6,7,8,9] [(8,1)] Z kr_ fun R O a=>Pa U6<|Pe (.tail _ (.head _)) U9<|Pa U6<|Pe (.tail _ (.head _)) U9<|Pa U6<|Pe (.head _) U9<|PI (Ho (k:=k) _ d.m_ e.m_ f g om_) U7 fl_ (fun af _ _ E=>?_);obtain ⟨Q,S,T,rfl⟩:=E.form;exact PB [.bool (decide (z<0)),_] U8<|Pw (fun _=>(jd _ l.m_ _ _ _ E (da (k:=100000) (n:=k+1) (vx f g) om_))) U9<|C4 1 [4] a Z<|Pf U2<|⟨by rw [H3 i],Z⟩
  ·have i:decide (z<0)≠decide (w<0):=by simpa using q
   refine O7 1 Z fun R a=>Pe (.tail _ (.head _)) U9<|Pa U6<|Pe (.head _) U9<|Pn (nR _ d.m_ e.m_) U7<|C4 1 [9,10,50] a Z<|G.cut (fun fr C' m o=>∃ (b c:Int)(r s:Value),(NineC C' r b.natAbs/\NineC C' s c.natAbs/\c.natAbs<=b.natAbs/\b+c=z+w/\decide (b<0)≠decide (c<0)/\b.natAbs<B9 ^ k)/\fr=[(9,[],.pointer (some ⟨B,0,none⟩)),(10,[],.pointer (some ⟨D,0,none⟩))]/\m=[.obj D (.cells ⟨[.bool (decide (c<0)),s]⟩ 307 (0,0)),.obj B (.cells ⟨[.bool (decide (b<0)),r]⟩ 307 (0,0))]) ?_ (fun fr _ ag o _ p=>?_)
   ·refine O9 (fun t=>?_) fun t=>?_
    ·have F:z.natAbs<w.natAbs:=by
      have:iQ z.natAbs w.natAbs<0:=by simpa using t
      exact io.1 this
     refine Pb fun R a=>Pe (.head _) U9<|Pe (.tail _ (.head _)) U9<|Pg (j:=1) U12<|Pg (j:=1) U12<|Pd [9,10] a Z<|Pj 0 mup (hn_ [9,10] Z) ⟨w,z,_,_,⟨e.mono mup,d.mono mup,by omega,Int.add_comm w z,Ne.symm i,g⟩,Z,Z⟩
    ·have F:w.natAbs<=z.natAbs:=by
      have h:¬ iQ z.natAbs w.natAbs<0:=by simpa using t
      rw [io] at h;omega
     refine Pj 0 mup (hn_ [9,10] Z) ⟨z,w,_,_,⟨d.mono mup,e.mono mup,F,Z,i,f⟩,Z,Z⟩
   ·obtain ⟨b ,c ,r ,s,⟨H,I,U,V,W,X⟩,rfl,rfl⟩:=p;obtain ⟨ah,ai,aj,rfl⟩:=H.form;obtain ⟨ak,am,an,rfl⟩:=I.form;refine Pv [0,1,2,3,4,5,6,7,8,9] [(8,1)] Z kr_ fun R O a=>Pa U6<|Pe (.tail _ (.head _)) U9<|Pa U6<|Pe (.tail _ (.head _)) U9<|Pa U6<|Pe (.head _) U9<|PI (rW (k:=k) _ H.m_ I.m_ X U om_) U7 fl_ (fun ao _ _ J=>?_);obtain ⟨Q,S,T,rfl⟩:=J.form;exact PB [.bool (decide (b<0)),_] U8<|Pw (fun _=>(jd _ l.m_ _ _ _ J (da (k:=100000) (n:=k) om_ om_))) U9<|C4 1 [4] a Z<|Pf U2<|⟨by rw [H4 W om_,V],Z⟩
theorem H5 (z w:Int):sgZ (decide (z<0) != decide (w<0)) (z.natAbs*w.natAbs)=z*w:=by
 unfold sgZ;have h1:z=if z<0 then -(z.natAbs:Int) else (z.natAbs:Int):=by split <;> omega
 have h2:w=if w<0 then -(w.natAbs:Int) else (w.natAbs:Int):=by split <;> omega
 by_cases a:z<0 <;> by_cases b:w<0
 ·rw [Mc a,Mc b,aC dc_];rw [aI a] at h1;rw [aI b] at h2;rw [M1]
  conv=>rhs;rw [h1,h2]
  rw [Int.neg_mul_neg]
 ·rw [Mc a,Mk b,aI dc_];rw [aI a] at h1;rw [aC b] at h2;rw [M1]
  conv=>rhs;rw [h1,h2]
  rw [Int.neg_mul]
 ·rw [Mk a,Mc b,aI dc_];rw [aC a] at h1;rw [aI b] at h2;rw [M1]
  conv=>rhs;rw [h1,h2]
  rw [Int.mul_neg]
 ·rw [Mk a,Mk b,aC dc_];rw [aC a] at h1;rw [aC b] at h2;rw [M1]
  conv=>rhs;rw [h1,h2]
theorem mg (c:a<B9 ^ k)(d:b<B9 ^ k):a*b<B9 ^ (k+k):=by
 rw [On];exact NE c d
theorem Cs (a:z.natAbs<1000000000)(b:w.natAbs<1000000000):-1000000000000000000<z*w/\z*w<1000000000000000000:=by
 have h:z.natAbs*w.natAbs<=999999999*999999999:=NA om_ om_;rw [<- Nr] at h;omega
theorem jF (C:Mem)(d:Tabs C)(z w:Int)(k:Nat)(e:0<k)(x:k<=40000)(b:z.natAbs<B9 ^ k)(c:w.natAbs<B9 ^ k):Gives cx.P 146 [al (txt z),al (txt w)] C (al (txt (z*w))):=by
 have y:=bT b e;have A:=bT c e;refine Ph func146 43 U3 fun w0=>C6 1 [0,1] Z<|O7 1 Z fun R a=>Pp (iP _ z 9 om_) U7 fl_<|C4 5 [0,1,5,6] a Z<|C6 1 [0,1,5,16] Z<|G.cut (fun fr C' r s=>(True)/\fr=[(0,[],al (txt z)),(1,[],al (txt w))]/\r=[]) ?_ (fun fr _ B s _ t=>?_)
 ·refine O9 (fun f=>?_) fun f=>?_
  ·have g:=K5 f;rw [aI g];have h:=AJ g;rw [e9] at h;refine O7 1 Z fun R a=>Pp (iP _ w 9 om_) U7 fl_<|C4 5 [0,1,5,7,8] a Z<|C6 1 [0,1,5,7,22] Z<|O9 (fun i=>?_) fun i=>?_
   ·have l:=K5 i;rw [aI l];have m:=AJ l;rw [e9] at m;have D:=Cs h m;exact O7 2 Z fun R a=>PN ((z*w)) U4 om_ om_ om_ U2<|Pp (yi _ d.m_ (z*w) om_ om_) U7 fl_<|C4 1 [4] a Z<|Pf U2<|⟨Z,Z⟩
   ·refine Pj 0 (Mem.le.refl _) (hn_ [0,1] Z) ⟨trivial,Z,Z⟩
  ·refine Pj 0 (Mem.le.refl _) (hn_ [0,1] Z) ⟨trivial,Z,Z⟩
 ·obtain ⟨_,rfl,rfl⟩:=t;refine O7 1 Z fun R a=>PI (ip _ z om_) U7 fl_ fun E _ _ u=>Pa U6<|PI (ip _ w om_) U7 fl_ fun F _ _ v=>Pq U5 fun H=>Pq U5 (fun I=>?_);obtain ⟨J,rfl,o⟩:=u;obtain ⟨K,rfl,p⟩:=v;obtain ⟨L,M,N,rfl⟩:=o.form;obtain ⟨O,Q,S,rfl⟩:=p.form;refine Pg (j:=1) U12<|Pg (j:=1) U12<|Pd [9,10] a Z<|Pv [0,1,2,3,4,5,6,7,8,9,10,11,12] [(11,1)] Z kr_ fun R T a=>Pa U6<|Pe (.tail _ (.head _)) U9<|Pa U6<|Pe (.head _) U9<|Pc 2 Z<|Pe (.tail _ (.head _)) U9<|Pa U6<|Pe (.head _) U9<|PI (Bx (k:=k) _ o.m_ p.m_ b c om_) U7 fl_ (fun U _ _ q=>?_);obtain ⟨V,W,X,rfl⟩:=q.form;exact PB [.bool (decide (z<0) != decide (w<0)),_] U8<|Pw (fun _=>(jd _ d.m_ _ _ _ q (da (k:=100000) (n:=k+k) (mg b c) om_))) U9<|C4 1 [4] a Z<|Pf U2<|⟨by rw [H5],Z⟩
def DV (z w:Int):Nat:=if z<0/\z.natAbs % w.natAbs≠0 then z.natAbs / w.natAbs+1 else z.natAbs / w.natAbs
def yq (z w:Int):Nat:=if z<0/\z.natAbs % w.natAbs≠0 then w.natAbs-z.natAbs % w.natAbs else z.natAbs % w.natAbs
theorem DS (i:0<w):sgZ (decide (z<0) != decide (w<0)) (DV z w)=z / w/\(yq z w:Int)=z % w:=by
 obtain ⟨n,rfl⟩:∃ n:Nat,w=n:=⟨w.natAbs,by omega⟩;have f:0<n:=by omega
 rw [Mk (by omega:¬ ((n:Nat):Int)<0),Bool.bne_false];have h1:=Ot z.natAbs n;have h2:=MR z.natAbs f;obtain ⟨q,d⟩:∃ q,z.natAbs / n=q:=⟨_,rfl⟩;obtain ⟨r,hr⟩:∃ r,z.natAbs % n=r:=⟨_,rfl⟩;have g:sgZ (decide (z<0)) (DV z n)=z / n/\(yq z n:Int)=z % n:=by
  have h3:=(Int.ediv_emod_unique (a:=z) (r:=(yq z n:Int)) (q:=sgZ (decide (z<0)) (DV z n)) (by omega:(0:Int)<(n:Int))).2;have h4:(yq z n:Int)+(n:Int)*sgZ (decide (z<0)) (DV z n)=z/\0<=(yq z n:Int)/\(yq z n:Int)<(n:Int):=by
   unfold DV yq sgZ;simp only [MT];rw [d,hr];rw [hr,d] at h1;rw [hr] at h2;have h5:((r+n*q:Nat):Int)=(z.natAbs:Int):=by rw [h1]
   rw [Int.natCast_add,M1] at h5;by_cases b:z<0
   ·rw [Mc b,aI rfl];by_cases c:r=0
    ·subst c;rw [aC (by simp),aC (by simp)];rw [Int.mul_neg];omega
    ·rw [aI ⟨b,c⟩,aI ⟨b,c⟩];rw [Int.mul_neg,Int.natCast_add,Int.mul_add];omega
   ·rw [Mk b,aC (fun h:z<0/\r≠0=>b h.1),aC (fun h:z<0/\r≠0=>b h.1),aC dc_];omega
  have e:=h3 h4;exact ⟨e.1.symm,e.2.symm⟩
 exact g
theorem qq (C:Mem)(u:Tabs C)(z w:Int)(k:Nat)(f:0<k)(hk:k<=40000)(g:z.natAbs<B9 ^ k)(i:w.natAbs<B9 ^ k)(v:0<w):Gives cx.P 211 [al (txt z),al (txt w)] C (.tuple #[al (txt (z / w)),al (txt (z % w)),.int .i64 0]):=by
 have ag:=bT g f;have ah:=bT i f;have l:0<w.natAbs:=by omega
 refine Ph func211 50 U3 fun w0=>C6 3 [0,1] Z<|C6 2 [0,1,12] Z<|O9 (fun m=>?_) fun m=>?_
 ·have h:=xi w;rw [h] at m;have:w=0:=K5 m;omega
 ·refine O7 1 Z fun R a=>PI (ip _ z om_) U7 fl_ fun ai _ _ J=>Pa U6<|PI (ip _ w om_) U7 fl_ fun aj _ _ K=>Pq U5 fun y=>Pq U5 (fun A=>?_);obtain ⟨pz,rfl,B⟩:=J;obtain ⟨pw,rfl,o⟩:=K;obtain ⟨L,M,N,rfl⟩:=B.form;obtain ⟨O,Q,S,rfl⟩:=o.form;refine Pg (j:=1) U12<|Pg (j:=1) U12<|Pd [7,8] a Z<|O7 1 Z fun R a=>Pe (.tail _ (.head _)) U9<|Pa U6<|Pe (.head _) U9<|PI (uE _ _ _ _ _ B.m_ o.m_ (da (k:=100000) (n:=k) g om_) l) U7 fl_ (fun ak _ _ T=>?_);obtain ⟨vq,vr,rfl,D,p⟩:=T;refine C4 5 [7,8,9,10] a Z ?_;obtain ⟨b,U,V,W⟩:=id p;obtain ⟨Ar,cr,E,_⟩:=id W;rw [ax] at E;subst E;have F:b.length=0 ↔ z.natAbs % w.natAbs=0:=by
   rw [<- V,yG U];exact List.length_eq_zero_iff
  refine O7 1 Z fun R a=>Pe (.tail _ (.head _)) U9<|Pc 4 Z<|Pz U8<|Pd [7,8,9,10,31] a Z<|G.cut (fun fr C' X Y=>∃ (q r:Value),(NineC C' q (DV z w)/\NineC C' r (yq z w))/\fr=[(7,[],.pointer (some ⟨y,0,none⟩)),(8,[],.pointer (some ⟨A,0,none⟩)),(9,[],q),(10,[],r)]/\X=[.obj A (.cells ⟨[.bool (decide (w<0)),.slice O Q S]⟩ 307 (0,0)),.obj y (.cells ⟨[.bool (decide (z<0)),.slice L M N]⟩ 307 (0,0))]) ?_ (fun fr _ am Y _ hI=>?_)
  ·refine O9 (fun d=>?_) fun d=>?_
   ·have c:z<0/\z.natAbs % w.natAbs≠0:=by
     have h:decide (z<0)=true/\0<b.length:=by simpa using d
     exact ⟨K5 h.1,fun e=>by have:=F.2 e;omega⟩
    have s:DV z w=z.natAbs / w.natAbs+1:=aI c;have t:yq z w=w.natAbs-z.natAbs % w.natAbs:=aI c;have aa:z.natAbs / w.natAbs<B9 ^ k:=MS (NJ _ _) g;refine Pv [0,3,4,5,1,2,6,7,8] [] Z kr_ fun R hB a=>Pc 2 Z<|Pe (.head _) U9<|Pa U6<|Ps [bX 1] U12 fun an _ _ ab=>PI (Ho (k:=k) _ D.m_ (⟨[1],⟨(fun x hx=>(by rw [Mn.1 hx];decide)),by simp⟩,Z,ab.mono mup⟩:NineC _ _ 1) aa (MV (by decide:1<B9 ^ 1) (Mt dc_ f)) om_) U7 fl_ fun ao _ _ ac=>PI (rW (k:=k) _ o.m_ p.m_ i (Nat.le_of_lt (MR _ l)) om_) U7 fl_ fun ap _ _ ad=>Pc 2 Z<|Pd [7,8,9,10] a Z ?_;clear a hB R;refine Pj 0 mup (hn_ [7,8,9,10] Z) ⟨_,_,⟨by rw [s];exact ac.mono mup,by rw [t];exact ad.mono mup⟩,Z,Z⟩
   ·have c:¬ (z<0/\z.natAbs % w.natAbs≠0):=fun h=>by
     have h2:0<b.length:=by
      rcases NL b.length with h3 | h3
      ·exact absurd (F.1 h3) h.2
      ·exact h3
     have h3:(decide (z<0) && decide ((0:Int)<(b.length:Int)))=true:=by
      rw [Mc h.1,Mc om_];rfl
     rw [h3] at d;cases d
    have s:DV z w=z.natAbs / w.natAbs:=aC c;have t:yq z w=z.natAbs % w.natAbs:=aC c;refine Pj 0 mup (hn_ [7,8,9,10] Z) ⟨_,_,⟨by rw [s];exact D.mono mup,by rw [t];exact p.mono mup⟩,Z,Z⟩
  ·obtain ⟨q ,r,⟨H,I⟩,rfl,rfl⟩:=hI;obtain ⟨A9,m9,c9,rfl⟩:=H.form;obtain ⟨aq,ar,au,rfl⟩:=I.form;have ae:DV z w<B9 ^ 100000:=by
    have h1:z.natAbs / w.natAbs<=z.natAbs:=NJ _ _;have h2:DV z w<=z.natAbs+1:=by unfold DV;split <;> omega
    have h3:B9 ^ k*2<=B9 ^ (k+1):=by rw [M7];exact NH _ dc_
    have h4:z.natAbs+1<B9 ^ (k+1):=by have:=N9 (n:=k) (show 0<B9 by decide);omega
    exact da (k:=100000) (n:=k+1) (MS h2 h4) om_
   have af:yq z w<B9 ^ 100000:=by
    have h1:=MR z.natAbs l;have h2:yq z w<=w.natAbs:=by unfold yq;split <;> omega
    exact da (k:=100000) (n:=k) (MS h2 i) om_
   refine O7 1 Z fun R a=>Pe (.tail _ (.head _)) U9<|Pa U6<|Pe (.head _) U9<|Pc 2 Z<|PB [.bool (decide (z<0) != decide (w<0)),_] U8<|Pn (jd _ u.m_ _ _ _ H.m_ ae) U7<|Pa U6<|PB [.bool false,_] U8<|Pn (jd _ u.m_ _ _ _ I.m_ af) U7<|C4 3 [4,5,6] a Z<|Pl (G.dropAll (P1 U4 ?_));refine ⟨?_,Z⟩;rw [(DS v).1,show sgZ false (yq z w)=z % w from (DS v).2]
end Go.Proofs.YthnpijdjlddpmaaGreatDoor
namespace Go.Jog
open Go
section
variable {cx:Cx} {n:Nat} {ds:List (Option Nat)} {R:Rg n ds} {its:List It} {fr:Fr} {C:Mem} {L:List Ent} {i k d:Nat} {o:Oper} {g:GL} {v:Value}
theorem Qc {t f p l:Nat}{x:Operand}{q:List Value}{r m:TI}{s:List (Nat × Nat)}(B:Z12 (Nat.ble k 1) true o.dst (some d) o.op (.field t x f) (gOf ds fr o.guard) (some g) (ev fr g x) (some (.agg ⟨q⟩)) (cx.T.get t) (some r) r.k (.struct s) (s[f]?) (some (p,l)) (cx.T.get p) (some m) (bif m.agg then some (.agg ⟨(q.drop l).take m.size⟩) else q[l]?) (some v) (aO n ds ((d,g,v)::fr) d) true (wfG ds fr g) true)(h:D cx R its ((d,g,v)::fr) C L):D cx R ((i,k,o)::its) fr C L:=by
 have ⟨E,F,G,H,j,I,u,b,y,c,J,K⟩:=B;refine D.run _ E F H (fun _ a hs w=>?_) J K h;have M:execOp a.eval o=(do Pure.pure (.value (<- Instr.field t (a.eval x) f)):Sem Next):=by unfold execOp;rw [G]
 obtain ⟨O,P,Q,S,U⟩:=r;simp only at u;subst u;obtain ⟨z,N,hm⟩:=kQ cx.hT I;obtain ⟨e,h1,rfl,rfl⟩:∃ e,z[f]?=some e/\e.type=p/\e.offset=l:=by
  rw [<- hm,LU] at b;cases j:z.toList[f]? with
  | none=>rw [j] at b;cases b
  | some e =>
   rw [j] at b;simp only [Nt,Mq,OB] at b;exact ⟨e,by simpa using j,b.1,b.2⟩
 rw [M,hs _ _ j];unfold Instr.field;simp only [Sem.run_bind,run_underlying N,Result.andThen_ok,h1,asAgg,part,Sem.run_pure];rw [HA cx.hT y w];simp only [Result.andThen_ok];cases A:m.agg with
 | true =>
  rw [A] at c;simp only [Ns,Mq] at c;subst c;simp only [Ny,Sem.run_bind,dI cx.hT y w,Result.andThen_ok,Sem.run_pure,List.extract_toArray,List.extract_eq_take_drop,Nf]
 | false =>
  rw [A] at c;simp only [cond_false] at c;simp [c]
end
end Go.Jog
namespace Go.Proofs.YthnpijdjlddpmaaGreatDoor
open Tryz
open Go Go.Jog
set_option maxRecDepth 100000
theorem GN {l:List Nat}{n:Nat}(a:vn l)(b:bj l=n):0<l.length ↔ 0<n:=by
 have h:=yG a;rw [b] at h;have h2:l.length=0 ↔ n=0:=by rw [h];exact List.length_eq_zero_iff
 omega
theorem DB (C:Mem)(r:Tabs C)(z w:Int)(k:Nat)(s:0<k)(hk:k<=40000)(t:z.natAbs<B9 ^ k)(u:w.natAbs<B9 ^ k):Gives cx.P 208 [al (txt z),al (txt w)] C (al (txt (Nat.gcd z.natAbs w.natAbs:Nat))):=by
 have ab:=bT t s;have ac:=bT u s;refine Ph func208 56 U3 fun w0=>C6 1 [0,1] Z<|O7 1 Z fun R a=>Pn (iP _ z 18 (LP _)) U7<|C4 5 [0,1,5,6] a Z<|C6 1 [0,1,5,18] Z<|G.cut (fun fr C' d e=>(True)/\fr=[(0,[],al (txt z)),(1,[],al (txt w))]/\d=[]) ?_ (fun fr _ ad e _ f=>?_)
 ·refine O9 (fun v=>?_) fun v=>?_
  ·have A:=K5 v;rw [aI A];have B:=AJ A;rw [e18] at B;refine O7 1 Z fun R a=>Pn (iP _ w 18 (LP _)) U7<|C4 5 [0,1,5,7,8] a Z<|C6 1 [0,1,5,7,24] Z<|O9 (fun E=>?_) fun E=>?_
   ·have F:=K5 E;rw [aI F];have H:=AJ F;rw [e18] at H;refine G.loop (fun fr C' d e=>∃ (x y:Int),(x.natAbs<1000000000000000000/\y.natAbs<1000000000000000000/\Nat.gcd x.natAbs y.natAbs=Nat.gcd z.natAbs w.natAbs)/\fr=[(5,[],.int .i64 x),(7,[],.int .i64 y)]/\d=[]/\e=y.natAbs+1) (hn_ [5,7] Z) ⟨z,w,⟨B,H,Z⟩,Z,Z,Z⟩ (fun fr ae af m K f=>?_);obtain ⟨x,y,⟨ag,L,c⟩,rfl,rfl,rfl⟩:=f;refine C6 2 [5,7,26] Z<|O9 (fun i=>?_) fun i=>?_
    ·have b:y≠0:=by simpa using i
     have M:(x.tmod y).natAbs=x.natAbs % y.natAbs:=Int.natAbs_tmod x y;have N:=MR x.natAbs (show 0<y.natAbs by omega);refine Pv [0,1,2,3,4,5] [] Z kr_ fun R hB a=>Pc 3 Z<|QI (x.tmod y) Z Z Z Z Z Z b Z Z Z<|C4 2 [5,7] a Z<|Pk (m':=(x.tmod y).natAbs+1) om_ K (hn_ [5,7] Z) ⟨y,x.tmod y,⟨L,by omega,by rw [M,<- c,Ow x.natAbs,Nat.gcd_rec y.natAbs x.natAbs,Ow]⟩,Z,Z,Z⟩
    ·have b:y=0:=by simpa using i
     subst b;rw [show (0:Int).natAbs=0 from rfl,O0] at c;refine O7 3 Z fun R a=>?_;have ah:IntKind.i64.wrap (0-x)=0-x:=wrap_i64 om_ om_;exact D.max ((x.natAbs:Int)) Z Z Z Z Z Z om_ Z Z<|Pp (yi _ r.m_ (x.natAbs:Int) om_ om_) U7 fl_<|C4 1 [4] a Z<|Pf U2<|⟨by rw [c],Z⟩
   ·refine Pj 0 (Mem.le.refl _) (hn_ [0,1] Z) ⟨trivial,Z,Z⟩
  ·refine Pj 0 (Mem.le.refl _) (hn_ [0,1] Z) ⟨trivial,Z,Z⟩
 ·obtain ⟨_,rfl,rfl⟩:=f;refine O7 1 Z fun R a=>PI (ip _ z om_) U7 fl_ (fun ai _ _ O=>?_);obtain ⟨pz,rfl,Q⟩:=O;refine Qc U12<|Pa U6<|PI (ip _ w om_) U7 fl_ (fun aj _ _ S=>?_);obtain ⟨pw,rfl,T⟩:=S;refine Qc U12<|C4 2 [9,10] a Z<|G.loop (fun fr C' d e=>∃ (x y:Nat)(j o:Value),(NineC C' j x/\NineC C' o y/\x<B9 ^ k/\y<B9 ^ k/\Nat.gcd x y=Nat.gcd z.natAbs w.natAbs)/\fr=[(9,[],j),(10,[],o)]/\d=[]/\e=y+1) (hn_ [9,10] Z) ⟨_,_,_,_,⟨Q.mono mup,T.mono mup,t,u,Z⟩,Z,Z,Z⟩ (fun fr ak am m _ f=>?_);obtain ⟨x,y,j,o,⟨p,g,I,J,c⟩,rfl,rfl,rfl⟩:=f;obtain ⟨l,U,V,W⟩:=id g;obtain ⟨an,ao,rfl,_⟩:=id W;rw [ax] at g ⊢;have X:=GN U V;refine C6 3 [9,10,44] Z<|O9 (fun q=>?_) fun q=>?_
  ·have b:0<y:=X.1 (by simpa using q);have N:=MR x b;refine O7 2 Z fun R a=>PI (uE _ _ _ _ _ p.m_ g.m_ (da (k:=100000) (n:=k) I om_) b) U7 fl_ (fun ap _ _ Y=>?_);obtain ⟨vq,vr,rfl,aq,aa⟩:=Y;refine C4 5 [10,12] a Z<|C6 4 [9,10] Z<|Pk (m':=x % y+1) om_ mup (hn_ [9,10] Z) ⟨y,x % y,_,_,⟨g.mono mup,aa.mono mup,J,Of (MR _ b) J,by rw [<- c,Ow x,Nat.gcd_rec y x,Ow]⟩,Z,Z,Z⟩
  ·have b:y=0:=by
    have h:¬ 0<l.length:=by simpa using q
    omega
   subst b;rw [O0] at c;obtain ⟨A9,m9,c9,rfl⟩:=p.form;exact O7 1 Z fun R a=>PB [.bool false,_] U8<|Pp (jd _ r.m_ _ _ _ p.m_ (da (k:=100000) (n:=k) I om_)) U7 fl_<|C4 1 [4] a Z<|Pf U2<|⟨by rw [c];rfl,Z⟩
end Go.Proofs.YthnpijdjlddpmaaGreatDoor
namespace Go.Jog
open Go
variable {c:UInt8}{d i k:Nat}{s:List UInt8}
def FK (b:Bool):List UInt8:=if b then [45] else []
def eF:Option (List UInt8)->List UInt8
 | none=>[]
 | some b=>47::b
def lX (d:Nat):Option (List UInt8):=if d=1 then none else some (bP d)
def qtx (q:Rat):List UInt8:=FK (decide (q.num<0))++bP q.num.natAbs++eF (lX q.den)
theorem HV (z:Int):txt z=FK (decide (z<0))++bP z.natAbs:=by
 unfold txt FK;by_cases h:z<0
 ·rw [aI h,Mc h];rfl
 ·rw [aC h,Mk h];rfl
theorem nG (q:Rat):qtx q=txt q.num++eF (lX q.den):=by rw [HV];rfl
theorem nH (z:Int):qtx z=txt z:=by
 rw [nG];show txt z++eF (lX 1)=txt z;simp [lX,eF]
theorem yv (h:s[i]?=some c):cR (s.take (i+1))=10*cR (s.take i)+(c.toNat-48):=by
 rw [Je h];omega
theorem sz (a:∀ c∈s,eM c=true)(d:i<=9):cR (s.take i)<1000000000:=by
 have h1:=dU (s:=s.take i) (fun c b=>a c (Nj b));have h2:10 ^ (s.take i).length<=10 ^ 9:=Mt dc_ (by rw [Mv];omega);omega
def I2 (A:List UInt8)(B:Option (List UInt8)):Bool:=decide (A.length<=9) && decide ((B.getD []).length<=9)
def LI:Option (List UInt8)->Nat
 | none=>1
 | some b=>cR b
theorem Ir (p A r:List UInt8){j:Nat}(h:A[j]?=some c):(p++A++r)[p.length+j]?=some c:=by
 have a:=(aX.1 h).1;rw [Mo,Ms om_,Nf,MF a,h]
theorem FM (p A r:List UInt8)(j:Nat):(p++A++r)[p.length+A.length+j]?=r[j]?:=by
 rw [Ms (by rw [LZ];omega),LZ,Nf]
theorem rV (n:Int)(a:d≠0):(mkRat n d).num=n / ((Nat.gcd n.natAbs d:Nat):Int)/\(mkRat n d).den=d / Nat.gcd n.natAbs d:=by
 rw [mkRat,dif_neg a,Rat.normalize_eq];exact ⟨Z,Z⟩
theorem sy (h:d=1):lX d=none:=aI h
theorem iB (h:d≠1):lX d=some (bP d):=aC h
theorem wh (n:Nat):bP n≠[]:=(bN n).1.2.1
theorem iZ (n:Nat):∀ c∈bP n,eM c=true:=(bN n).1.1
theorem Gx (d:Nat):∀ b,lX d=some b->∀ c∈b,eM c=true:=by
 intro b h;unfold lX at h;split at h
 ·cases h
 ·cases h;exact iZ d
theorem oC (d:Nat):LI (lX d)=d:=by
 unfold lX;split
 ·rename_i h;exact h.symm
 ·exact (bN d).2
def QB (k:Nat)(q:Rat):Prop:=q.num.natAbs<B9 ^ k/\q.den<B9 ^ k
theorem QB.le {m:Nat}{q:Rat}(h:QB k q)(a:k<=m):QB m q:=⟨MV h.1 (Mt dc_ a),MV h.2 (Mt dc_ a)⟩
theorem gp {n:Int}(a:d≠0)(b:n.natAbs<B9 ^ k)(c:d<B9 ^ k):QB k (mkRat n d):=by
 obtain ⟨h1,h2⟩:=rV n a;refine ⟨?_, ?_⟩
 ·rw [h1,OA (OW.1 (N6.2 (O5 _ _))),MT];exact MS (NJ _ _) b
 ·rw [h2];exact MS (NJ _ _) c
theorem iO (a b:Rat):a+b=mkRat (a.num*b.den+b.num*a.den) (a.den*b.den):=by
 rw [Rat.add_def,Rat.normalize_eq_mkRat]
theorem fP (a b:Rat):a*b=mkRat (a.num*b.num) (a.den*b.den):=by
 rw [Rat.mul_def,Rat.normalize_eq_mkRat]
end Go.Jog
namespace Go.Proofs.YthnpijdjlddpmaaGreatDoor
open Tryz
open Go Go.Jog
set_option maxRecDepth 100000
variable {a:Nat}{b:Rat}{d k:Nat}{n:Int}{q:Rat}{w z:Int}
def pM (sg:Bool)(A:Str)(B:Option Str):Value :=
 if I2 A B then .tuple #[.int .i64 (sgZ sg (cR A)),.int .i64 (LI B),.bool true] else .tuple #[.int .i64 0,.int .i64 0,.bool false]
theorem zp (C:Mem)(d:Bool)(A:Str)(B:Option Str)(q:∀ c∈A,eM c=true)(T:A≠[])(U:∀ b,B=some b->∀ c∈b,eM c=true)(V:(FK d++A++eF B).length<=1000000) :
  Gives cx.P 141 [al (FK d++A++eF B)] C (pM d A B):=by
 obtain ⟨s,hs⟩:∃ s,FK d++A++eF B=s:=⟨_,rfl⟩;obtain ⟨p,t⟩:∃ p,(FK d).length=p:=⟨_,rfl⟩;have g:p=if d then 1 else 0:=by rw [<- t];cases d <;> rfl
 have u:∀ j c,A[j]?=some c->s[p+j]?=some c:=fun j c h=>by rw [<- hs,<- t];exact Ir _ _ _ h
 have N:∀ j,s[p+A.length+j]?=(eF B)[j]?:=fun j=>by rw [<- hs,<- t];exact FM _ _ _ _
 have y:s.length=p+A.length+(eF B).length:=by rw [<- hs,<- t,LZ,LZ]
 have W:0<A.length:=MD.2 T;rw [hs] at V ⊢;refine Ph func141 73 U3 fun w0=>C6 3 [0,2,3] Z<|C6 2 [0,2,3,5,6] Z<|O7 5 Z fun R a=>PY (b:=s.getD 0 0) U8 (fun _=>⟨by omega,(by rw [ak,show (0:Int).toNat=0 from rfl];obtain ⟨c,f⟩:∃ c,s[0]?=some c:=⟨s[0]'om_,aj om_⟩;rw [f];rfl)⟩) U2<|Pa U6<|Pz U8<|Pd [0,2,3,5,6,15] a Z<|G.cut (fun fr C' i k=>(True)/\fr=[(0,[],al s),(2,[],.int .i64 0),(3,[],.int .i64 0),(5,[],.int .i64 p),(6,[],.bool d)]/\i=[]) ?_ (fun fr _ ae k _ l=>?_)
 ·refine O9 (fun v=>?_) fun v=>?_
  ·have n:d=true:=by
    cases d with
    | true=>rfl
    | false =>
     exfalso;rw [aC dc_] at g;subst g;obtain ⟨c,f⟩:∃ c,A[0]?=some c:=⟨A[0],aj W⟩;have h1:=u 0 c f;have h2:=q c (LQ f);rw [NF] at h1;rw [ak,h1] at v;unfold eM at h2;simp at v h2;omega
   subst n;rw [aI rfl] at g;subst g;refine C6 2 [0,2,3,5,6] Z<|Pj 0 (Mem.le.refl _) (hn_ [0,2,3,5,6] Z) ⟨trivial,Z,Z⟩
  ·have n:d=false:=by
    cases d with
    | false=>rfl
    | true =>
     exfalso;have h1:s[0]?=some 45:=by rw [<- hs];rfl
     rw [aI rfl] at g;have h2:(decide ((0:Int)<((s.length:Nat):Int)) && decide ((((s.getD 0 0).toNat:Nat):Int)=45))=false:=by simpa using v
     rw [ak,h1,Mc om_] at h2;exact absurd h2 dc_
   subst n;rw [aC dc_] at g;subst g;refine Pj 0 (Mem.le.refl _) (hn_ [0,2,3,5,6] Z) ⟨trivial,Z,Z⟩
 ·obtain ⟨_,rfl,rfl⟩:=l;refine C6 2 [0,2,3,5,6,7] Z<|G.loop (fun fr C' i k=>∃ (j:Nat),(j<=A.length/\j<=9)/\fr=[(0,[],al s),(2,[],.int .i64 ((cR (A.take j):Nat):Int)),(3,[],.int .i64 0),(5,[],.int .i64 ((p+j:Nat):Int)),(6,[],.bool d),(7,[],.int .i64 p)]/\i=[]/\k=A.length-j+1) (hn_ [0,2,3,5,6,7] Z) ⟨0,⟨by omega,by omega⟩,Z,Z,Z⟩ (fun fr af ag m X l=>?_);obtain ⟨j,⟨hj,w⟩,rfl,rfl,rfl⟩:=l;obtain ⟨c,f⟩:∃ c,p+j<s.length->s[p+j]?=some c:=⟨s.getD (p+j) 0,fun h=>by rw [ak,aj h];rfl⟩;refine O7 7 Z fun R a=>PY (b:=c) U8 (fun Y=>⟨by omega,f (by have h:decide (((p+j:Nat):Int)<((s.length:Nat):Int))=true:=Y.1;have h2:=K5 h;omega)⟩) U2<|Pa U6<|Pz U8<|Pd [0,2,3,5,6,7,26] a Z<|O9 (fun x=>?_) fun x=>?_
  ·have z:p+j<s.length/\c.toNat≠47:=by
    simp at x;omega
   have E:j<A.length:=by
    rcases Mw j A.length with h | h
    ·exact h
    ·exfalso;obtain rfl:j=A.length:=by omega
     have h1:=f z.1;have h2:=N 0;rw [NF,h1] at h2;cases B with
     | none=>simp [eF] at h2
     | some b =>
      simp [eF] at h2;subst h2;exact z.2 Z
   obtain ⟨e,o⟩:∃ c,A[j]?=some c:=⟨A[j],aj E⟩;obtain rfl:e=c:=by
    have h1:=f z.1;rw [u j e o] at h1;exact Nc h1
   have O:48<=e.toNat/\e.toNat<=57:=by simpa [eM] using q e (LQ o)
   have hV:=sz q w;refine O7 2 Z fun R a=>Pi _ U7<|C4 1 [0,2,3,5,6,7,32] a Z<|O9 (fun F=>?_) fun F=>?_
   ·have r:¬ A.length<=9:=by
     have:((p+j:Nat):Int)-p=9:=by simpa using F
     omega
    refine C6 3 [2,3,4] Z<|Pl (G.dropAll (P1 U4 ?_));refine ⟨?_,Z⟩;unfold pM I2;rw [Mk r,Bool.false_and,aC dc_]
   ·have r:j≠9:=by
     have:¬ ((p+j:Nat):Int)-p=9:=by simpa using F
     omega
    refine O7 1 Z fun R a=>Pi _ U7<|Pc 2 Z<|PY U8 (fun _=>⟨by omega,u j _ o⟩) U2<|D.int (((e.toNat:Nat):Int)-48) U4 (by rw [IntKind.wrap_u8];omega) U2<|PS (c:=((e.toNat:Nat):Int)-48) U8 (by rw [IntKind.wrap_i64];omega) fl_<|Pi _ U7<|C4 1 [0,2,3,5,6,7] a Z<|O7 1 Z fun R a=>Pi _ U7<|C4 1 [0,2,3,5,6,7] a Z ?_;rw [show 10*((cR (A.take j):Nat):Int)+(((e.toNat:Nat):Int)-48)=((cR (A.take (j+1)):Nat):Int) by rw [yv o];omega];refine Pk (m':=A.length-(j+1)+1) om_ X (hn_ [0,2,3,5,6,7] Z) ⟨j+1,⟨by omega,by omega⟩,Z,Z,Z⟩
  ·have E:j=A.length:=by
    rcases Mw j A.length with h | h
    ·exfalso;obtain ⟨e,o⟩:∃ c,A[j]?=some c:=⟨A[j],aj h⟩;have h1:=f om_;rw [u j e o] at h1;obtain rfl:=Nc h1;have O:48<=e.toNat/\e.toNat<=57:=by simpa [eM] using q e (LQ o)
     simp at x;have:=x om_;omega
    ·omega
   subst E;rw [Mb];refine C6 1 [0,2,3,5,41] Z<|G.cut (fun fr C' i k=>(True)/\fr=[(0,[],al s),(2,[],.int .i64 (sgZ d (cR A))),(3,[],.int .i64 0),(5,[],.int .i64 ((p+A.length:Nat):Int))]/\i=[]) ?_ (fun fr _ ah k _ l=>?_)
   ·refine O9 (fun H=>?_) fun H=>?_
    ·have n:d=true:=H;subst n;have aa:=sz q w;rw [Mb] at aa;refine C6 3 [0,2,3,5] Z ?_;rw [show IntKind.i64.wrap (0-((cR A:Nat):Int))=sgZ true (cR A) by rw [wrap_i64 om_ om_];unfold sgZ;rw [aI rfl];omega];refine Pj 0 (Mem.le.refl _) (hn_ [0,2,3,5] Z) ⟨trivial,Z,Z⟩
    ·have n:d=false:=by simpa using H
     subst n;refine Pj 0 (Mem.le.refl _) (hn_ [0,2,3,5] Z) ⟨trivial,Z,Z⟩
   ·obtain ⟨_,rfl,rfl⟩:=l;refine C6 4 [0,2,3,5,47] Z<|O9 (fun I=>?_) fun I=>?_
    ·have ab:B=none:=by
      cases B with
      | none=>rfl
      | some b =>
       exfalso;have:p+A.length=s.length:=by simp at I;omega
       rw [y] at this;simp [eF] at this
     subst ab;refine C6 4 [2,3,4] Z<|Pl (G.dropAll (P1 U4 ?_));refine ⟨?_,Z⟩;unfold pM I2;rw [Mc w];rfl
    ·obtain ⟨b,rfl⟩:∃ b,B=some b:=by
      cases B with
      | some b=>exact ⟨b,rfl⟩
      | none =>
       exfalso;simp [y,eF] at I
     have Q:=U b rfl;have ai:s.length=p+A.length+1+b.length:=by rw [y];simp [eF];omega
     refine O7 1 Z fun R a=>Pi _ U7<|C4 1 [0,2,3,5,7] a Z<|O7 1 Z fun R a=>Pi _ U7<|C4 1 [0,2,3,5,7] a Z<|G.loop (fun fr C' i k=>∃ (j:Nat),(j<=b.length/\j<=9)/\fr=[(0,[],al s),(2,[],.int .i64 (sgZ d (cR A))),(3,[],.int .i64 ((cR (b.take j):Nat):Int)),(5,[],.int .i64 ((p+A.length+1+j:Nat):Int)),(7,[],.int .i64 ((p+A.length+1:Nat):Int))]/\i=[]/\k=b.length-j+1) (hn_ [0,2,3,5,7] Z) ⟨0,⟨by omega,by omega⟩,Z,Z,Z⟩ (fun fr am an m ac l=>?_);obtain ⟨j,⟨hk,S⟩,rfl,rfl,rfl⟩:=l;refine C6 4 [0,2,3,5,7,56] Z<|O9 (fun J=>?_) fun J=>?_
     ·have K:j<b.length:=by
       have:p+A.length+1+j<s.length:=by simp at J;omega
       omega
      obtain ⟨c,L⟩:∃ c,b[j]?=some c:=⟨b[j],aj K⟩;have ad:s[p+A.length+1+j]?=some c:=by rw [OC,N,Oe 1 j];exact L
      have O:48<=c.toNat/\c.toNat<=57:=by simpa [eM] using Q c (LQ L)
      have hV:=sz Q S;refine O7 2 Z fun R a=>Pi _ U7<|C4 1 [0,2,3,5,7,62] a Z<|O9 (fun M=>?_) fun M=>?_
      ·have r:¬ b.length<=9:=by
        have:((p+A.length+1+j:Nat):Int)-((p+A.length+1:Nat):Int)=9:=by simpa using M
        omega
       refine C6 3 [2,3,4] Z<|Pl (G.dropAll (P1 U4 ?_));refine ⟨?_,Z⟩;unfold pM I2;rw [show (some b).getD []=b from rfl,Mk r,Bool.and_false,aC dc_]
      ·have r:j≠9:=by
        have:¬ ((p+A.length+1+j:Nat):Int)-((p+A.length+1:Nat):Int)=9:=by simpa using M
        omega
       refine O7 1 Z fun R a=>Pi _ U7<|Pc 2 Z<|PY U8 (fun _=>⟨by omega,ad⟩) U2<|D.int (((c.toNat:Nat):Int)-48) U4 (by rw [IntKind.wrap_u8];omega) U2<|PS (c:=((c.toNat:Nat):Int)-48) U8 (by rw [IntKind.wrap_i64];omega) fl_<|Pi _ U7<|C4 1 [0,2,3,5,7] a Z<|O7 1 Z fun R a=>Pi _ U7<|C4 1 [0,2,3,5,7] a Z ?_;rw [show 10*((cR (b.take j):Nat):Int)+(((c.toNat:Nat):Int)-48)=((cR (b.take (j+1)):Nat):Int) by rw [yv L];omega];refine Pk (m':=b.length-(j+1)+1) om_ ac (hn_ [0,2,3,5,7] Z) ⟨j+1,⟨by omega,by omega⟩,Z,Z,Z⟩
     ·have K:j=b.length:=by
       have:¬ p+A.length+1+j<s.length:=by simp at J;omega
       omega
      subst K;rw [Mb];refine C6 5 [2,3,4] Z<|Pl (G.dropAll (P1 U4 ?_));refine ⟨?_,Z⟩;unfold pM I2;rw [show (some b).getD []=b from rfl,Mc w,Mc S];rfl
theorem Cd {g:Nat}(a:g ∣ n.natAbs):n.tdiv (g:Int)=n / (g:Int):=Int.tdiv_eq_ediv_of_dvd (OW.1 (N6.2 a))
theorem Hh (a:d≠0):qtx (mkRat n d)=txt (n / ((Nat.gcd n.natAbs d:Nat):Int))++eF (lX (d / Nat.gcd n.natAbs d)):=by
 rw [nG,(rV n a).1,(rV n a).2]
theorem tO (C:Mem)(e:Tabs C)(n:Int)(d:Nat)(o:0<d)(p:n.natAbs<9000000000000000000)(t:d<9000000000000000000):Gives cx.P 142 [.int .i64 n,.int .i64 d] C (al (qtx (mkRat n d))):=by
 obtain ⟨g,b⟩:∃ g,Nat.gcd n.natAbs d=g:=⟨_,rfl⟩;have u:0<g:=by rw [<- b];exact Nat.gcd_pos_of_pos_right _ o
 have q:g ∣ n.natAbs:=by rw [<- b];exact O5 _ _
 have v:g ∣ d:=by rw [<- b];exact Nat.gcd_dvd_right _ _
 have F:g<=d:=Nat.le_of_dvd o v;rw [Hh om_,b];refine Ph func142 35 U3 fun w0=>C6 1 [0,1] Z<|C6 4 [0,1,5,6] Z<|G.loop (fun fr C' f h=>∃ (x y:Int),(x.natAbs<9000000000000000000/\y.natAbs<9000000000000000000/\Nat.gcd x.natAbs y.natAbs=g)/\fr=[(0,[],.int .i64 n),(1,[],.int .i64 d),(5,[],.int .i64 x),(6,[],.int .i64 y)]/\f=[]/\h=y.natAbs+1) (hn_ [0,1,5,6] Z) ⟨n,d,⟨p,by omega,by rw [MT];exact b⟩,Z,Z,Z⟩ (fun fr H I m w i=>?_);obtain ⟨x,y,⟨J,z,r⟩,rfl,rfl,rfl⟩:=i;refine C6 2 [0,1,5,6,10] Z<|O9 (fun j=>?_) fun j=>?_
 ·have k:y≠0:=by simpa using j
  have A:(x.tmod y).natAbs=x.natAbs % y.natAbs:=Int.natAbs_tmod x y;have K:=MR x.natAbs (show 0<y.natAbs by omega);refine Pv [0,1,2,3,4,5] [] Z kr_ fun R B a=>Pc 3 Z<|QI (x.tmod y) Z Z Z Z Z Z k Z Z Z<|C4 2 [0,1,5,6] a Z<|Pk (m':=(x.tmod y).natAbs+1) om_ w (hn_ [0,1,5,6] Z) ⟨y,x.tmod y,⟨z,by omega,by rw [A,<- r,Ow x.natAbs,Nat.gcd_rec y.natAbs x.natAbs,Ow]⟩,Z,Z,Z⟩
 ·have k:y=0:=by simpa using j
  subst k;rw [show (0:Int).natAbs=0 from rfl,O0] at r;refine C6 2 [0,1,5,16] Z<|G.cut (fun fr C' f h=>(True)/\fr=[(0,[],.int .i64 n),(1,[],.int .i64 d),(5,[],.int .i64 g)]/\f=[]) ?_ (fun fr _ L h _ i=>?_)
  ·refine O9 (fun l=>?_) fun l=>?_
   ·have D:x<0:=by simpa using l
    refine C6 3 [0,1,5] Z ?_;rw [show IntKind.i64.wrap (0-x)=(g:Int) by rw [wrap_i64 om_ om_];omega];refine Pj 0 (Mem.le.refl _) (hn_ [0,1,5] Z) ⟨trivial,Z,Z⟩
   ·have D:¬ x<0:=by simpa using l
    rw [show x=(g:Int) by omega];refine Pj 0 (Mem.le.refl _) (hn_ [0,1,5] Z) ⟨trivial,Z,Z⟩
  ·obtain ⟨_,rfl,rfl⟩:=i;have E:(n / (g:Int)).natAbs<=n.natAbs:=by
    rw [OA (OW.1 (N6.2 q)),MT];exact NJ _ _
   have s:=NJ d g;refine Pv [0,1,2,3,4,5,6,7] [] Z kr_ fun R B a=>Pc 2 Z<|Ro (n / (g:Int)) Z Z Z Z Z Z om_ (Cd q) (wrap_i64 om_ om_) Z Z<|Pc 2 Z<|P5 (d) (g) U6 u (.inl ⟨Z,by omega⟩) U2<|C4 2 [0,1] a Z<|C6 2 [0,1,26] Z<|O9 (fun c=>?_) fun c=>?_
   ·have h1:d / g=1:=by
     have h2:(((d / g:Nat):Int))=1:=by simpa using c
     omega
    refine O7 1 Z fun R a=>Pp (sd _ e.m_ _ om_ om_) U7 fl_<|C4 1 [4] a Z<|Pf U2<|⟨?_,Z⟩;rw [h1,sy rfl];simp [eF]
   ·have h1:d / g≠1:=by
     intro h2;rw [h2] at c;exact absurd c dc_
    have M:=vt (n / (g:Int));have N:=vt ((d / g:Nat):Int);have O:(bP (n / (g:Int)).natAbs).length<=20:=iY (MS E (Of p dc_)) dc_;have Q:(bP ((d / g:Nat):Int).natAbs).length<=20:=iY (by rw [MT];exact MS s (Of t dc_)) dc_;refine O7 1 Z fun R a=>Pp (sd _ e.m_ _ om_ om_) U7 fl_<|Qd U6 (fun _=>(by simp only [Ml,MM];omega)) U2<|Pa U6<|Pp (sd _ e.m_ ((d / g:Nat):Int) (Int.le_trans dc_ (Int.natCast_nonneg _)) (Int.le_trans (Int.ofNat_le.2 s) om_)) U7 fl_<|Qd U6 (fun _=>(by simp only [LZ,Ml,MM];omega)) U2<|C4 1 [4] a Z<|Pf U2<|⟨?_,Z⟩;rw [iB h1,gc,Mo];rfl
theorem Dx (C:Mem)(z:Int)(d:Nat)(k:Nat)(b:0<k)(g:k<=40000)(c:z.natAbs<B9 ^ k)(e:d<B9 ^ k):Gives cx.P 212 [al (txt z),al (bP d)] C (al (txt z++eF (lX d))):=by
 have h:(txt z).length<=9*k+1:=by
  have:=bT c b;unfold txt;split
  ·simp;omega
  ·omega
 have i:=bT e b;refine Ph func212 12 U3 fun w0=>C6 1 [0,1] Z<|C6 2 [0,1,6] Z<|O9 (fun a=>?_) fun a=>?_
 ·have h1:d=1:=by rw [yx] at a;exact K5 a
  refine C6 2 [4] Z<|Pf U2<|⟨?_,Z⟩;rw [sy h1];simp [eF]
 ·have h1:d≠1:=by rw [yx] at a;exact LS a
  refine O7 1 Z fun R f=>Qd U6 (fun _=>(by simp only [Ml,MM];omega)) U2<|Pa U6<|Qd U6 (fun _=>(by simp only [LZ,Ml,MM];omega)) U2<|C4 1 [4] f Z<|Pf U2<|⟨?_,Z⟩;rw [iB h1,Mo];rfl
theorem BW (C:Mem)(s:Str)(c:s.length<1000000):Gives cx.P 143 [al s] C (.tuple #[al (jb 47 s).1,al ((jb 47 s).2.getD [49])]):=by
 refine Ph func143 18 U3 fun w0=>C6 2 [0] Z<|O7 1 Z fun R d=>Pn (HJ _ s 47 c) U7<|C4 7 [4,5,6] d Z<|C6 2 [4,5,14] Z<|O9 (fun a=>?_) fun a=>?_
 ·have h1:(jb 47 s).2=none:=by
   cases h:(jb 47 s).2 with
   | none=>rfl
   | some b=>rw [h] at a;simp at a
  refine C6 3 [2,3] Z<|Pl (G.dropAll (PE U3 ?_));refine ⟨?_,Z⟩;rw [h1];rfl
 ·obtain ⟨b,h1⟩:∃ b,(jb 47 s).2=some b:=by
   cases h:(jb 47 s).2 with
   | some b=>exact ⟨b,rfl⟩
   | none=>rw [h] at a;simp at a
  refine C6 4 [2,3] Z<|Pl (G.dropAll (PE U3 ?_));refine ⟨?_,Z⟩;rw [h1];rfl
theorem yy {c:UInt8}:∀ {a:Str}(b:Str),c ∉ a->jb c (a++c::b)=(a,some b)
 | [],b,_=>by simp [jb]
 | x::a,b,h=>by
  have d:x≠c:=fun e=>h (e ▸ aF);have hr:=yy (c:=c) (a:=a) b (fun h2=>h (LW _ h2));simp only [ND,jb,aC d,hr]
theorem uH {c:UInt8}:∀ {a:Str},c ∉ a->jb c a=(a,none)
 | [],_=>rfl
 | x::a,h=>by
  have b:x≠c:=fun e=>h (e ▸ aF);have hr:=uH (c:=c) (a:=a) (fun h2=>h (LW _ h2));simp only [jb,aC b,hr]
theorem tF {s:Str}(h:∀ c∈s,eM c=true):(47:UInt8) ∉ s:=fun h2=>absurd (h 47 h2) dc_
theorem tE (z:Int):(47:UInt8) ∉ txt z:=by
 unfold txt;split
 ·intro h;rcases Ma.1 h with h | h
  ·cases h
  ·exact tF (iZ _) h
 ·exact tF (iZ _)
theorem mF (q:Rat):jb 47 (qtx q)=(txt q.num,lX q.den):=by
 rw [nG];unfold lX;split
 ·rw [show eF none=[] from rfl,Mi];exact uH (tE _)
 ·exact yy _ (tE _)
theorem one_dec:bP 1=[49]:=by rw [bP];rfl
theorem D4 (d:Nat):(lX d).getD [49]=bP d:=by
 unfold lX;split
 ·rename_i h;subst h;exact one_dec.symm
 ·rfl
theorem Iw (C:Mem)(q:Rat)(a:(qtx q).length<1000000):Gives cx.P 143 [al (qtx q)] C (.tuple #[al (txt q.num),al (bP q.den)]):=by
 have h:=BW C (qtx q) a
 rwa [mF,D4] at h
def HF (z w:Int):Rat:=mkRat (if w<0 then -z else z) w.natAbs
theorem um (C:Mem)(f:Tabs C)(z w:Int)(k:Nat)(b:0<k)(e:k<=40000)(p:z.natAbs<B9 ^ k)(q:w.natAbs<B9 ^ k)(v:w≠0):Gives cx.P 144 [al (txt z),al (txt w)] C (al (qtx (HF z w))):=by
 have x:=bT p b;have A:=bT q b;obtain ⟨y,hy⟩:∃ y,(if w<0 then -z else z)=y:=⟨_,rfl⟩;obtain ⟨d,r⟩:∃ d,w.natAbs=d:=⟨_,rfl⟩;have s:d≠0:=by omega
 have B:y.natAbs=z.natAbs:=by rw [<- hy];split <;> omega
 obtain ⟨g,c⟩:∃ g,Nat.gcd y.natAbs d=g:=⟨_,rfl⟩;have D:0<g:=by rw [<- c];exact Nat.gcd_pos_of_pos_right _ om_
 have t:g ∣ d:=by rw [<- c];exact Nat.gcd_dvd_right _ _
 have E:g<=d:=Nat.le_of_dvd om_ t;unfold HF;rw [hy,r,Hh s,c];refine Ph func144 35 U3 fun w0=>C6 1 [0,1] Z<|O7 1 Z fun R a=>Pn (my _ w) U7<|C4 1 [0,1,8] a Z<|G.cut (fun fr C' i j=>(True)/\fr=[(0,[],al (txt y)),(1,[],al (txt (d:Nat)))]/\i=[]) ?_ (fun fr _ F j _ l=>?_)
 ·refine O9 (fun m=>?_) fun m=>?_
  ·have n:w<0:=by
    have h:dX w<0:=by simpa using m
    unfold dX at h;split at h <;> omega
   rw [aI n] at hy;refine O7 1 Z fun R a=>Pp (se _ z om_) U7 fl_<|Pa U6<|Pp (se _ w om_) U7 fl_<|C4 2 [0,1] a Z<|Pj 0 (Mem.le.refl _) (hn_ [0,1] Z) ⟨trivial,by rw [hy,show -w=((d:Nat):Int) by omega],Z⟩
  ·have n:¬ w<0:=by
    intro h2;have h:¬ dX w<0:=by simpa using m
    unfold dX at h;split at h <;> omega
   rw [aC n] at hy;refine Pj 0 (Mem.le.refl _) (hn_ [0,1] Z) ⟨trivial,by rw [hy,show w=((d:Nat):Int) by omega],Z⟩
 ·obtain ⟨_,rfl,rfl⟩:=l;refine O7 2 Z fun R a=>Pp (DB _ f.m_ y (d:Nat) k b e om_ om_) U7 fl_<|C4 1 [0,1,5] a Z ?_;rw [MT,c];refine C6 2 [0,1,5,17] Z<|G.cut (fun fr C' i j=>(True)/\fr=[(0,[],al (txt (y / (g:Nat)))),(1,[],al (txt ((d / g:Nat):Int)))]/\i=[]) ?_ (fun fr _ H j _ l=>?_)
  ·refine O9 (fun o=>?_) fun o=>?_
   ·refine O7 2 Z fun R a=>Pp (qq _ f.m_ y (g:Nat) k b e om_ om_ om_) U7 fl_<|C4 5 [0,1,5] a Z<|O7 2 Z fun R a=>Pp (qq _ f.m_ (d:Nat) (g:Nat) k b e om_ om_ om_) U7 fl_<|C4 5 [0,1] a Z<|Pj 0 (Mem.le.refl _) (hn_ [0,1] Z) ⟨trivial,by rw [O4],Z⟩
   ·have u:g=1:=by
     rw [gc,yx] at o;simpa using o
    refine Pj 0 (Mem.le.refl _) (hn_ [0,1] Z) ⟨trivial,by rw [u,Nat.div_one,Int.natCast_one,Int.ediv_one],Z⟩
  ·obtain ⟨_,rfl,rfl⟩:=l;rw [gc];exact O7 2 Z fun R a=>Pp (Dx _ (y / (g:Nat)) (d / g) k b e (by rw [OA (OW.1 (N6.2 (by rw [<- c];exact O5 _ _))),MT];exact MS (NJ _ _) om_) (MS (NJ _ _) om_)) U7 fl_<|C4 1 [4] a Z<|Pf U2<|⟨Z,Z⟩
theorem Jf {b:Nat}(h:bP a=bP b):a=b:=by rw [<- (bN a).2,h,(bN b).2]
theorem JL (h:txt z=txt w):z=w:=by
 have h1:=dv z;rw [h,dv w] at h1;have h2:=Jf (O6 h1).1;have h3:decide (w<0)=decide (z<0):=(O6 h1).2;by_cases a:w<0
 ·rw [Mc a] at h3;have:=K5 h3.symm;omega
 ·rw [Mk a] at h3;have:=LS h3.symm;omega
theorem lH {a:Rat}(h:qtx a=qtx b):a=b:=by
 have h1:=mF a;rw [h,mF b] at h1;have h2:=JL (O6 h1).1;have h3:=congrArg LI (O6 h1).2;rw [oC,oC] at h3;exact Rat.ext h2.symm h3.symm
theorem Ij (a b:Rat):((⟨(qtx a).toArray⟩:ByteArray).data.toList == (⟨(qtx b).toArray⟩:ByteArray).data.toList)=decide (a=b):=by
 show (qtx a == qtx b)=_;rw [OQ,Nh,LY];exact ⟨lH,fun h=>by rw [h]⟩
theorem qtx_zero:qtx 0=[48]:=by
 rw [show (0:Rat)=((0:Int):Rat) from rfl,nH];unfold txt;rw [aC om_,show bP (0:Int).natAbs=bP 0 from rfl,bP];rfl
theorem dp:qtx 1=[49]:=by
 rw [show (1:Rat)=((1:Int):Rat) from rfl,nH];exact one_val.symm
theorem fw (a:Rat):((⟨(qtx a).toArray⟩:ByteArray).data.toList == (⟨#[48]⟩:ByteArray).data.toList)=decide (a=0):=by
 have h:=Ij a 0
 rwa [qtx_zero] at h
theorem Hi (a:Rat):((⟨(qtx a).toArray⟩:ByteArray).data.toList == (⟨#[49]⟩:ByteArray).data.toList)=decide (a=1):=by
 have h:=Ij a 1
 rwa [dp] at h
theorem Ci (a:Rat):0<(qtx a).length:=by
 unfold qtx;rw [LZ,LZ];have:=MD.2 (wh a.num.natAbs);omega
theorem bE (h:QB k q)(a:0<k):(qtx q).length<=18*k+2:=by
 unfold qtx;rw [LZ,LZ];have h1:=bT h.1 a;have h2:=bT h.2 a;have h3:(FK (decide (q.num<0))).length<=1:=by cases decide (q.num<0) <;> simp [FK]
 have h4:(eF (lX q.den)).length<=9*k+1:=by
  unfold lX;split
  ·simp [eF]
  ·simp [eF];exact h2
 omega
theorem rG (q:Rat):∃ c r,qtx q=c::r/\((((c.toNat:Nat):Int) == 45)=decide (q.num<0)):=by
 by_cases h:q.num<0
 ·refine ⟨45,bP q.num.natAbs++eF (lX q.den), ?_,by rw [Mc h];decide⟩;unfold qtx;rw [Mc h];rfl
 ·obtain ⟨c,r,a⟩:∃ c r,bP q.num.natAbs=c::r:=List.exists_cons_of_ne_nil (wh _);refine ⟨c,r++eF (lX q.den), ?_, ?_⟩
  ·unfold qtx;rw [Mk h,a];rfl
  ·have h2:=iZ q.num.natAbs c (by rw [a];exact aF);rw [Mk h];unfold eM at h2;have h3:=K5 h2;exact Mk om_
theorem fC (h:¬ q.num<0)(a:q≠0):qtx (-q)=45::qtx q:=by
 have b:q.num≠0:=fun e=>a (Ou.1 e);unfold qtx;rw [OX,Rat.neg_den,Mc om_,Mk h,Oy];rfl
theorem pf (h:q.num<0):qtx q=45::qtx (-q):=by
 have h2:=fC (q:=-q) (by rw [OX];omega) (by intro e;have h3:=congrArg Rat.num e;rw [OX] at h3;have h4:(0:Rat).num=0:=rfl;omega)
 rwa [Rat.neg_neg] at h2
def zX (q:Rat):Bool:=I2 (bP q.num.natAbs) (lX q.den)
theorem HC {n:Nat}(h:(bP n).length<=9):n<1000000000:=by
 have h1:=dU (iZ n);rw [(bN n).2] at h1;exact MV h1 (Md (Mt dc_ h) dc_)
theorem li (h:zX q=true):q.num.natAbs<1000000000/\q.den<1000000000:=by
 unfold zX I2 at h;rw [L3,LY,LY] at h;refine ⟨HC h.1, ?_⟩;by_cases h1:q.den=1
 ·omega
 ·rw [iB h1] at h;exact HC h.2
theorem BV (C:Mem)(q:Rat)(a:(qtx q).length<=1000000):Gives cx.P 141 [al (qtx q)] C (if zX q then .tuple #[.int .i64 q.num,.int .i64 (q.den:Nat),.bool true] else .tuple #[.int .i64 0,.int .i64 0,.bool false]):=by
 have h:=zp C (decide (q.num<0)) (bP q.num.natAbs) (lX q.den) (iZ _) (wh _) (Gx _) a;unfold pM at h;rw [(bN _).2,oC] at h;have e:sgZ (decide (q.num<0)) q.num.natAbs=q.num:=by
  unfold sgZ;by_cases h:q.num<0
  ·rw [Mc h,aI rfl];omega
  ·rw [Mk h,aC dc_];omega
 rw [e] at h;exact h
theorem dT (C:Mem)(q:Rat)(g:(qtx q).length<=1000000):Gives cx.P 174 [al (qtx q)] C (al (qtx (-q))):=by
 have h:=Ci q;refine Ph func174 13 U3 fun w0=>C6 1 [0] Z<|C6 2 [0,4] Z<|O9 (fun h4=>?_) fun h4=>?_
 ·have h0:q=0:=by rw [fw] at h4;exact K5 h4
  refine C6 2 [2] Z<|Pf U2<|⟨?_,Z⟩;rw [h0,Rat.neg_zero]
 ·have h0:q≠0:=by rw [fw] at h4;exact LS h4
  obtain ⟨c,r,f,e⟩:=rG q;refine O7 1 Z fun R a=>PY U8 (fun _=>⟨by omega,by rw [f];rfl⟩) U2<|C4 1 [0,8] a Z<|O9 (fun b=>?_) fun b=>?_
  ·have d:q.num<0:=by rw [e] at b;exact K5 b
   refine O7 1 Z fun R a=>P2 1 (qtx q).length U9 (fun _=>⟨.inr ⟨_,Z⟩,.inl ⟨Z,Z⟩,.inl ⟨Z,Z⟩,by omega,LP _,LP _⟩) U2<|C4 1 [2] a Z<|Pf U2<|⟨?_,Z⟩;rw [Mb,pf d];rfl
  ·have d:¬ q.num<0:=by rw [e] at b;exact LS b
   refine O7 1 Z fun R a=>Qd U6 (fun _=>(by simp only [Ml,MM];omega)) U2<|C4 1 [2] a Z<|Pf U2<|⟨?_,Z⟩;rw [fC d h0];rfl
theorem fu (C:Mem)(q:Rat)(j:(qtx q).length<=1000000):Gives cx.P 58 [al (qtx q)] C (.int .i64 (dX q.num)):=by
 obtain ⟨c,r,f,d⟩:=rG q;have k:=Ci q;refine Ph func58 15 U3 fun w0=>C6 1 [0] Z<|C6 3 [0,3] Z<|O9 (fun h3=>?_) fun h3=>?_
 ·have h0:q=0:=by rw [fw] at h3;exact K5 h3
  refine C6 1 [2] Z<|Pf U2<|⟨?_,Z⟩;rw [h0];rfl
 ·have h0:q≠0:=by rw [fw] at h3;exact LS h3
  have g:q.num≠0:=fun e=>h0 (Ou.1 e);refine O7 5 Z fun R i=>PY U8 (fun _=>⟨by omega,by rw [f];rfl⟩) U2<|Pa U6<|Pz U8<|C4 1 [6] i Z<|O9 (fun a=>?_) fun a=>?_
  ·rw [d] at a;have b:q.num<0:=by
    have h:=(L3 _ _ ▸ a:_/\_).2;exact K5 h
   skip
   refine C6 1 [2] Z<|Pf U2<|⟨?_,Z⟩;unfold dX;rw [aI b]
  ·rw [d,Mc (show (0:Int)<((⟨(qtx q).toArray⟩:ByteArray).data.toList.length:Int) by show (0:Int)<(((qtx q).length:Nat):Int);omega),OD] at a;have b:¬ q.num<0:=LS a;refine C6 1 [2] Z<|Pf U2<|⟨?_,Z⟩;unfold dX;rw [aC b,aC g]
theorem iL (C:Mem)(q:Rat)(b:(qtx q).length<=1000000):Gives cx.P 141 [al (qtx q)] C (.tuple #[.int .i64 (if zX q then q.num else 0),.int .i64 (if zX q then ((q.den:Nat):Int) else 0),.bool (zX q)]):=by
 have h:=BV C q b;cases a:zX q with
 | true=>rw [a] at h;exact h
 | false=>rw [a] at h;exact h
def qM (a b:Rat):Int:=if a<b then -1 else if b<a then 1 else 0
theorem sI {a:Rat}:qM a b=sZ (a.num*b.den) (b.num*a.den):=by
 unfold qM sZ;simp only [Rat.lt_iff]
theorem gk (a:Rat):0<a.den:=NK a.den_nz
theorem mj {a:Int}(b:a.natAbs<1000000000)(c:d<1000000000):-1000000000000000000<a*(d:Int)/\a*(d:Int)<1000000000000000000:=Cs b (by rw [MT];exact c)
theorem ui (b:a<1000000000)(c:d<1000000000):a*d<1000000000000000000:=NE b c
theorem jD (C:Mem)(q:Rat)(a:(qtx q).length<1000000):Gives cx.P 143 [al (qtx q)] C (.tuple #[al (txt q.num),al (txt ((q.den:Nat):Int))]):=by
 have h:=Iw C q a
 rwa [<- gc] at h
theorem dz (a:z.natAbs<B9 ^ k)(b:w.natAbs<B9 ^ k):(z*w).natAbs<B9 ^ (k+k):=by
 rw [Nr];exact mg a b
theorem yp (a:0<d):HF z ((d:Nat):Int)=mkRat z d:=by
 unfold HF;rw [aC om_,MT]
theorem pk (h:QB k q):((q.den:Nat):Int).natAbs<B9 ^ k:=by rw [MT];exact h.2
theorem gi (C:Mem)(m:Tabs C)(a b:Rat)(k:Nat)(f:0<k)(u:k<=20000)(d:QB k a)(e:QB k b):Gives cx.P 107 [al (qtx a),al (qtx b)] C (.int .i64 (qM a b)):=by
 have v:=bE d f;have w:=bE e f;refine Ph func107 65 U3 fun w0=>C6 1 [0,1] Z<|C6 3 [0,1,19] Z<|O9 (fun g=>?_) fun g=>?_
 ·have h0:a=b:=by rw [Ij] at g;exact K5 g
  refine C6 1 [4] Z<|Pf U2<|⟨?_,Z⟩;subst h0;rw [qM,aC (Rat.lt_irrefl),aC (Rat.lt_irrefl)]
 ·refine O7 1 Z fun R c=>Pp (iL _ a om_) U7 fl_<|C4 7 [0,1,5,6,7] c Z<|C6 1 [0,1,5,6,26] Z<|G.cut (fun fr C' r s=>(True)/\fr=[(0,[],al (qtx a)),(1,[],al (qtx b))]/\r=[]) ?_ (fun fr _ x s _ t=>?_)
  ·refine O9 (fun n=>?_) fun n=>?_
   ·have h:zX a=true:=n;rw [aI h,aI h];have o:=li h;refine O7 1 Z fun R c=>Pp (iL _ b om_) U7 fl_<|C4 7 [0,1,5,6,8,9,10] c Z<|C6 1 [0,1,5,6,8,9,33] Z<|O9 (fun p=>?_) fun p=>?_
    ·have i:zX b=true:=p;rw [aI i,aI i];have q:=li i;have y:=mj o.1 q.2;have z:=mj q.1 o.2;refine O7 2 Z fun R c=>Pi _ U7<|Pc 2 Z<|Pi _ U7<|C4 2 [11,12] c Z<|C6 4 [11,12,40] Z<|O9 (fun j=>?_) fun j=>?_
     ·have h1:=K5 j;refine C6 1 [4] Z<|Pf U2<|⟨?_,Z⟩;rw [sI,sZ,aI h1]
     ·have h1:=LS j;refine C6 4 [44] Z<|O9 (fun l=>?_) fun l=>?_
      ·have h2:=K5 l;refine C6 1 [4] Z<|Pf U2<|⟨?_,Z⟩;rw [sI,sZ,aC h1,aI h2]
      ·have h2:=LS l;refine C6 1 [4] Z<|Pf U2<|⟨?_,Z⟩;rw [sI,sZ,aC h1,aC h2]
    ·refine Pj 0 (Mem.le.refl _) (hn_ [0,1] Z) ⟨trivial,Z,Z⟩
   ·refine Pj 0 (Mem.le.refl _) (hn_ [0,1] Z) ⟨trivial,Z,Z⟩
  ·obtain ⟨_,rfl,rfl⟩:=t;exact O7 1 Z fun R c=>Pp (jD _ a om_) U7 fl_<|C4 5 [1,13,14] c Z<|O7 1 Z fun R c=>Pp (jD _ b om_) U7 fl_<|C4 5 [13,14,15,16] c Z<|O7 2 Z fun R c=>Pp (jF _ m.m_ _ _ k f om_ d.1 (pk e)) U7 fl_<|Pc 2 Z<|Pp (jF _ m.m_ _ _ k f om_ e.1 (pk d)) U7 fl_<|Pp (ot _ _ _ (by have:=bT (dz d.1 (pk e)) om_;omega) (by have:=bT (dz e.1 (pk d)) om_;omega)) U7 fl_<|C4 1 [4] c Z<|Pf U2<|⟨by rw [sI],Z⟩
theorem kX (C:Mem)(f:Tabs C)(a b:Rat)(k:Nat)(g:0<k)(w:k<=10000)(d:QB k a)(e:QB k b):Gives cx.P 91 [al (qtx a),al (qtx b)] C (al (qtx (a+b))):=by
 have x:=bE d g;have y:=bE e g;have r:=gk a;have s:=gk b;have o:0<a.den*b.den:=Oa r s;refine Ph func91 67 U3 fun w0=>C6 1 [0,1] Z<|C6 2 [0,1,16] Z<|O9 (fun h=>?_) fun h=>?_
 ·have h0:a=0:=by rw [fw] at h;exact K5 h
  refine C6 2 [4] Z<|Pf U2<|⟨?_,Z⟩;rw [h0,Rat.zero_add]
 ·refine C6 2 [0,1,19] Z<|O9 (fun i=>?_) fun i=>?_
  ·have h0:b=0:=by rw [fw] at i;exact K5 i
   refine C6 2 [4] Z<|Pf U2<|⟨?_,Z⟩;rw [h0,Rat.add_zero]
  ·refine O7 1 Z fun R c=>Pp (iL _ a om_) U7 fl_<|C4 7 [0,1,5,6,7] c Z<|C6 1 [0,1,5,6,27] Z<|G.cut (fun fr C' t u=>(True)/\fr=[(0,[],al (qtx a)),(1,[],al (qtx b))]/\t=[]) ?_ (fun fr _ z u _ v=>?_)
   ·refine O9 (fun p=>?_) fun p=>?_
    ·have j:zX a=true:=p;rw [aI j,aI j];have l:=li j;refine O7 1 Z fun R c=>Pp (iL _ b om_) U7 fl_<|C4 7 [0,1,5,6,8,9,10] c Z<|C6 1 [0,1,5,6,8,9,34] Z<|O9 (fun q=>?_) fun q=>?_
     ·have m:zX b=true:=q;rw [aI m,aI m];have n:=li m;have A:=mj l.1 n.2;have B:=mj n.1 l.2;have D:=ui l.2 n.2;exact O7 2 Z fun R c=>Pi _ U7<|Pc 2 Z<|Pi _ U7<|Pi _ U7<|Pc 2 Z<|PN (((a.den*b.den:Nat):Int)) U4 (M1 _ _).symm om_ om_ U2<|Pp (tO _ f.m_ _ _ o om_ om_) U7 fl_<|C4 1 [4] c Z<|Pf U2<|⟨by rw [iO],Z⟩
     ·refine Pj 0 (Mem.le.refl _) (hn_ [0,1] Z) ⟨trivial,Z,Z⟩
    ·refine Pj 0 (Mem.le.refl _) (hn_ [0,1] Z) ⟨trivial,Z,Z⟩
   ·obtain ⟨_,rfl,rfl⟩:=v;exact O7 1 Z fun R c=>Pp (jD _ a om_) U7 fl_<|C4 5 [1,11,12] c Z<|O7 1 Z fun R c=>Pp (jD _ b om_) U7 fl_<|C4 5 [11,12,13,14] c Z<|O7 2 Z fun R c=>Pp (jF _ f.m_ _ _ k g om_ d.1 (pk e)) U7 fl_<|Pc 2 Z<|Pp (jF _ f.m_ _ _ k g om_ e.1 (pk d)) U7 fl_<|Pp (IW _ f.m_ _ _ (k+k) om_ om_ (dz d.1 (pk e)) (dz e.1 (pk d))) U7 fl_<|Pc 2 Z<|Pp (jF _ f.m_ _ _ k g om_ (pk d) (pk e)) U7 fl_<|Pp (um _ f.m_ _ _ (k+k+1) om_ om_ (MS (Oc _ _) (vx (dz d.1 (pk e)) (dz e.1 (pk d)))) (da (dz (pk d) (pk e)) om_) (by rw [<- M1];omega)) U7 fl_<|C4 1 [4] c Z<|Pf U2<|⟨by rw [iO,<- M1,yp o],Z⟩
end Go.Proofs.YthnpijdjlddpmaaGreatDoor
