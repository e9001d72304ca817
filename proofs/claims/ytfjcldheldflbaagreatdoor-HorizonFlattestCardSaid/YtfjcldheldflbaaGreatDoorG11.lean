import Derived.Test.YtfjcldheldflbaaGreatDoorG10
import Derived.Test.YtfjcldheldflbaaGreatDoorCards
import Derived.Test.YtfjcldheldflbaaGreatDoorTie
import Derived.Stop.LaidErr
import Derived.Deep.Strs
set_option maxHeartbeats 4000000
namespace Go.Proofs.YtfjcldheldflbaaGreatDoor
open Go.Proofs.Tryz
open Go Go.Jog
set_option maxRecDepth 100000
variable {i:Nat}{n:Int}{q:Rat}{s u x y:Str}{z:Int}
def sqP:List (Int × Int):=[(0,0),(4,0),(4,4),(0,4)]
def shP:Nat->List (Int × Int)
|0=>sqP
|1=>sqP
|2=>sqP++[(2,1)]
|3=>[(0,0),(6,0),(0,4)]
|4=>[(0,0),(2,0),(4,0),(0,2),(2,2),(4,2)]
|5=>[(1,4),(5,3),(4,0),(0,0)]
|6=>sqP++[(2,0)]
|_=>[(0,0),(6,0),(0,6),(2,2)]
def shT:Nat->List Tri
|0=>[(0,1,2),(0,2,3)]
|1=>[(0,1,3),(1,2,3)]
|2=>[(0,1,4),(1,2,4),(2,3,4),(3,0,4)]
|3=>[(2,0,1)]
|4=>[(0,1,4),(0,4,3),(1,2,5),(1,5,4)]
|5=>[(3,2,1),(3,1,0)]
|6=>[(0,4,3),(4,2,3),(4,1,2)]
|_=>[(0,1,3),(1,2,3),(2,0,3)]
def R9 (p:Int × Int):List Value:=[.int .i64 p.1,.int .i64 p.2]
def ShIn (u:Value)(D:Mem)(m:Nat):Prop:=∃pv tv,u=.tuple #[pv,tv]/\Sl D 2 pv ((shP m).map R9)/\Sl D 3 tv ((shT m).map jG)
theorem EF (C:Mem)(a:Nat)(_H:a<256):Pur cx.P 115 [.int .u8 a] C λu D=>ShIn u D (a % 8):=by
 have I:a % 8<8:=S5 _ dc_;obtain⟨m,hm⟩:∃m,a % 8=m:=⟨_,rfl⟩;refine V7 func115 86 U3 λw0=>U0 2 [0] U<|V3 λR b=>Wm ([i_ 0,i_ 0]) U8<|Wm ([i_ 4,i_ 0]) U8<|Wm ([i_ 4,i_ 4]) U8<|Wm ([i_ 0,i_ 4]) U8<|WR [[i_ 0,i_ 0],[i_ 4,i_ 0],[i_ 4,i_ 4],[i_ 0,i_ 4]] U12 fl_ λJ _ _ d=>C6 1 [0,4] b U<|U1 1 U λR b=>WT (a) (8) U6 om_ U2<|V5 [4,11] b U<|U0 2 [4,11,12] U<|G.cd (λf=>?_) λf=>?_
 .have c:a % 8=0:=by
   have:=dZ f;omega
  refine U1 1 U λR b=>Wm ([i_ 0,i_ 1,i_ 2]) U8<|Wm ([i_ 0,i_ 2,i_ 3]) U8<|Wq [[i_ 0,i_ 1,i_ 2],[i_ 0,i_ 2,i_ 3]] U12 λK _ _ n=>C6 2 [2,3] b U<|Wd (G.dropAll (Wu U3 ?_));exact⟨U,by rw[c];exact⟨_,_,U,d.mono mup,n.mono mup⟩⟩
 have L:a % 8≠0:=by
  intro e;rw[e]at f;exact absurd f dc_
 refine U0 2 [4,11,18] U<|G.cd (λg=>?_) λg=>?_
 .have c:a % 8=1:=by
   have:=dZ g;omega
  refine U1 1 U λR b=>Wm ([i_ 0,i_ 1,i_ 3]) U8<|Wm ([i_ 1,i_ 2,i_ 3]) U8<|Wq [[i_ 0,i_ 1,i_ 3],[i_ 1,i_ 2,i_ 3]] U12 λM _ _ o=>C6 2 [2,3] b U<|Wd (G.dropAll (Wu U3 ?_));exact⟨U,by rw[c];exact⟨_,_,U,d.mono mup,o.mono mup⟩⟩
 have N:a % 8≠1:=by
  intro e;rw[e]at g;exact absurd g dc_
 refine U0 2 [4,11,24] U<|G.cd (λh=>?_) λh=>?_
 .have c:a % 8=2:=by
   have:=dZ h;omega
  refine U1 1 U λR b=>Wm ([i_ 2,i_ 1]) U8<|Wq [[i_ 2,i_ 1]] U12 λO _ _ p=>XZ U U U U U U U U U U d.m_ p.m_ (.inr dc_) (by simp only[SC,SZ,maxLen];omega) dc_ fl_ λQ _ _ q=>Wm ([i_ 0,i_ 1,i_ 4]) U8<|Wm ([i_ 1,i_ 2,i_ 4]) U8<|Wm ([i_ 2,i_ 3,i_ 4]) U8<|Wm ([i_ 3,i_ 0,i_ 4]) U8<|Wq [[i_ 0,i_ 1,i_ 4],[i_ 1,i_ 2,i_ 4],[i_ 2,i_ 3,i_ 4],[i_ 3,i_ 0,i_ 4]] U12 λS _ _ r=>C6 2 [2,3] b U<|Wd (G.dropAll (Wu U3 ?_));exact⟨U,by rw[c];exact⟨_,_,U,q.mono mup,r.mono mup⟩⟩
 have T:a % 8≠2:=by
  intro e;rw[e]at h;exact absurd h dc_
 refine U0 2 [4,11,35] U<|G.cd (λi=>?_) λi=>?_
 .have c:a % 8=3:=by
   have:=dZ i;omega
  refine V3 λR b=>Wm ([i_ 0,i_ 0]) U8<|Wm ([i_ 6,i_ 0]) U8<|Wm ([i_ 0,i_ 4]) U8<|Wq [[i_ 0,i_ 0],[i_ 6,i_ 0],[i_ 0,i_ 4]] U12 λV _ _ s=>Wm ([i_ 2,i_ 0,i_ 1]) U8<|Wq [[i_ 2,i_ 0,i_ 1]] U12 λW _ _ t=>C6 2 [2,3] b U<|Wd (G.dropAll (Wu U3 ?_));exact⟨U,by rw[c];exact⟨_,_,U,s.mono mup,t.mono mup⟩⟩
 have X:a % 8≠3:=by
  intro e;rw[e]at i;exact absurd i dc_
 refine U0 2 [4,11,43] U<|G.cd (λj=>?_) λj=>?_
 .have c:a % 8=4:=by
   have:=dZ j;omega
  refine V3 λR b=>Wm ([i_ 0,i_ 0]) U8<|Wm ([i_ 2,i_ 0]) U8<|Wm ([i_ 4,i_ 0]) U8<|Wm ([i_ 0,i_ 2]) U8<|Wm ([i_ 2,i_ 2]) U8<|Wm ([i_ 4,i_ 2]) U8<|Wq [[i_ 0,i_ 0],[i_ 2,i_ 0],[i_ 4,i_ 0],[i_ 0,i_ 2],[i_ 2,i_ 2],[i_ 4,i_ 2]] U12 λY _ _ v=>Wm ([i_ 0,i_ 1,i_ 4]) U8<|Wm ([i_ 0,i_ 4,i_ 3]) U8<|Wm ([i_ 1,i_ 2,i_ 5]) U8<|Wm ([i_ 1,i_ 5,i_ 4]) U8<|Wq [[i_ 0,i_ 1,i_ 4],[i_ 0,i_ 4,i_ 3],[i_ 1,i_ 2,i_ 5],[i_ 1,i_ 5,i_ 4]] U12 λZ _ _ w=>C6 2 [2,3] b U<|Wd (G.dropAll (Wu U3 ?_));exact⟨U,by rw[c];exact⟨_,_,U,v.mono mup,w.mono mup⟩⟩
 have aa:a % 8≠4:=by
  intro e;rw[e]at j;exact absurd j dc_
 refine U0 2 [4,11,57] U<|G.cd (λk=>?_) λk=>?_
 .have c:a % 8=5:=by
   have:=dZ k;omega
  refine V3 λR b=>Wm ([i_ 1,i_ 4]) U8<|Wm ([i_ 5,i_ 3]) U8<|Wm ([i_ 4,i_ 0]) U8<|Wm ([i_ 0,i_ 0]) U8<|Wq [[i_ 1,i_ 4],[i_ 5,i_ 3],[i_ 4,i_ 0],[i_ 0,i_ 0]] U12 λab _ _ x=>Wm ([i_ 3,i_ 2,i_ 1]) U8<|Wm ([i_ 3,i_ 1,i_ 0]) U8<|Wq [[i_ 3,i_ 2,i_ 1],[i_ 3,i_ 1,i_ 0]] U12 λac _ _ y=>C6 2 [2,3] b U<|Wd (G.dropAll (Wu U3 ?_));exact⟨U,by rw[c];exact⟨_,_,U,x.mono mup,y.mono mup⟩⟩
 have ad:a % 8≠5:=by
  intro e;rw[e]at k;exact absurd k dc_
 refine U0 2 [4,67] U<|G.cd (λl=>?_) λl=>?_
 .have c:a % 8=6:=by
   have:=dZ l;omega
  refine U1 1 U λR b=>Wm ([i_ 2,i_ 0]) U8<|Wq [[i_ 2,i_ 0]] U12 λae _ _ z=>XZ U U U U U U U U U U d.m_ z.m_ (.inr dc_) (by simp only[SC,SZ,maxLen];omega) dc_ fl_ λaf _ _ A=>Wm ([i_ 0,i_ 4,i_ 3]) U8<|Wm ([i_ 4,i_ 2,i_ 3]) U8<|Wm ([i_ 4,i_ 1,i_ 2]) U8<|Wq [[i_ 0,i_ 4,i_ 3],[i_ 4,i_ 2,i_ 3],[i_ 4,i_ 1,i_ 2]] U12 λag _ _ B=>C6 2 [2,3] b U<|Wd (G.dropAll (Wu U3 ?_));exact⟨U,by rw[c];exact⟨_,_,U,A.mono mup,B.mono mup⟩⟩
 have ah:a % 8≠6:=by
  intro e;rw[e]at l;exact absurd l dc_
 refine V3 λR b=>Wm ([i_ 0,i_ 0]) U8<|Wm ([i_ 6,i_ 0]) U8<|Wm ([i_ 0,i_ 6]) U8<|Wm ([i_ 2,i_ 2]) U8<|Wq [[i_ 0,i_ 0],[i_ 6,i_ 0],[i_ 0,i_ 6],[i_ 2,i_ 2]] U12 λai _ _ E=>Wm ([i_ 0,i_ 1,i_ 3]) U8<|Wm ([i_ 1,i_ 2,i_ 3]) U8<|Wm ([i_ 2,i_ 0,i_ 3]) U8<|Wq [[i_ 0,i_ 1,i_ 3],[i_ 1,i_ 2,i_ 3],[i_ 2,i_ 0,i_ 3]] U12 λaj _ _ F=>C6 2 [2,3] b U<|Wd (G.dropAll (Wu U3 ?_));exact⟨U,by rw[show a % 8=7 by omega];exact⟨_,_,U,E.mono mup,F.mono mup⟩⟩
theorem F9 (a:-128<=n)(b:n<128):IntKind.i8.wrap n=n:=by
 simp[IntKind.wrap,IntKind.bits,IntKind.signed];omega
theorem MK:∀m:Nat,∀p∈shP m,0<=p.1/\p.1<=6/\0<=p.2/\p.2<=6
|0=>by decide
|1=>by decide
|2=>by decide
|3=>by decide
|4=>by decide
|5=>by decide
|6=>by decide
|_+7=>by
  show ∀p∈([(0,0),(6,0),(0,6),(2,2)]:List (Int × Int)),0<=p.1/\p.1<=6/\0<=p.2/\p.2<=6;decide
theorem GN:∀m:Nat,(shP m).length<=6
|0=>by decide
|1=>by decide
|2=>by decide
|3=>by decide
|4=>by decide
|5=>by decide
|6=>by decide
|_+7=>by
  show([(0,0),(6,0),(0,6),(2,2)]:List (Int × Int)).length<=6;decide
def cJ (m:Nat)(a b:Int)(h:Bool):List Pt:=(shP m).map λp=>dL a b h p.1 p.2 1
theorem kc (m:Nat)(a b:Int)(h:Bool):(cJ m a b h).length<=6:=by rw[cJ,au];exact GN m
theorem rI {w:Int}(c:w≠0)(a:z.natAbs<1000000000)(b:w.natAbs<1000000000):QB 1 (lF z w):=by
 unfold lF;refine gA om_ ?_ ?_
 .show _<B9 ^ 1;split
  .rw[Vm];exact a
  exact a
 exact b
theorem Db {a b:Int}{h:Bool}{x y:Int}(g:0<n)(i:n<=4)(j:-128<=x/\x<=127)(k:-128<=y/\y<=127):QP 1 (dL a b h x y n):=by
 have c:=zG a;have d:=zG b;have hh:ec h=1∨ec h=2:=by cases h <;> simp[ec]
 have f:∀z:Int, -8<z->z<8->-32<z*n/\z*n<32:=λz h1 h2=>by
  rcases(by omega:n=1∨n=2∨n=3∨n=4) with e|e|e|e <;> subst e <;> omega
 have l:=f _ c.1 c.2;have m:=f _ d.1 d.2;have hd:0<ec h*n/\ec h*n<=8:=by rcases hh with e|e <;> rw[e] <;> omega
 exact⟨rI om_ om_ om_,rI om_ om_ om_⟩
theorem yp (C:Mem)(B:Tabs C)(d:Nat)(a b:Int)(h:Bool)(E:d<256):Pur cx.P 57 [MJ d a b h] C λu D=>MeshIn D u (cJ (d % 8) a b h) (shT (d % 8)):=by
 have F:=MK (d % 8);have ab:=GN (d % 8);refine V7 func57 42 U3 λw0=>V3 λR e=>Wi U6 λH=>Wg U5 λf=>V5 [1,2] e U<|G.freeze 1 U λ_ _ t=>U1 1 U λR e=>V1 (bkT t 1) U8<|Wz (EF _ d E) U7 (λac _ _ I=>?_);obtain⟨pv,tv,rfl,g,n⟩:=I;obtain⟨J,K,rfl,L,ad,_⟩:=id g;obtain⟨At,k,rfl,ae,af,_⟩:=id n;simp only[au]at g n L⊢;refine C6 5 [1,2,3,4] e U<|U1 1 U λR e=>Wm [.slice none 0 0,.slice At (shT (d % 8)).length k] U8<|Wg U5 λl=>Wa (j:=0) U12<|V5 [1,2,3,5] e U<|U0 1 [1,2,3,5,6] U<|G.nilArr 34 2<|G.perm (L':=[.obj l (.cells ⟨[.slice none 0 0,.slice At (shT (d % 8)).length k]⟩ 39 (0,0)),.arr (.slice none 0 0) 34 2 0 [],.obj f (.cells ⟨[.slice none 0 0,.slice none 0 0]⟩ 39 (0,0))]) (List.Perm.swap _ _ _)<|G.loop (λfr C' o M=>∃(i:Nat)(w:Value),(i<=(shP (d % 8)).length)/\fr=[(1,[],p_ H),(2,[],p_ f),(3,[],.slice J (shP (d % 8)).length K),(5,[],p_ l),(6,[],i_ i)]/\o=[.obj l (.cells ⟨[w,.slice At (shT (d % 8)).length k]⟩ 39 (0,0)),.arr w 34 2 ((cJ (d % 8) a b h).take i).length (((cJ (d % 8) a b h).take i).map gK).flatten,.obj f (.cells ⟨[.slice none 0 0,.slice none 0 0]⟩ 39 (0,0))]/\M=(shP (d % 8)).length-i) (hn_ [1,2,3,5,6] U) ⟨0,.slice none 0 0,Sm _,U,U,U⟩ (λfr ai aj m _ N=>?_);obtain⟨i,w,hi,rfl,rfl,rfl⟩:=N;refine U0 4 [1,2,3,5,6,18] U<|G.cd (λq=>?_) λq=>?_
 .have s:i<(shP (d % 8)).length:=by
   have:=RD q;omega
  obtain⟨p,hp⟩:∃p,(shP (d % 8))[i]?=some p:=⟨(shP (d % 8))[i],ah s⟩;obtain⟨ak,al,am,an⟩:=F p (aJ hp);have O:(cJ (d % 8) a b h)[i]?=some (dL a b h p.1 p.2 1):=by unfold cJ;rw[Sh,hp];rfl
  have Q:(cJ (d % 8) a b h).take (i+1)=(cJ (d % 8) a b h).take i++[dL a b h p.1 p.2 1]:=by rw[SH,O];rfl
  have ao:((cJ (d % 8) a b h).take i).length<=6:=by rw[Sy];have:=kc (d % 8) a b h;omega
  refine Wn [0,1,2,3,4,5,6,7,8,9,10,11,12,13,14,15,16,17,18,19,20] [(16,1),(8,0),(14,0)] U kr_ λR hB e=>V2 U6<|V9 ag U9<|V1 (bkT t 4) U8<|V4 2 U<|Wf g.m_ U10 om_ (cI hp) fl_ λap S=>XC U9 (λ_=>S) (λ_=>⟨by omega,om_⟩) fl_ U (λaq T=>?_);have V:=T trivial;refine V1 V U8<|W6 (c:=p.1) U8 (F9 om_ om_) U2<|V4 2 U<|Wf g.m_ U10 om_ (cI hp) fl_ λar W=>XC U9 (λ_=>W) (λ_=>⟨by omega,om_⟩) fl_ U (λav X=>?_);have Y:=X trivial;refine V1 Y U8<|W6 (c:=p.2) U8 (F9 om_ om_) U2<|Wm [.int .i8 p.1,.int .i8 p.2] U8<|Wo (λ_=>(Dc _ B.m_ d a b h p.1 p.2 1 dc_ dc_ ⟨by omega,by omega⟩ ⟨by omega,by omega⟩)) U9<|Wq [gK (dL a b h p.1 p.2 1)] U12 λaw _ _ Z=>WB (j:=1) U11 Z.m_ U ax (by simp only[Sk];omega) fl_ λv x z=>V2 U6<|Wa (j:=1) U12<|V5 [1,2,3,5,6] e U<|U1 1 U λR e=>V8 _ U U6<|C6 1 [1,2,3,5,6] e U<|Wk (L':=[.obj l (.cells ⟨[.slice v x z,.slice At (shT (d % 8)).length k]⟩ 39 (0,0)),.arr (.slice v x z) 34 2 ((cJ (d % 8) a b h).take (i+1)).length (((cJ (d % 8) a b h).take (i+1)).map gK).flatten,.obj f (.cells ⟨[.slice none 0 0,.slice none 0 0]⟩ 39 (0,0))]) (by rw[Q,SV,SI,So];rfl)<|We (m':=(shP (d % 8)).length-(i+1)) om_ mup (hn_ [1,2,3,5,6] U) ⟨i+1,_,om_,U,U,U⟩
 have s:i=(shP (d % 8)).length:=by
  have:=Si q;omega
 have aa:(cJ (d % 8) a b h).take i=cJ (d % 8) a b h:=SL (by rw[s,cJ,au];exact Sg _);rw[aa];refine G.freezeArr 1 ((cJ (d % 8) a b h).map gK) U2 (by intro r hr;obtain⟨y,_,rfl⟩:=Sn.1 hr;rfl) (by rw[au]) (λCg hg A=>?_);obtain⟨Aw,cw,rfl,_⟩:=id A;refine V3 λR e=>V9 ag U9<|Wa (j:=1) U12<|V5 [2] e U<|Wd (WO ag U4 ?_);exact⟨U,_,_,U,A,n.mono mup⟩
structure Hts where
 h0:Int
 h1:Int
 h2:Int
 h3:Int
 h4:Int
 h5:Int
 half:Bool
def JQ (H:Hts):List Int:=[H.h0,H.h1,H.h2,H.h3,H.h4,H.h5]
def Q2 (H:Hts):List Value:=[.int .i8 H.h0,.int .i8 H.h1,.int .i8 H.h2,.int .i8 H.h3,.int .i8 H.h4,.int .i8 H.h5,.bool H.half]
def RC (H:Hts):Prop:=∀z∈JQ H, -128<=z/\z<=127
def fsK (n:Nat)(H:Hts):List Rat:=(List.range n).map λi=>lF (((JQ H).getD (i % 6) 0).tmod 20) (ec H.half)
theorem Gp (a:Int):-20<a.tmod 20/\a.tmod 20<20:=by
 have h:(a.tmod 20).natAbs=a.natAbs % 20:=UZ a 20;omega
theorem vz (h:Bool):ec h=1∨ec h=2:=by cases h <;> simp[ec]
theorem vD (n:Nat)(H:Hts):(fsK n H).length=n:=by simp[fsK]
theorem IH (n:Nat)(H:Hts):∀q∈fsK n H,QB 1 q:=by
 intro q a;unfold fsK at a;obtain⟨i,_,rfl⟩:=Sn.1 a;have h1:=Gp ((JQ H).getD (i % 6) 0);have h2:=vz H.half;exact rI om_ om_ om_
theorem O6 (H:Hts)(j:Nat)(a:j<6):((Q2 H).drop j).take 1=[.int .i8 ((JQ H).getD j 0)]:=by
 rcases(by omega:j=0∨j=1∨j=2∨j=3∨j=4∨j=5) with rfl|rfl|rfl|rfl|rfl|rfl <;> rfl
theorem jy (C:Mem)(B:Tabs C)(o E:Value)(n:Nat)(F:Option Addr)(I:Nat)(H:Hts)(J:o=.slice F n I)(T:n<=400)(K:RC H):Pur cx.P 30 [.agg ⟨[o,E]⟩,.agg ⟨Q2 H⟩] C λu D=>Sl D 1 u ((fsK n H).map eH):=by
 subst J;obtain⟨h0,h1,h2,h3,h4,h5,a⟩:=H;have V:=mx_
 refine V7 func30 31 U3 λw0=>V3 λR b=>Wi U6 λp=>Wi U6 λq=>C6 1 [2,3] b U<|G.freeze 1 U λ_ _ L=>G.freeze 0 U λ_ _ s=>V3 λR b=>W0 [] U12 fl_ λt=>C6 1 [2,3,5] b U<|U0 1 [2,3,5,6] U<|U1 1 U λR b=>V1 (bkT s 1) U8<|V5 [2,3,5,6,10] b U<|G.cut (λfr M d e=>(True)/\fr=[(2,[],p_ p),(3,[],p_ q),(5,[],s_ t 0 0),(6,[],i_ (ec a))]/\d=[.arr (s_ t 0 0) 32 1 0 []]) ?_ (λfr _ W e _ f=>?_)
 .refine G.cd (λg=>?_) λg=>?_
  .have h1:a=true:=g;subst h1;refine U0 1 [2,3,5,6] U<|Wj 0 l_ (hn_ [2,3,5,6] U) ⟨trivial,U,U⟩
  have h1:a=false:=g;subst h1;refine Wj 0 l_ (hn_ [2,3,5,6] U) ⟨trivial,U,U⟩
 obtain⟨_,rfl,rfl⟩:=f;refine U0 1 [2,3,5,6,7] U<|G.loop (λfr M d e=>∃(i:Nat)(w:Value),(i<=n)/\fr=[(2,[],p_ p),(3,[],p_ q),(5,[],w),(6,[],i_ (ec a)),(7,[],i_ i)]/\d=[.arr w 32 1 ((fsK n ⟨h0,h1,h2,h3,h4,h5,a⟩).take i).length (((fsK n ⟨h0,h1,h2,h3,h4,h5,a⟩).take i).map eH).flatten]/\e=n-i) (hn_ [2,3,5,6,7] U) ⟨0,_,Sm _,U,U,U⟩ (λfr X Y m _ f=>?_);obtain⟨i,w,Z,rfl,rfl,rfl⟩:=f;refine U1 2 U λR b=>V1 (bkT L 1) U8<|C6 2 [2,3,5,6,7,15] b U<|G.cd (λh=>?_) λh=>?_
 .have k:i<n:=by
   have:=RD h;omega
  have v:i % 6<6:=S5 _ dc_;obtain⟨z,l⟩:∃z,(JQ ⟨h0,h1,h2,h3,h4,h5,a⟩).getD (i % 6) 0=z:=⟨_,rfl⟩;have x:=O6 ⟨h0,h1,h2,h3,h4,h5,a⟩ (i % 6) v;rw[l]at x;have N:z∈JQ ⟨h0,h1,h2,h3,h4,h5,a⟩:=by
   rw[<- l,ak,ah (show i % 6<(JQ ⟨h0,h1,h2,h3,h4,h5,a⟩).length from v),TD];exact Td _
  have aa:=K z N;have ab:=Gp z;have ac:=vz a;have O:(fsK n ⟨h0,h1,h2,h3,h4,h5,a⟩).take (i+1)=(fsK n ⟨h0,h1,h2,h3,h4,h5,a⟩).take i++[lF (z.tmod 20) (ec a)]:=by
   rw[SH,show(fsK n ⟨h0,h1,h2,h3,h4,h5,a⟩)[i]?=some (lF (z.tmod 20) (ec a)) by unfold fsK;rw[Sh,SU k,<- l];rfl];rfl
  have ad:((fsK n ⟨h0,h1,h2,h3,h4,h5,a⟩).take i).length<=400:=by rw[Sy,vD];omega
  refine U1 2 U λR b=>WT (i) (6) U6 om_ U2<|V2 U6<|Wp ((i % 6)) U9 (λ_=>⟨by omega,by omega,(by show i % 6=0+(i % 6)*1;omega)⟩) U2<|Xd (PtrTo.blockT (Mem.get s mup) (i % 6) 1) U6 (show cS _ (((Q2 ⟨h0,h1,h2,h3,h4,h5,a⟩).drop (i % 6)).take 1)=some (.int .i8 z) from by rw[x];rfl) U<|WG (c:=z) U8 (wrap_i64 om_ om_) fl_<|WY (z.tmod 20) U6 dc_ U3<|V2 U6<|Wc (QT _ B.m_ (z.tmod 20) (ec a) om_ om_ om_) U7 fl_<|Wq [eH (lF (z.tmod 20) (ec a))] U12 λae _ _ Q=>D.append (j:=0) U11 Q U ax (by simp only[Sk];omega) fl_ λA=>C6 1 [2,3,5,6,7] b U<|U1 1 U λR b=>V8 _ U U6<|C6 1 [2,3,5,6,7] b U<|Wk (L':=[.arr A 32 1 ((fsK n ⟨h0,h1,h2,h3,h4,h5,a⟩).take (i+1)).length (((fsK n ⟨h0,h1,h2,h3,h4,h5,a⟩).take (i+1)).map eH).flatten]) (by rw[O,SV,SI,So];rfl)<|We (m':=n-(i+1)) om_ mup (hn_ [2,3,5,6,7] U) ⟨i+1,A,om_,U,U,U⟩
 have k:i=n:=by
  have:=Si h;omega
 rw[show(fsK n ⟨h0,h1,h2,h3,h4,h5,a⟩).take i=fsK n ⟨h0,h1,h2,h3,h4,h5,a⟩ from SL (by rw[k,vD];exact Sg _)];exact U0 2 [4] U<|G.freezeArr 0 ((fsK n ⟨h0,h1,h2,h3,h4,h5,a⟩).map eH) U2 (by intro r hr;obtain⟨y,_,rfl⟩:=Sn.1 hr;rfl) (by rw[au]) λCg hg S=>V6 U2<|⟨U,S⟩
structure Sgt where
 kind:Nat
 px:Int
 py:Int
 u0:Nat
 u1:Nat
 depth:Nat
 n0:Int
 n1:Int
 n2:Int
def PW (s:Sgt):List Value:=[.int .u8 s.kind,.int .i8 s.px,.int .i8 s.py,.int .u8 s.u0,.int .u8 s.u1,.int .u8 s.depth,.int .i8 s.n0,.int .i8 s.n1,.int .i8 s.n2]
structure SgtR (s:Sgt):Prop where
 kind:s.kind<256
 px:-128<=s.px/\s.px<=127
 py:-128<=s.py/\s.py<=127
 u0:s.u0<256
 u1:s.u1<256
 depth:s.depth<256
 n0:-128<=s.n0/\s.n0<=127
 n1:-128<=s.n1/\s.n1<=127
 n2:-128<=s.n2/\s.n2<=127
structure Sht where
 kd:Nat
 a:Int
 b:Int
 h:Bool
def OE (S:Sht)(H:Hts)(sv:Value):List Value:=[.int .u8 S.kd,.int .i8 S.a,.int .i8 S.b,.bool S.h,.int .i8 H.h0,.int .i8 H.h1,.int .i8 H.h2,.int .i8 H.h3,.int .i8 H.h4,.int .i8 H.h5,.bool H.half,sv]
def sn (i:Nat):Str:=[UInt8.ofNat (65+i)]
def mf (S:Sht)(s:Sgt):Pt :=
 if lj (cJ (S.kd % 8) S.a S.b S.h) (shT (S.kd % 8)) (dL S.a S.b S.h s.px s.py 2)≠[] then dL S.a S.b S.h s.px s.py 2
 else (cJ (S.kd % 8) S.a S.b S.h).getD (s.depth % (cJ (S.kd % 8) S.a S.b S.h).length) (0,0)
def ft (z:Int):Int:=if z.tmod 5=0 then 1 else z.tmod 5
def loU (s:Sgt):Nat:=if s.u0 % 3=s.u1 % 3 then 0 else s.u0 % 3
def upU (s:Sgt):Nat:=if s.u0 % 3=s.u1 % 3 then 1+s.u1 % 3 % 2 else s.u1 % 3
def eT (S:Sht)(s:Sgt)(i:Nat):Obs :=
 if s.kind % 3=0 then ⟨1,[111,UInt8.ofNat (49+i)],qtx (mf S s).1,qtx (mf S s).2,[],sn (s.u1 % 3),[],[],[],[]⟩
 else if s.kind % 3=1 then ⟨2,[111,UInt8.ofNat (49+i)],qtx (mf S s).1,qtx (mf S s).2,qtx (lF (s.depth % 12:Nat) 2),sn (max (loU s) (upU s)),sn (min (loU s) (upU s)),[],[],[]⟩
 else ⟨3,[111,UInt8.ofNat (49+i)],qtx (mf S s).1,qtx (mf S s).2,[],sn (max (loU s) (upU s)),sn (min (loU s) (upU s)),qtx ((s.n0.tmod 5:Int):Rat),qtx ((s.n1.tmod 5:Int):Rat),qtx ((ft s.n2:Int):Rat)⟩
theorem wrap_u8 (a:0<=n)(b:n<256):IntKind.u8.wrap n=n:=by
 simp only[IntKind.wrap,IntKind.bits,IntKind.signed];simp;omega
theorem nM (i:Nat)(a:i<6):([[.int .u8 111],[.int .u8 (49+(i:Int))]]:List (List Value))=(([111,UInt8.ofNat (49+i)]:Str).map λb=>[.int .u8 b.toNat]):=by
 rcases(by omega:i=0∨i=1∨i=2∨i=3∨i=4∨i=5) with rfl|rfl|rfl|rfl|rfl|rfl <;> rfl
theorem Dx (j:Nat)(a:j<3):(([ae [65],ae [66],ae [67]]:List Value).drop j).take 1=[ae (sn j)]:=by
 rcases(by omega:j=0∨j=1∨j=2) with rfl|rfl|rfl <;> rfl
theorem GM:∀m:Nat,0<(shP m).length
|0=>by decide
|1=>by decide
|2=>by decide
|3=>by decide
|4=>by decide
|5=>by decide
|6=>by decide
|_+7=>by
  show 0<([(0,0),(6,0),(0,6),(2,2)]:List (Int × Int)).length;decide
theorem oH (a:Int):-5<a.tmod 5/\a.tmod 5<5:=by
 have h:(a.tmod 5).natAbs=a.natAbs % 5:=UZ a 5;omega
theorem QY (s:Sgt):loU s<=2:=by unfold loU;split <;> omega
theorem Qg (s:Sgt):upU s<=2:=by unfold upU;split <;> omega
theorem Hh {p:Pt}(h:QP 1 p):QP 23 p/\PtR p:=⟨⟨h.1.le dc_,h.2.le dc_⟩,bx (h.1.le dc_),bx (h.2.le dc_)⟩
abbrev zag:=λg=>Ent.obj g (.cells ⟨[i_ 0,ae [],ae [],ae [],ae [],ae [],ae [],ae [],ae [],ae []]⟩ 126 (0,0))
theorem sw (C:Mem)(r:Tabs C)(S:Sht)(s:Sgt)(H:Hts)(sv:Value)(i:Nat)(V:i<6)(hk:S.kd<256)(q:SgtR s)(hG:Good (cJ (S.kd % 8) S.a S.b S.h) (shT (S.kd % 8))) :
  Pur cx.P 58 [.agg ⟨OE S H sv⟩,.agg ⟨PW s⟩,i_ i] C λu _D=>u=.agg ⟨gD (eT S s i)⟩:=by
 have aD:=q.kind;have aE:=q.u0;have aG:=q.u1;have aH:=q.depth;have aI:=oH s.n0;have aJ:=oH s.n1;have aL:=oH s.n2;have am:=QY s;have an:=Qg s;have ao:QP 1 (dL S.a S.b S.h s.px s.py 2):=Db dc_ dc_ q.px q.py;obtain⟨ap,aq⟩:=Hh ao;obtain⟨lo,v⟩:∃n,loU s=n:=⟨_,rfl⟩;obtain⟨up,w⟩:∃n,upU s=n:=⟨_,rfl⟩;obtain⟨p,x⟩:∃p,mf S s=p:=⟨_,rfl⟩;obtain⟨t,E⟩:∃z,ft s.n2=z:=⟨_,rfl⟩;have aM:-5<t/\t<5:=by rw[<- E];unfold ft;split <;> omega
 rw[v]at am;rw[w]at an;have ai:0<(cJ (S.kd % 8) S.a S.b S.h).length:=by rw[cJ,au];exact GM _
 have aN:=kc (S.kd % 8) S.a S.b S.h;refine V7 func58 129 U3 λw0=>V3 λR d=>Wi U6 λb3=>Wi U6 λy=>Wg U5 λg=>V5 [2,3,4,6] d U<|G.freeze 2 U λ_ _ aj=>G.freeze 1 U λ_ _ k=>U1 1 U λR d=>V1 (bkT aj 4) U8<|Wz (yp _ r.m_ S.kd S.a S.b S.h hk) U7 (λaO _ _ W=>?_);obtain⟨v1,v2,rfl,X,ar⟩:=id W.ex;obtain⟨A1,c1,rfl,av,aP,_⟩:=id X;obtain⟨A2,c2,rfl,_,_,_⟩:=id ar;simp only[au]at X av W⊢;refine Wg U5 λb7=>Wa (j:=0) U12<|V5 [2,3,4,6,7] d U<|G.freeze 0 U λ_ _ Y=>G.cut (λfr F l m=>∃(f:Nat),(True)/\fr=[(4,[],p_ y),(6,[],p_ g),(7,[],p_ b7),(8,[],p_ f)]/\l=[.obj f (.cells ⟨[i_ (1+((s.kind % 3:Nat):Int)),ae [111,UInt8.ofNat (49+i)],ae (qtx (dL S.a S.b S.h s.px s.py 2).1),ae (qtx (dL S.a S.b S.h s.px s.py 2).2),ae [],ae [],ae [],ae [],ae [],ae []]⟩ 126 (0,0)),zag g]) ?_ (λfr aQ aR m aS o=>?_)
 .refine WW (.cut [0,1,2,3,4,5,6,7,10,11,12,13,14] (.alt 8 (.cut [] (.alt 9 (.fin [15,16,17]) (.alt 16 (.fin [9,15,17]) .stop))) (.alt 16 (.fin [8,9,15,17]) .stop))) [(14,1),(3,0),(6,0)] U U kr_ λR I d J=>V2 U6<|V1 (bkT k 1) U8<|WT (s.kind) (3) U6 om_ U2<|W6 (c:=((s.kind % 3:Nat):Int)) U8 (wrap_i64 om_ om_) U2<|V8 _ U U6<|V2 U6<|W6 (c:=(i:Int)) U8 (wrap_u8 om_ om_) U2<|D.int ((49+(i:Int))) U4 (wrap_u8 om_ om_) U2<|V2 U6<|V1 (bkT aj 4) U8<|V2 U6<|V1 (bkT k 2) U8<|Wo (λ_=>(Dc _ r.m_ S.kd S.a S.b S.h s.px s.py 2 dc_ dc_ q.px q.py)) U9<|WK J U ⟨?_, ?_,trivial⟩
  .refine Wq [[.int .u8 111],[.int .u8 (49+(i:Int))]] U12 λaw ax _ K=>WK J U ⟨?_, ?_,trivial⟩
   .exact Xp (show Sl _ 1 _ (([111,UInt8.ofNat (49+i)]:Str).map λb=>[.int .u8 b.toNat]) from by rw[<- nM i V];exact K.mono mup) U11 fl_<|Wm [i_ (1+((s.kind % 3:Nat):Int)),ae [111,UInt8.ofNat (49+i)],ae (qtx (dL S.a S.b S.h s.px s.py 2).1),ae (qtx (dL S.a S.b S.h s.px s.py 2).2),ae [],ae [],ae [],ae [],ae [],ae []] U8<|Wg U5 λf=>Wa (j:=0) U12<|V5 [4,6,7,8] d U<|Wj 0 mup (hn_ [4,6,7,8] U) ⟨f,trivial,U,U⟩
   exact Wg U5 λf=>Xp (show Sl _ 1 _ (([111,UInt8.ofNat (49+i)]:Str).map λb=>[.int .u8 b.toNat]) from by rw[<- nM i V];exact K.mono mup) U11 fl_<|Wm [i_ (1+((s.kind % 3:Nat):Int)),ae [111,UInt8.ofNat (49+i)],ae (qtx (dL S.a S.b S.h s.px s.py 2).1),ae (qtx (dL S.a S.b S.h s.px s.py 2).2),ae [],ae [],ae [],ae [],ae [],ae []] U8<|Wa (j:=0) U12<|V5 [4,6,7,8] d U<|Wj 0 mup (hn_ [4,6,7,8] U) ⟨f,trivial,U,U⟩
  exact Wg U5 λf=>Wq [[.int .u8 111],[.int .u8 (49+(i:Int))]] U12 λaw ax _ K=>Xp (show Sl _ 1 _ (([111,UInt8.ofNat (49+i)]:Str).map λb=>[.int .u8 b.toNat]) from by rw[<- nM i V];exact K.mono mup) U11 fl_<|Wm [i_ (1+((s.kind % 3:Nat):Int)),ae [111,UInt8.ofNat (49+i)],ae (qtx (dL S.a S.b S.h s.px s.py 2).1),ae (qtx (dL S.a S.b S.h s.px s.py 2).2),ae [],ae [],ae [],ae [],ae [],ae []] U8<|Wa (j:=0) U12<|V5 [4,6,7,8] d U<|Wj 0 mup (hn_ [4,6,7,8] U) ⟨f,trivial,U,U⟩
 obtain⟨f,_,rfl,rfl⟩:=o;refine V3 λR d=>V1 (bkT Y 2) U8<|V2 U6<|V9 ag U9<|Wb (rO _ r.m_ _ _ _ (dL S.a S.b S.h s.px s.py 2) W.m_ hG ap aq) U7<|C6 5 [4,6,7,8,9] d U<|U0 2 [4,6,7,8,42] U<|G.cut (λfr F l m=>(True)/\fr=[(4,[],p_ y),(6,[],p_ g),(8,[],p_ f)]/\l=[.obj f (.cells ⟨[i_ (1+((s.kind % 3:Nat):Int)),ae [111,UInt8.ofNat (49+i)],ae (qtx p.1),ae (qtx p.2),ae [],ae [],ae [],ae [],ae [],ae []]⟩ 126 (0,0)),zag g]) ?_ (λfr _ aT m _ o=>?_)
 .refine G.cd (λZ=>?_) λZ=>?_
  .have ay:lj (cJ (S.kd % 8) S.a S.b S.h) (shT (S.kd % 8)) (dL S.a S.b S.h s.px s.py 2)=[]:=by simpa using Z
   have al:s.depth % (cJ (S.kd % 8) S.a S.b S.h).length<(cJ (S.kd % 8) S.a S.b S.h).length:=S5 _ ai;have aa:p=(cJ (S.kd % 8) S.a S.b S.h)[s.depth % (cJ (S.kd % 8) S.a S.b S.h).length]:=by
    rw[<- x,mf,aF (by rw[ay];simp),ak,ah al,TD]
   have hp:(cJ (S.kd % 8) S.a S.b S.h)[s.depth % (cJ (S.kd % 8) S.a S.b S.h).length]?=some p:=by rw[aa];exact ah al
   refine Wn [0,1,2,3,4,5,6,7,8,9,10,11,12] [(4,0)] U kr_ λR I d=>V2 U6<|V1 (bkT Y 1) U8<|V2 U6<|V1 (bkT k 1) U8<|W6 (c:=(s.depth:Int)) U8 (wrap_i64 om_ om_) U2<|V2 U6<|V1 (bkT Y 1) U8<|V2 U6<|WT (s.depth) ((cJ (S.kd % 8) S.a S.b S.h).length) U6 ai U2<|Wf X.m_ U10 om_ (cI hp) fl_ λaU az=>V1 az U8<|V2 U6<|Wa (j:=0) U12<|V5 [4,6,8] d U<|Wj 0 l_ (hn_ [4,6,8] U) ⟨trivial,U,U⟩
  have aA:lj (cJ (S.kd % 8) S.a S.b S.h) (shT (S.kd % 8)) (dL S.a S.b S.h s.px s.py 2)≠[]:=by simpa using Z
  have aa:p=dL S.a S.b S.h s.px s.py 2:=by rw[<- x,mf,aK aA]
  subst aa;refine Wj 0 l_ (hn_ [4,6,8] U) ⟨trivial,U,U⟩
 obtain⟨_,rfl,rfl⟩:=o;refine V3 λR d=>Wm ([ae [65],ae [66],ae [67]]) U8<|Wg U5 λaB=>Wa (j:=0) U12<|V5 [4,6,8,11] d U<|G.freeze 0 U λ_ _ L=>Wn [0,1,2,3,4,5,6,7,8,9,10,11] [(4,0),(9,0)] U kr_ λR I d=>V2 U6<|Wp (3) U9 k_ U2<|V1 (bkT k 1) U8<|WT (s.u0) (3) U6 om_ U2<|W6 (c:=((s.u0 % 3:Nat):Int)) U8 (wrap_i64 om_ om_) U2<|V2 U6<|Wp (4) U9 k_ U2<|V1 (bkT k 1) U8<|WT (s.u1) (3) U6 om_ U2<|W6 (c:=((s.u1 % 3:Nat):Int)) U8 (wrap_i64 om_ om_) U2<|C6 2 [4,6,8,11,12,13] d U<|U1 1 U λR d=>V9 ag U9<|C6 1 [4,6,8,11,12,13,68] d U<|G.cd (λM=>?_) λM=>?_
 .have A:s.kind % 3=0:=by
   have:=dZ M;omega
  refine U1 1 U λR d=>Wp ((s.u1 % 3)) U9 (λ_=>⟨by omega,by omega,(by show s.u1 % 3=0+(s.u1 % 3)*1;omega)⟩) U2<|Xd (PtrTo.blockT (Mem.get L mup) (s.u1 % 3) 1) U6 (show cS _ ((([ae [65],ae [66],ae [67]]:List Value).drop (s.u1 % 3)).take 1)=some (ae (sn (s.u1 % 3))) from by rw[Dx _ om_];rfl) U<|V2 U6<|Wa (j:=0) U12<|V5 [6,8] d U<|V3 λR d=>V9 ag U9<|Wa (j:=1) U12<|V5 [6] d U<|Wd (WO ag U4 ?_);exact⟨U,by unfold eT;rw[aK A,x,A];rfl⟩
 have A:¬ s.kind % 3=0:=by
  intro e;rw[e]at M;exact absurd M dc_
 refine U0 3 [4,6,8,11,12,13,76] U<|G.cut (λfr F l m=>(True)/\fr=[(4,[],p_ y),(6,[],p_ g),(8,[],p_ f),(11,[],p_ aB),(12,[],i_ (lo:Nat)),(13,[],i_ (up:Nat))]/\l=[.obj f (.cells ⟨[i_ (1+((s.kind % 3:Nat):Int)),ae [111,UInt8.ofNat (49+i)],ae (qtx p.1),ae (qtx p.2),ae [],ae [],ae [],ae [],ae [],ae []]⟩ 126 (0,0)),zag g]) ?_ (λfr _ aV m _ o=>?_)
 .refine G.cd (λN=>?_) λN=>?_
  .have B:s.u0 % 3=s.u1 % 3:=by
    have:=dZ N;omega
   have ab:lo=0:=by rw[<- v,loU,aK B]
   have ac:up=1+s.u1 % 3 % 2:=by rw[<- w,upU,aK B]
   subst ab;subst ac;refine U1 1 U λR d=>WT ((s.u1 % 3)) (2) U6 om_ U2<|V8 _ U U6<|C6 2 [4,6,8,11,12,13] d U<|Wj 0 l_ (hn_ [4,6,8,11,12,13] U) ⟨trivial,U,U⟩
  have B:¬ s.u0 % 3=s.u1 % 3:=by
   intro e;rw[e,beq_self_eq_true]at N;exact absurd N dc_
  have ab:lo=s.u0 % 3:=by rw[<- v,loU,aF B]
  have ac:up=s.u1 % 3:=by rw[<- w,upU,aF B]
  subst ab;subst ac;refine Wj 0 l_ (hn_ [4,6,8,11,12,13] U) ⟨trivial,U,U⟩
 obtain⟨_,rfl,rfl⟩:=o;refine G.cut (λfr F l m=>(True)/\fr=[(4,[],p_ y),(6,[],p_ g),(8,[],p_ f)]/\l=[.obj f (.cells ⟨[i_ (1+((s.kind % 3:Nat):Int)),ae [111,UInt8.ofNat (49+i)],ae (qtx p.1),ae (qtx p.2),ae [],ae (sn (max lo up)),ae (sn (min lo up)),ae [],ae [],ae []]⟩ 126 (0,0)),zag g]) ?_ (λfr aW aX m aY o=>?_)
 .refine WW (.cut [0,1,2,3,4,5,6,7,8,10] (.alt 9 (.fin [11,12,13]) (.alt 11 (.fin [9,12,13]) .stop))) [] U U kr_ λR I d J=>V4 2 U<|D.max (((max lo up:Nat):Int)) U6 om_ U2<|Wp ((max lo up)) U9 (λ_=>⟨by omega,by omega,(by show max lo up=0+(max lo up)*1;omega)⟩) U2<|Xd (PtrTo.blockT (Mem.get L mup) (max lo up) 1) U6 (show cS _ ((([ae [65],ae [66],ae [67]]:List Value).drop (max lo up)).take 1)=some (ae (sn (max lo up))) from by rw[Dx _ om_];rfl) U<|V4 2 U<|D.min (((min lo up:Nat):Int)) U6 om_ U2<|Wp ((min lo up)) U9 (λ_=>⟨by omega,by omega,(by show min lo up=0+(min lo up)*1;omega)⟩) U2<|V2 U6<|WK J U ⟨?_, ?_,trivial⟩
  .exact Xd (PtrTo.blockT (Mem.get L mup) (min lo up) 1) U6 (show cS _ ((([ae [65],ae [66],ae [67]]:List Value).drop (min lo up)).take 1)=some (ae (sn (min lo up))) from by rw[Dx _ om_];rfl) U<|Wa (j:=0) U12<|V2 U6<|Wa (j:=0) U12<|V5 [4,6,8] d U<|Wj 0 mup (hn_ [4,6,8] U) ⟨trivial,U,U⟩
  exact Wa (j:=0) U12<|Xd (PtrTo.blockT (Mem.get L mup) (min lo up) 1) U6 (show cS _ ((([ae [65],ae [66],ae [67]]:List Value).drop (min lo up)).take 1)=some (ae (sn (min lo up))) from by rw[Dx _ om_];rfl) U<|V2 U6<|Wa (j:=0) U12<|V5 [4,6,8] d U<|Wj 0 mup (hn_ [4,6,8] U) ⟨trivial,U,U⟩
 obtain⟨_,rfl,rfl⟩:=o;refine U1 1 U λR d=>V9 ag U9<|C6 1 [4,6,8,94] d U<|G.cd (λO=>?_) λO=>?_
 .have Q:s.kind % 3=1:=by
   have:=dZ O;omega
  refine U1 1 U λR d=>V1 (bkT k 1) U8<|WT (s.depth) (12) U6 om_ U2<|WG (c:=((s.depth % 12:Nat):Int)) U8 (wrap_i64 om_ om_) fl_<|Wc (G5 _ r.m_ ((s.depth % 12:Nat):Int) 2 om_ om_ om_) U7 fl_<|V4 4 U<|Wa (j:=0) U12<|V5 [6,8] d U<|V3 λR d=>V9 ag U9<|Wa (j:=1) U12<|V5 [6] d U<|Wd (WO ag U4 ?_);exact⟨U,by unfold eT;rw[aF A,aK Q,x,v,w,Q];rfl⟩
 have Q:¬ s.kind % 3=1:=by
  intro e;rw[e]at O;exact absurd O dc_
 have aC:s.kind % 3=2:=by omega
 refine U1 1 U λR d=>Wp (8) U9 k_ U2<|V1 (bkT k 1) U8<|WY (s.n2.tmod 5) U6 dc_ U3<|WG (c:=(s.n2.tmod 5)) U8 (wrap_i64 om_ om_) fl_<|C6 1 [4,6,8,14] d U<|U0 2 [4,6,8,14,111] U<|G.cut (λfr F l m=>(True)/\fr=[(4,[],p_ y),(6,[],p_ g),(8,[],p_ f),(14,[],i_ t)]/\l=[.obj f (.cells ⟨[i_ (1+((s.kind % 3:Nat):Int)),ae [111,UInt8.ofNat (49+i)],ae (qtx p.1),ae (qtx p.2),ae [],ae (sn (max lo up)),ae (sn (min lo up)),ae [],ae [],ae []]⟩ 126 (0,0)),zag g]) ?_ (λfr _ aZ m _ o=>?_)
 .refine G.cd (λT=>?_) λT=>?_
  .have ad:s.n2.tmod 5=0:=dZ T;have af:t=1:=by rw[<- E,ft,aK ad]
   subst af;refine U0 1 [4,6,8,14] U<|Wj 0 l_ (hn_ [4,6,8,14] U) ⟨trivial,U,U⟩
  have ad:¬ s.n2.tmod 5=0:=by
   intro e;rw[e]at T;exact absurd T dc_
  have af:t=s.n2.tmod 5:=by rw[<- E,ft,aF ad]
  subst af;refine Wj 0 l_ (hn_ [4,6,8,14] U) ⟨trivial,U,U⟩
 obtain⟨_,rfl,rfl⟩:=o;refine Wn [0,1,2,3,4,5,6,7,8,9,10,11,12,13,14,15,16] [(5,1),(11,1),(13,1),(4,0),(10,0)] U kr_ λR I d=>V2 U6<|Wp (6) U9 k_ U2<|V1 (bkT k 1) U8<|WY (s.n0.tmod 5) U6 dc_ U3<|W6 (c:=(s.n0.tmod 5)) U8 (wrap_i64 om_ om_) U2<|Wo (λ_=>(uw _ r.m_ (s.n0.tmod 5) om_)) U9<|V2 U6<|Wp (7) U9 k_ U2<|V1 (bkT k 1) U8<|WY (s.n1.tmod 5) U6 dc_ U3<|W6 (c:=(s.n1.tmod 5)) U8 (wrap_i64 om_ om_) U2<|Wo (λ_=>(uw _ r.m_ (s.n1.tmod 5) om_)) U9<|V2 U6<|Wo (λ_=>(uw _ r.m_ t om_)) U9<|Wm [ae (qtx ((s.n0.tmod 5:Int):Rat)),ae (qtx ((s.n1.tmod 5:Int):Rat)),ae (qtx ((t:Int):Rat))] U8<|V2 U6<|Wa (j:=0) U12<|V5 [6,8] d U<|V3 λR d=>V9 ag U9<|Wa (j:=1) U12<|V5 [6] d U<|Wd (WO ag U4 ?_);exact⟨U,by unfold eT;rw[aF A,aF Q,x,v,w,E,aC];rfl⟩
def nJ:Sgt:=⟨0,0,0,0,0,0,0,0,0⟩
def colK:List Lay:=[⟨[65],0,none⟩,⟨[66],0,some 5⟩,⟨[67],1,none⟩]
theorem KG:qtx 5=[53]:=by
 show qtx ((5:Int):Rat)=_;rw[nH];decide +kernel
theorem Mb:colK.map pi=[[ae [65],ae [48],ae []],[ae [66],ae [48],ae [53]],[ae [67],ae [49],ae []]]:=by
 simp only[colK,List.map,pi,EZ,qtx_zero,fR,KG]
def sk (S:Sht)(l:List Sgt):List Obs:=(List.range (min l.length 6)).map λi=>eT S (l.getD i nJ) i
def jK (S:Sht)(H:Hts)(l:List Sgt):Bk:=⟨cJ (S.kd % 8) S.a S.b S.h,shT (S.kd % 8),(fsK (cJ (S.kd % 8) S.a S.b S.h).length H).map qtx,colK,sk S l⟩
theorem pe (S:Sht)(l:List Sgt):(sk S l).length=min l.length 6:=by simp[sk]
theorem HI (S:Sht){l:List Sgt}{s:Sgt}(h:l[i]?=some s)(a:i<6):(sk S l)[i]?=some (eT S s i):=by
 have h1:=(aT.1 h).1;rw[sk,Sh,SU om_];show some (eT S (l.getD i nJ) i)=_;rw[ak,h];rfl
theorem HX (C:Mem)(q:Tabs C)(S:Sht)(H:Hts)(W:Value)(l:List Sgt)(X:S.kd<256)(A:RC H)(L:Sl C 9 W (l.map PW))(hs:∀s∈l,SgtR s)(hG:Good (cJ (S.kd % 8) S.a S.b S.h) (shT (S.kd % 8))) :
  Pur cx.P 12 [.agg ⟨OE S H W⟩] C λu D=>BookIn D u (jK S H l):=by
 obtain⟨As,cs,rfl,aj,av,_⟩:=id L;have aw:=mx_
 simp only[au]at L aj⊢;have ay:=kc (S.kd % 8) S.a S.b S.h;refine V7 func12 44 U3 λw0=>V3 λR f=>Wi U6 λY=>Wg U5 λv=>V5 [1,2] f U<|G.freeze 1 U λ_ _ B=>U1 1 U λR f=>V1 (bkT B 4) U8<|Wz (yp _ q.m_ S.kd S.a S.b S.h X) U7 (λv8 _ _ Z=>?_);obtain⟨v1,v2,rfl,M,N⟩:=id Z.ex;obtain⟨k,n,rfl,ak,az,_⟩:=id M;obtain⟨A2,c2,rfl,_,_,_⟩:=id N;simp only[au]at M N ak Z⊢;refine Wg U5 λb3=>Wa (j:=0) U12<|V5 [1,2,3] f U<|G.freeze 0 U λ_ _ aa=>G.cut (λfr O E Q=>∃(c:Option Addr)(d:Nat)(x:Value)(g:Nat),(Sl O 1 (.slice c (fsK (cJ (S.kd % 8) S.a S.b S.h).length H).length d) ((fsK (cJ (S.kd % 8) S.a S.b S.h).length H).map eH)/\Sl O 3 x [[ae [65],ae [48],ae []],[ae [66],ae [48],ae [53]],[ae [67],ae [49],ae []]])/\fr=[(1,[],p_ Y),(2,[],p_ v),(4,[],p_ g)]/\E=[.obj g (.cells ⟨[.slice k (cJ (S.kd % 8) S.a S.b S.h).length n,.slice A2 (shT (S.kd % 8)).length c2,.slice c (fsK (cJ (S.kd % 8) S.a S.b S.h).length H).length d,x,.slice none 0 0]⟩ 45 (0,0)),.obj v (.cells ⟨[.slice none 0 0,.slice none 0 0,.slice none 0 0,.slice none 0 0,.slice none 0 0]⟩ 45 (0,0))]) ?_ (λfr aA aB Q aC T=>?_)
 .refine WW (.cut [0,1,2,3,5,6,7] (.alt 4 (.cut [] (.alt 8 (.fin [9,10,11]) (.alt 10 (.fin [8,9,11]) .stop))) (.alt 8 (.cut [] (.alt 4 (.fin [9,10,11]) (.alt 10 (.fin [4,9,11]) .stop))) (.alt 10 (.cut [] (.alt 4 (.fin [8,9,11]) (.alt 8 (.fin [4,9,11]) .stop))) .stop)))) [] U U kr_ λR hB f F=>V1 (bkT aa 2) U8<|V1 (bkT aa 2) U8<|V2 U6<|V1 (bkT B 7) U8<|Wm ([ae [65],ae [48],ae []]) U8<|Wm ([ae [66],ae [48],ae [53]]) U8<|Wm ([ae [67],ae [49],ae []]) U8<|WK F U ⟨?_, ?_, ?_,trivial⟩
  .refine Ws (jy _ q.m_ _ _ (cJ (S.kd % 8) S.a S.b S.h).length k n H U om_ A) U7 fl_ λI J _ e=>WK F U ⟨?_, ?_,trivial⟩
   .refine WR [[ae [65],ae [48],ae []],[ae [66],ae [48],ae [53]],[ae [67],ae [49],ae []]] U12 fl_ (λo K _ p=>?_);obtain⟨c,d,rfl,_,_,_⟩:=id e;simp only[au]at e⊢;exact Wm [.slice k (cJ (S.kd % 8) S.a S.b S.h).length n,.slice A2 (shT (S.kd % 8)).length c2,.slice c (fsK (cJ (S.kd % 8) S.a S.b S.h).length H).length d,s_ o 3 3,.slice none 0 0] U8<|Wg U5 λg=>Wa (j:=0) U12<|V5 [1,2,4] f U<|Wj 0 mup (hn_ [1,2,4] U) ⟨c,d,_,g,⟨e.mono mup,p.mono mup⟩,U,U⟩
   refine Wg U5 λg=>WR [[ae [65],ae [48],ae []],[ae [66],ae [48],ae [53]],[ae [67],ae [49],ae []]] U12 fl_ (λo K _ p=>?_);obtain⟨c,d,rfl,_,_,_⟩:=id e;simp only[au]at e⊢;exact Wm [.slice k (cJ (S.kd % 8) S.a S.b S.h).length n,.slice A2 (shT (S.kd % 8)).length c2,.slice c (fsK (cJ (S.kd % 8) S.a S.b S.h).length H).length d,s_ o 3 3,.slice none 0 0] U8<|Wa (j:=0) U12<|V5 [1,2,4] f U<|Wj 0 mup (hn_ [1,2,4] U) ⟨c,d,_,g,⟨e.mono mup,p.mono mup⟩,U,U⟩
  .refine WR [[ae [65],ae [48],ae []],[ae [66],ae [48],ae [53]],[ae [67],ae [49],ae []]] U12 fl_ λo K _ p=>WK F U ⟨?_, ?_,trivial⟩
   .refine Ws (jy _ q.m_ _ _ (cJ (S.kd % 8) S.a S.b S.h).length k n H U om_ A) U7 fl_ (λI J _ e=>?_);obtain⟨c,d,rfl,_,_,_⟩:=id e;simp only[au]at e⊢;exact Wm [.slice k (cJ (S.kd % 8) S.a S.b S.h).length n,.slice A2 (shT (S.kd % 8)).length c2,.slice c (fsK (cJ (S.kd % 8) S.a S.b S.h).length H).length d,s_ o 3 3,.slice none 0 0] U8<|Wg U5 λg=>Wa (j:=0) U12<|V5 [1,2,4] f U<|Wj 0 mup (hn_ [1,2,4] U) ⟨c,d,_,g,⟨e.mono mup,p.mono mup⟩,U,U⟩
   refine Wg U5 λg=>Ws (jy _ q.m_ _ _ (cJ (S.kd % 8) S.a S.b S.h).length k n H U om_ A) U7 fl_ (λI J _ e=>?_);obtain⟨c,d,rfl,_,_,_⟩:=id e;simp only[au]at e⊢;exact Wm [.slice k (cJ (S.kd % 8) S.a S.b S.h).length n,.slice A2 (shT (S.kd % 8)).length c2,.slice c (fsK (cJ (S.kd % 8) S.a S.b S.h).length H).length d,s_ o 3 3,.slice none 0 0] U8<|Wa (j:=0) U12<|V5 [1,2,4] f U<|Wj 0 mup (hn_ [1,2,4] U) ⟨c,d,_,g,⟨e.mono mup,p.mono mup⟩,U,U⟩
  refine Wg U5 λg=>WK F U ⟨?_, ?_,trivial⟩
  .refine Ws (jy _ q.m_ _ _ (cJ (S.kd % 8) S.a S.b S.h).length k n H U om_ A) U7 fl_ λI J _ e=>WR [[ae [65],ae [48],ae []],[ae [66],ae [48],ae [53]],[ae [67],ae [49],ae []]] U12 fl_ (λo K _ p=>?_);obtain⟨c,d,rfl,_,_,_⟩:=id e;simp only[au]at e⊢;exact Wm [.slice k (cJ (S.kd % 8) S.a S.b S.h).length n,.slice A2 (shT (S.kd % 8)).length c2,.slice c (fsK (cJ (S.kd % 8) S.a S.b S.h).length H).length d,s_ o 3 3,.slice none 0 0] U8<|Wa (j:=0) U12<|V5 [1,2,4] f U<|Wj 0 mup (hn_ [1,2,4] U) ⟨c,d,_,g,⟨e.mono mup,p.mono mup⟩,U,U⟩
  refine WR [[ae [65],ae [48],ae []],[ae [66],ae [48],ae [53]],[ae [67],ae [49],ae []]] U12 fl_ λo K _ p=>Ws (jy _ q.m_ _ _ (cJ (S.kd % 8) S.a S.b S.h).length k n H U om_ A) U7 fl_ (λI J _ e=>?_);obtain⟨c,d,rfl,_,_,_⟩:=id e;simp only[au]at e⊢;exact Wm [.slice k (cJ (S.kd % 8) S.a S.b S.h).length n,.slice A2 (shT (S.kd % 8)).length c2,.slice c (fsK (cJ (S.kd % 8) S.a S.b S.h).length H).length d,s_ o 3 3,.slice none 0 0] U8<|Wa (j:=0) U12<|V5 [1,2,4] f U<|Wj 0 mup (hn_ [1,2,4] U) ⟨c,d,_,g,⟨e.mono mup,p.mono mup⟩,U,U⟩
 obtain⟨c,d,x,g,⟨am,ab⟩,rfl,rfl⟩:=T;refine U0 1 [1,2,4,5] U<|G.nilArr 126 10<|G.perm (L':=[.obj g (.cells ⟨[.slice k (cJ (S.kd % 8) S.a S.b S.h).length n,.slice A2 (shT (S.kd % 8)).length c2,.slice c (fsK (cJ (S.kd % 8) S.a S.b S.h).length H).length d,x,.slice none 0 0]⟩ 45 (0,0)),.arr (.slice none 0 0) 126 10 0 [],.obj v (.cells ⟨[.slice none 0 0,.slice none 0 0,.slice none 0 0,.slice none 0 0,.slice none 0 0]⟩ 45 (0,0))]) (List.Perm.swap _ _ _)<|G.loop (λfr O E Q=>∃(i:Nat)(w:Value),(i<=l.length/\i<=6)/\fr=[(1,[],p_ Y),(2,[],p_ v),(4,[],p_ g),(5,[],i_ i)]/\E=[.obj g (.cells ⟨[.slice k (cJ (S.kd % 8) S.a S.b S.h).length n,.slice A2 (shT (S.kd % 8)).length c2,.slice c (fsK (cJ (S.kd % 8) S.a S.b S.h).length H).length d,x,w]⟩ 45 (0,0)),.arr w 126 10 ((sk S l).take i).length (((sk S l).take i).map gD).flatten,.obj v (.cells ⟨[.slice none 0 0,.slice none 0 0,.slice none 0 0,.slice none 0 0,.slice none 0 0]⟩ 45 (0,0))]/\Q=6-i) (hn_ [1,2,4,5] U) ⟨0,.slice none 0 0,⟨Sm _,Sm _⟩,U,U,U⟩ (λfr aD aE m _ T=>?_);obtain⟨i,w,⟨hi,aF⟩,rfl,rfl,rfl⟩:=T;refine U1 2 U λR f=>V1 (bkT B 1) U8<|V4 5 U<|Wr U8<|V5 [1,2,4,5,27] f U<|G.cd (λt=>?_) λt=>?_
 .have z:i<l.length/\i<6:=by
   by_cases h1:((i:Nat):Int)<(l.length:Nat)
   .rw[SB h1]at t;have h2:=RD t;omega
   rw[SM h1]at t;exact absurd t al
  obtain⟨s,V⟩:∃s,l[i]?=some s:=⟨l[i]'z.1,ah z.1⟩;have an:(sk S l).take (i+1)=(sk S l).take i++[eT S s i]:=by rw[SH,HI S V z.2];rfl
  have aG:((sk S l).take i).length<=6:=by rw[Sy,pe];omega
  refine Wn [0,1,2,3,4,5,6,7,8,9,10,11,12,13] [] U kr_ λR hB f=>V2 U6<|V9 ag U9<|V1 (bkT B 12) U8<|V2 U6<|V1 (bkT B 1) U8<|V2 U6<|Wf L.m_ U10 om_ (cI V) fl_ λaH ao=>V1 ao U8<|V2 U6<|Wz (sw _ q.m_ S s H _ i z.2 X (hs s (aJ V)) hG) U7 (λaI _ _ ap=>?_);subst ap;refine Wq [gD (eT S s i)] U12 λaK _ _ aq=>WB (j:=1) U11 aq.m_ U ax (by simp only[Sk];omega) fl_ λac ad af=>V2 U6<|Wa (j:=1) U12<|V5 [1,2,4,5] f U<|U1 1 U λR f=>V8 _ U U6<|C6 1 [1,2,4,5] f U<|Wk (L':=[.obj g (.cells ⟨[.slice k (cJ (S.kd % 8) S.a S.b S.h).length n,.slice A2 (shT (S.kd % 8)).length c2,.slice c (fsK (cJ (S.kd % 8) S.a S.b S.h).length H).length d,x,.slice ac ad af]⟩ 45 (0,0)),.arr (.slice ac ad af) 126 10 ((sk S l).take (i+1)).length (((sk S l).take (i+1)).map gD).flatten,.obj v (.cells ⟨[.slice none 0 0,.slice none 0 0,.slice none 0 0,.slice none 0 0,.slice none 0 0]⟩ 45 (0,0))]) (by rw[an,SV,SI,So];rfl)<|We (m':=6-(i+1)) om_ mup (hn_ [1,2,4,5] U) ⟨i+1,_,⟨by omega,by omega⟩,U,U,U⟩
 have z:i=min l.length 6:=by
  by_cases h1:((i:Nat):Int)<(l.length:Nat)
  .rw[SB h1]at t;have h2:=Si t;omega
  omega
 have ar:(sk S l).take i=sk S l:=SL (by rw[z,pe];exact Sg _);rw[ar];refine G.freezeArr 1 ((sk S l).map gD) U2 (by intro r hr;obtain⟨y,_,rfl⟩:=Sn.1 hr;rfl) (by rw[au]) (λCg hg ai=>?_);obtain⟨Aw,cw,rfl,_⟩:=id ai;obtain⟨Ap,cp,rfl,_⟩:=id ab;refine V3 λR f=>V9 ag U9<|Wa (j:=1) U12<|V5 [2] f U<|Wd (WO ag U4 ?_);exact⟨U,_,_,_,_,_,U,M.mono mup,N.mono mup,(by rw[jK,<- nT];exact am.mono mup),(by rw[jK,Mb];exact ab.mono mup),ai⟩
instance:DecidableEq RowQ:=λa b=>decidable_of_iff (a.f=b.f/\a.b=b.b) (by cases a;cases b;simp)
instance (k:Nat) (q:Rat):Decidable (QB k q):=by unfold QB;infer_instance
instance (k:Nat) (p:Pt):Decidable (QP k p):=by unfold QP;infer_instance
instance (n:Nat) (t:Tri):Decidable (oh n t):=by unfold oh;infer_instance
theorem iv (h:txt z=s):qtx ((z:Int):Rat)=s:=by rw[nH,h]
theorem On (q:Rat)(h:qtx q=s)(a:QB 22 q):dt s=q:=by rw[<- h];exact da (bx a)
theorem NG (a:List Pt)(t:Tri)(p:Pt)(j:Nat):wgt a t p j=wgt a t p (j % 3):=by
 unfold wgt;rw[show(j+1) % 3=(j % 3+1) % 3 by omega,show(j+2) % 3=(j % 3+2) % 3 by omega]
theorem J4 (t:Tri)(j:Nat):pR t j=pR t (min j 2):=by
 unfold pR;rcases(by omega:j=0∨j=1∨2<=j) with h|h|h
 .subst h;rfl
 .subst h;rfl
 rw[Nat.min_eq_right h,aF om_,aF om_];rfl
theorem q6:qtx 6=[54]:=by decide +kernel
def KO (m:Nat)(u v:Int)(h:Bool):List Pt:=(shP m).map λp=>(lF (p.1+u*1) (ec h*1),lF (p.2+v*1) (ec h*1))
theorem QJ (m:Nat)(a b:Int)(h:Bool):cJ m a b h=KO m (a.tmod 8) (b.tmod 8) h:=rfl
def ru (pts:List Pt)(tris:List Tri):Bool :=
 pts.all (λp=>decide (QP 1 p)) && (decide pts.Nodup && (tris.all (λt=>decide (oh pts.length t)) && (tris.all (λt=>decide (0<dO (pts.getD t.1 (0,0)) (pts.getD t.2.1 (0,0)) (pts.getD t.2.2 (0,0)))) && (decide (bR tris).Nodup && (oq pts tris && pts.all λp=>decide (lj pts tris p≠[]))))))
theorem all0:∀i<15,∀j<15,∀h:Bool,ru (KO 0 ((i:Nat)-7) ((j:Nat)-7) h) (shT 0)=true:=by decide +kernel
theorem sh1 {n:Str}(a:dh n=true)(b:dh u=true)(c:aS x=true)(d:aS y=true):eg ⟨1,n,x,y,[],u,[],[],[],[]⟩=0:=by
 unfold eg;rw[aF al,aF (by simp[lg,a,b]),aF (by simp[mi,c,d]),aF (by simp[lA])]
theorem sh2 {n d l:Str}(a:dh n=true)(b:dh u=true)(c:dh l=true)(e:aS x=true)(f:aS y=true)(g:aS d=true):eg ⟨2,n,x,y,d,u,l,[],[],[]⟩=0:=by
 unfold eg;rw[aF al,aF (by simp[lg,a,b,c]),aF (by simp[mi,e,f,g]),aF (by simp[lA])]
theorem sh3 {n l a b c:Str}(d:dh n=true)(e:dh u=true)(f:dh l=true)(g:aS x=true)(h:aS y=true)(i:aS a=true)(j:aS b=true)(k:aS c=true):eg ⟨3,n,x,y,[],u,l,a,b,c⟩=0:=by
 unfold eg;rw[aF al,aF (by simp[lg,d,e,f]),aF (by simp[mi,g,h,i,j,k]),aF (by simp[lA])]
theorem AF (j:Nat)(a:j<3):ib (isU (sn j)) colK 0=(j:Int):=by
 rcases(by omega:j=0∨j=1∨j=2) with rfl|rfl|rfl <;> decide +kernel
theorem vo (j:Nat)(a:j<3):dh (sn j)=true:=by
 rcases(by omega:j=0∨j=1∨j=2) with rfl|rfl|rfl <;> decide +kernel
theorem OQ (i:Nat)(a:i<6):dh [111,UInt8.ofNat (49+i)]=true:=by
 rcases(by omega:i=0∨i=1∨i=2∨i=3∨i=4∨i=5) with rfl|rfl|rfl|rfl|rfl|rfl <;> decide +kernel
theorem QV {j:Nat}(c:i<6)(d:j<6)(h:([111,UInt8.ofNat (49+i)]:Str)=[111,UInt8.ofNat (49+j)]):i=j:=by
 have e:∀a<6,∀b<6,([111,UInt8.ofNat (49+a)]:Str)=[111,UInt8.ofNat (49+b)]->a=b:=by decide
 exact e i c j d h
theorem Lg (s:Sgt):min (loU s) (upU s)<max (loU s) (upU s):=by
 unfold loU upU;split <;> omega
theorem eA (z:Int)(h:z.natAbs<100):QB 1 ((z:Int):Rat):=by
 refine⟨?_, ?_⟩
 .show z.natAbs<B9 ^ 1;have:B9 ^ 1=1000000000:=by decide
  omega
 show 1<B9 ^ 1;decide
theorem vn (z:Int):ft z≠0:=by
 unfold ft;split
 .decide
 assumption
theorem ph (z:Int):-5<ft z/\ft z<5:=by
 have:=oH z;unfold ft;split <;> omega
theorem ok1 (h:QB 1 q):aS (qtx q)=true:=bx (h.le dc_)
theorem tY (n:Nat):QB 1 (lF ((n % 12:Nat):Int) 2):=rI dc_ om_ dc_
theorem Pq (n:Nat):¬ (lF ((n % 12:Nat):Int) 2<0):=by
 have a:∀k<12,¬ (lF ((k:Nat):Int) 2<0):=by decide +kernel
 exact a _ (S5 _ dc_)
theorem K2 (S:Sht)(s:Sgt)(i:Nat)(l:i<6)(j:QP 1 (mf S s))(m:lj (cJ (S.kd % 8) S.a S.b S.h) (shT (S.kd % 8)) (mf S s)≠[]) :
  gm (cJ (S.kd % 8) S.a S.b S.h) (shT (S.kd % 8)) colK (eT S s i)=0:=by
 have f:=OQ i l;have c:=ok1 j.1;have hy:=ok1 j.2;have p:=Lg s;have q:=QY s;have r:=Qg s;have g:∀o:Obs,o.x=qtx (mf S s).1->o.y=qtx (mf S s).2->L3 (cJ (S.kd % 8) S.a S.b S.h) (shT (S.kd % 8)) o=true:=by
  intro o h1 h2;unfold L3 ptO;rw[h1,h2,da c,da hy];exact SB m
 have n:=AF (s.u1 % 3) om_;have d:=AF (max (loU s) (upU s)) om_;have e:=AF (min (loU s) (upU s)) om_;have n1:=vo (s.u1 % 3) om_;have n2:=vo (max (loU s) (upU s)) om_;have k:=vo (min (loU s) (upU s)) om_;unfold eT gm;split
 .rw[aF (by rw[sh1 f n1 c hy];decide),aF (by rw[g _ rfl rfl];decide),aF (by simp[Gm,n] <;> omega),aF (by simp[ordB]),aF (by simp[depB]),aF (by simp[JT])]
 split
 .have hd:=ok1 (tY s.depth);rw[aF (by rw[sh2 f n2 k c hy hd];decide),aF (by rw[g _ rfl rfl];decide),aF (by simp only[Gm,d,e];simp <;> omega),aF (by simp only[ordB,d,e];simp <;> omega),aF (by simp only[depB];rw[da hd,SM (Pq s.depth)];decide),aF (by simp[JT])]
 have h0:=oH s.n0;have h1:=oH s.n1;have h2:=ph s.n2;rw[aF (by rw[sh3 f n2 k c hy (ok1 (eA _ om_)) (ok1 (eA _ om_)) (ok1 (eA _ om_))];decide),aF (by rw[g _ rfl rfl];decide),aF (by simp only[Gm,d,e];simp <;> omega),aF (by simp only[ordB,d,e];simp <;> omega),aF (by simp[depB]),aF ?_];intro h;simp only[JT,Sz,Sr]at h;have h3:=h.2;rw[<- qtx_zero]at h3;have h4:=gx h3;have h5:=vn s.n2;exact h5 (by exact_mod_cast h4)
theorem all1:∀i<15,∀j<15,∀h:Bool,ru (KO 1 ((i:Nat)-7) ((j:Nat)-7) h) (shT 1)=true:=by decide +kernel
theorem all2:∀i<15,∀j<15,∀h:Bool,ru (KO 2 ((i:Nat)-7) ((j:Nat)-7) h) (shT 2)=true:=by decide +kernel
theorem all3:∀i<15,∀j<15,∀h:Bool,ru (KO 3 ((i:Nat)-7) ((j:Nat)-7) h) (shT 3)=true:=by decide +kernel
theorem all4:∀i<15,∀j<15,∀h:Bool,ru (KO 4 ((i:Nat)-7) ((j:Nat)-7) h) (shT 4)=true:=by decide +kernel
theorem all5:∀i<15,∀j<15,∀h:Bool,ru (KO 5 ((i:Nat)-7) ((j:Nat)-7) h) (shT 5)=true:=by decide +kernel
theorem all6:∀i<15,∀j<15,∀h:Bool,ru (KO 6 ((i:Nat)-7) ((j:Nat)-7) h) (shT 6)=true:=by decide +kernel
theorem all7:∀i<15,∀j<15,∀h:Bool,ru (KO 7 ((i:Nat)-7) ((j:Nat)-7) h) (shT 7)=true:=by decide +kernel
theorem wX (a:Int):∃i:Nat,i<15/\a.tmod 8=(i:Int)-7:=by
 have h:=zG a;exact⟨(a.tmod 8+7).toNat,by omega,by omega⟩
theorem zR (m:Nat)(g:m<8)(a b:Int)(h:Bool):ru (cJ m a b h) (shT m)=true:=by
 obtain⟨i,c,e⟩:=wX a;obtain⟨j,d,f⟩:=wX b;rw[QJ,e,f];rcases(by omega:m=0∨m=1∨m=2∨m=3∨m=4∨m=5∨m=6∨m=7) with rfl|rfl|rfl|rfl|rfl|rfl|rfl|rfl
 .exact all0 i c j d h
 .exact all1 i c j d h
 .exact all2 i c j d h
 .exact all3 i c j d h
 .exact all4 i c j d h
 .exact all5 i c j d h
 .exact all6 i c j d h
 exact all7 i c j d h
theorem NW:∀m:Nat,m<8->shT m≠[]/\(shT m).length<=800:=by decide
theorem Ix {a:List Pt}{b:List Tri}(h:ru a b=true)(c:b≠[])(d:b.length<=800)(e:a.length<=400):Good a b/\∀p∈a,lj a b p≠[]:=by
 unfold ru at h;simp only[Sz,SA,Sr]at h;obtain⟨f,g,i,j,k,l,m⟩:=h;exact⟨⟨⟨f,g,i,j,k,d,e⟩,c,l⟩,m⟩
theorem gV (m:Nat)(c:m<8)(a b:Int)(h:Bool):Good (cJ m a b h) (shT m)/\∀p∈cJ m a b h,lj (cJ m a b h) (shT m) p≠[]:=by
 have hp:=kc m a b h;obtain⟨h0,h1⟩:=NW m c;exact Ix (zR m c a b h) h0 h1 om_
theorem uT (S:Sht)(s:Sgt)(c:SgtR s):QP 1 (mf S s)/\lj (cJ (S.kd % 8) S.a S.b S.h) (shT (S.kd % 8)) (mf S s)≠[]:=by
 obtain⟨d,e⟩:=gV (S.kd % 8) (S5 _ dc_) S.a S.b S.h;have f:0<(cJ (S.kd % 8) S.a S.b S.h).length:=by rw[cJ,au];exact GM _
 unfold mf;split
 .rename_i h;exact⟨Db dc_ dc_ c.px c.py,h⟩
 have g:s.depth % (cJ (S.kd % 8) S.a S.b S.h).length<(cJ (S.kd % 8) S.a S.b S.h).length:=S5 _ f;rw[ak,ah g,TD];exact⟨d.ok.q _ (Td _),e _ (Td _)⟩
theorem iD (h:QB 1 q):(qtx q).length<=999998:=xM (fs:=[q]) (k:=1) dc_ (by intro y hy;rw[SD]at hy;rw[hy];exact h) _ (SD.2 rfl)
theorem QU (S:Sht)(s:Sgt)(i:Nat)(c:SgtR s):ObsR (eT S s i):=by
 have b:=(uT S s c).1;have a:=iD b.1;have hy:=iD b.2;have hd:=iD (tY s.depth);have h0:=oH s.n0;have h1:=oH s.n1;have h2:=ph s.n2;have d:=iD (eA (s.n0.tmod 5) om_);have l1:=iD (eA (s.n1.tmod 5) om_);have l2:=iD (eA (ft s.n2) om_);unfold eT;split
 .exact⟨by simp,a,hy,by simp,by simp[sn],by simp,by simp,by simp,by simp⟩
 split
 .exact⟨by simp,a,hy,hd,by simp[sn],by simp[sn],by simp,by simp,by simp⟩
 exact⟨by simp,a,hy,by simp,by simp[sn],by simp[sn],d,l1,l2⟩
theorem yj (S:Sht)(s:Sgt)(i:Nat):(eT S s i).name=[111,UInt8.ofNat (49+i)]:=by
 unfold eT;split
 .rfl
 split <;> rfl
theorem Jr {S:Sht}{H:Hts}{l:List Sgt}{o:Obs}(h:(jK S H l).obs[i]?=some o):i<6/\∃s,l[i]?=some s/\o=eT S s i:=by
 have h1:=(aT.1 h).1;have h2:i<(sk S l).length:=h1;rw[pe]at h2;have h3:=HI S (ah (show i<l.length by omega)) (show i<6 by omega);have h4:(sk S l)[i]?=some o:=h;rw[h3]at h4;exact⟨by omega,_,ah om_,(TO h4).symm⟩
theorem Rf:∀x∈colK,P0 x:=by
 intro x a;simp only[colK,Sw,Tp,UG]at a;rcases a with rfl|rfl|rfl
 .exact⟨by decide +kernel,λq h=>by simp at h,by decide⟩
 .exact⟨by decide +kernel,λq h=>by simp at h;subst h;decide +kernel,by decide⟩
 exact⟨by decide +kernel,λq h=>by simp at h,by decide⟩
theorem PE (S:Sht)(H:Hts)(l:List Sgt)(a:∀s∈l,SgtR s):BookR (jK S H l):=by
 refine⟨?_,Rf,(by show colK.length<=1000000;decide), ?_⟩
 .intro s h;obtain⟨q,b,rfl⟩:=Sn.1 h;exact iD (IH _ H q b)
 intro o c;obtain⟨i,d⟩:=List.mem_iff_getElem?.1 c;obtain⟨_,s,e,rfl⟩:=Jr d;exact QU S s i (a s (aJ e))
def PlanIn (C:Mem)(pv:Value)(S:Sht)(H:Hts)(l:List Sgt):Prop:=∃A c,pv=.agg ⟨OE S H (.slice A l.length c)⟩/\Sl C 9 (.slice A l.length c) (l.map PW)
structure PlanR (S:Sht)(H:Hts)(l:List Sgt):Prop where
 kd:S.kd<256
 h:RC H
 s:∀s∈l,SgtR s
def ME (s p:Nat)(a b:Int):Prop:=a<0∨(s:Int)<=a∨b<0∨(p:Int)<=b
instance (s p:Nat) (a b:Int):Decidable (ME s p a b):=by unfold ME;infer_instance
def MX (n:Nat)(x:Int):Prop:=x<0∨(n:Int)<=x
instance (n:Nat) (x:Int):Decidable (MX n x):=by unfold MX;infer_instance
open Go Go.Jog Go.ChangeShapes Go.WideShapes Go.ChangeAt Go.RowKit
set_option maxRecDepth 100000
theorem own:ownKnob Tryz.prog.godebug=none:=by kernel_rfl
section
variable {H:Type} {enc:TypeId × Value->H} {W:World} {spare:Nat->Bool} {held:Bool}
theorem RR {n:Nat}{c:Value}{y:DataW H × List MemPlace}(h:DataW.trod enc Tryz.prog W 0 spare held n 5 [c]=some y):∃b:UInt8,c=.int .u8 b.toNat:=by
 obtain⟨m,h1,_,h3⟩:=DataW.trod_int Tryz.underlying5 h;simp only[UW,VW]at h1;subst h1;have a:0<=m/\m<256:=by
  simp[Lit.wf,IntKind.min,IntKind.max,IntKind.signed,IntKind.bits]at h3;omega
 refine⟨UInt8.ofNat m.toNat, ?_⟩;congr 1;simp only[UInt8.toNat_ofNat'];omega
theorem wT {n:Nat}{c:Value}{y:DataW H × List MemPlace}(h:DataW.trod enc Tryz.prog W 0 spare held n 5 [c]=some y):∃m:Nat,c=.int .u8 m/\m<256:=by
 obtain⟨b,rfl⟩:=RR h;exact⟨b.toNat,U,b.toNat_lt⟩
theorem nQ {n:Nat}{c:Value}{y:DataW H × List MemPlace}(h:DataW.trod enc Tryz.prog W 0 spare held n 22 [c]=some y):∃m:Int,c=.int .i8 m/\-128<=m/\m<=127:=by
 obtain⟨m,h1,_,h3⟩:=DataW.trod_int Tryz.underlying22 h;simp only[UW,VW]at h1;refine⟨m,h1, ?_⟩;simp[Lit.wf,IntKind.min,IntKind.max,IntKind.signed,IntKind.bits]at h3;omega
theorem Jp {n:Nat}{c:Value}{y:DataW H × List MemPlace}(h:DataW.trod enc Tryz.prog W 0 spare held n 4 [c]=some y):∃b:Bool,c=.bool b:=by
 obtain⟨b,h1,_⟩:=DataW.trod_bool Tryz.underlying4 h;simp only[UW,VW]at h1;exact⟨b,h1⟩
theorem zl {t e:TypeId}{k n:Nat}{a:List Value}{y:DataW H × List MemPlace}(b:Tryz.prog.underlying t=some (.array k e))(c:Tryz.prog.cellsOf e=1)(h:DataW.trod enc Tryz.prog W 0 spare held n t a=some y) :
  ∃m,∀i,i<k->∃z,DataW.trod enc Tryz.prog W 0 spare held m e ((a.drop i).take 1)=some z:=by
 obtain⟨xs,m,_,_,_,g,d⟩:=DataW.trod_array b h;refine⟨m,λi f=>?_⟩;have h1:=d i f;rw[c,T0]at h1;rw[h1,ah om_];exact⟨_,U⟩
theorem wc:Tryz.prog.cellsOf 5=1:=by kernel_rfl
theorem pp:Tryz.prog.cellsOf 22=1:=by kernel_rfl
theorem uc:Tryz.prog.cellsOf 4=1:=by kernel_rfl
theorem zc:Tryz.prog.cellsOf 23=2:=by kernel_rfl
theorem Jh:Tryz.prog.cellsOf 135=2:=by kernel_rfl
theorem Me:Tryz.prog.cellsOf 136=3:=by kernel_rfl
theorem Md:Tryz.prog.cellsOf 26=6:=by kernel_rfl
theorem Kp {n:Nat}{c d e f:Value}{y:DataW H × List MemPlace}(h:DataW.trod enc Tryz.prog W 0 spare held n 25 [c,d,e,f]=some y):∃S:Sht,[c,d,e,f]=([.int .u8 S.kd,.int .i8 S.a,.int .i8 S.b,.bool S.h]:List Value)/\S.kd<256:=by
 obtain⟨y0,y1,y2,l,_,o,h0,h1,h2⟩:=Go.Deep.trod_struct3 Tryz.underlying25 h;simp only[wc,zc,uc]at h0 h1 h2;obtain⟨kd,rfl,i⟩:=wT h0;obtain⟨m,g⟩:=zl Tryz.underlying23 pp h1;obtain⟨p,j⟩:=g 0 dc_;obtain⟨q,k⟩:=g 1 dc_;obtain⟨a,rfl,_⟩:=nQ j;obtain⟨b,rfl,_⟩:=nQ k;obtain⟨hh,rfl⟩:=Jp h2;exact⟨⟨kd,a,b,hh⟩,U,i⟩
theorem Ff {n:Nat}{b c d e f g i:Value}{y:DataW H × List MemPlace}(h:DataW.trod enc Tryz.prog W 0 spare held n 28 [b,c,d,e,f,g,i]=some y):∃G:Hts,[b,c,d,e,f,g,i]=Q2 G/\RC G:=by
 obtain⟨y0,y1,u,_,v,h0,h1⟩:=Go.ChangeShapes.trod_struct2 Tryz.underlying28 h;simp only[Md,uc]at h0 h1;obtain⟨m,a⟩:=zl Tryz.underlying26 pp h0;obtain⟨w,k⟩:=a 0 dc_;obtain⟨x,l⟩:=a 1 dc_;obtain⟨A,o⟩:=a 2 dc_;obtain⟨B,p⟩:=a 3 dc_;obtain⟨C,q⟩:=a 4 dc_;obtain⟨D,r⟩:=a 5 dc_;obtain⟨x0,rfl,g0⟩:=nQ k;obtain⟨x1,rfl,E⟩:=nQ l;obtain⟨x2,rfl,F⟩:=nQ o;obtain⟨x3,rfl,I⟩:=nQ p;obtain⟨s,rfl,J⟩:=nQ q;obtain⟨t,rfl,K⟩:=nQ r;obtain⟨hh,rfl⟩:=Jp h1;refine⟨⟨x0,x1,x2,x3,s,t,hh⟩,U, ?_⟩;intro z j;simp only[JQ,Sw,Tp,UG]at j;rcases j with rfl|rfl|rfl|rfl|rfl|rfl <;> assumption
theorem wU {P:Program}{t:TypeId}{b c d e f:Field}{j:Nat}{a:List Value}{x:DataW H × List MemPlace}(k:P.underlying t=some (.struct #[b,c,d,e,f]))(h:DataW.trod enc P W 0 spare held j t a=some x) :
  ∃y0 y1 y2 y3 i n,DataW.trod enc P W 0 spare held n b.type ((a.drop b.offset).take (P.cellsOf b.type))=some y0/\DataW.trod enc P W 0 spare held n c.type ((a.drop c.offset).take (P.cellsOf c.type))=some y1/\DataW.trod enc P W 0 spare held n d.type ((a.drop d.offset).take (P.cellsOf d.type))=some y2 /\
   DataW.trod enc P W 0 spare held n e.type ((a.drop e.offset).take (P.cellsOf e.type))=some y3/\DataW.trod enc P W 0 spare held n f.type ((a.drop f.offset).take (P.cellsOf f.type))=some i:=by
 obtain⟨xs,n,_,rfl,m,l,g⟩:=DataW.trod_struct k h
 match xs,l with
|[y0,y1,y2,y3,i],_=>exact⟨y0,y1,y2,y3,i,n,by simpa using g 0 b rfl,by simpa using g 1 c rfl,by simpa using g 2 d rfl,by simpa using g 3 e rfl,by simpa using g 4 f rfl⟩
theorem Kl {n:Nat}{a:List Value}{y:DataW H × List MemPlace}(e:a.length=9)(h:DataW.trod enc Tryz.prog W 0 spare held n 138 a=some y):∃s:{s:Sgt // SgtR s},a=PW s.1:=by
 obtain⟨y0,y1,y2,y3,x,z,h0,h1,h2,h3,h4⟩:=wU Tryz.underlying138 h
 match a,e with
|[c0,A,c2,B,C,D,E,F,G],_ =>
   simp only[wc,zc,Jh,Me]at h0 h1 h2 h3 h4;obtain⟨kd,rfl,f⟩:=wT h0;obtain⟨I,c⟩:=zl Tryz.underlying23 pp h1;obtain⟨w0,g⟩:=c 0 dc_;obtain⟨w1,i⟩:=c 1 dc_;obtain⟨px,rfl,j⟩:=nQ g;obtain⟨py,rfl,k⟩:=nQ i;obtain⟨J,a2⟩:=zl Tryz.underlying135 wc h2;obtain⟨K,l⟩:=a2 0 dc_;obtain⟨L,m⟩:=a2 1 dc_;obtain⟨u0,rfl,o⟩:=wT l;obtain⟨u1,rfl,p⟩:=wT m;obtain⟨d,rfl,hd⟩:=wT h3;obtain⟨M,b⟩:=zl Tryz.underlying136 pp h4;obtain⟨N,q⟩:=b 0 dc_;obtain⟨O,r⟩:=b 1 dc_;obtain⟨P,t⟩:=b 2 dc_;obtain⟨n0,rfl,u⟩:=nQ q;obtain⟨n1,rfl,v⟩:=nQ r;obtain⟨n2,rfl,w⟩:=nQ t;exact⟨⟨⟨kd,px,py,u0,u1,d,n0,n1,n2⟩,⟨f,j,k,o,p,hd,u,v,w⟩⟩,U⟩
theorem GK {b:Nat}{v:Value}{x:DataW H × List MemPlace}(h:DataW.trod enc Tryz.prog W 0 spare held b 29 [v]=some x):∃l:List Sgt,Sl (sx W) 9 v (l.map PW)/\∀s∈l,SgtR s:=by
 obtain⟨l,a⟩:=GJ (λs:{s:Sgt // SgtR s}=>PW s.1) Tryz.underlying29 kr_ dc_ (λn cs y a hy=>Kl a hy) h;refine⟨l.map (·.1),by rw[Th];exact a,λs hs=>?_⟩;obtain⟨z,_,rfl⟩:=Sn.1 hs;exact z.2
theorem OD {n:Nat}{a:List Value}{y:DataW H × List MemPlace}(h:DataW.trod enc Tryz.prog W 0 spare held n 31 a=some y):∃S G l,PlanIn (sx W) (.agg ⟨a⟩) S G l/\PlanR S G l:=by
 obtain⟨y0,y1,y2,o,_,d,h0,h1,h2⟩:=Go.Deep.trod_struct3 Tryz.underlying31 h;have g:Tryz.prog.cellsOf 31=12:=by kernel_rfl
 have h4:Tryz.prog.cellsOf 25=4:=by kernel_rfl
 have i:Tryz.prog.cellsOf 28=7:=by kernel_rfl
 have hs:Tryz.prog.cellsOf 29=1:=by kernel_rfl
 rw[g]at d
 match a,d with
|[c0,p,c2,q,r,s,t,u,v,w,x,z],_ =>
  simp only[h4,i,hs]at h0 h1 h2;obtain⟨S,e,j⟩:=Kp h0;obtain⟨G,f,k⟩:=Ff h1;obtain⟨l,b,m⟩:=GK h2;obtain⟨A,c,rfl,_⟩:=id b;simp only[UW,VW]at e;obtain⟨rfl,rfl,rfl,rfl⟩:=e;simp only[Q2,UW,VW]at f;obtain⟨rfl,rfl,rfl,rfl,rfl,rfl,rfl⟩:=f;simp only[au]at b⊢;exact⟨S,G,l,⟨A,c,U,b⟩,j,k,m⟩
end
def mE (cs:Array Value):Obj->Obj
|.cells _ t frozen=>.cells cs t frozen
|o=>o
def I6:Array Value:=(Lib.deBruijn32tab.map λz:Nat=>Value.int .u8 (z:Int)).toArray
def I5:Array Value:=(Lib.deBruijn64tab.map λz:Nat=>Value.int .u8 (z:Int)).toArray
def EU:Array Value:=(Lib.pow10Tab.map λz=>Value.int .u64 z).toArray
def Hd:ByteArray:=⟨#[118,97,108,117,101,32,111,117,116,32,111,102,32,114,97,110,103,101]⟩
def Eu:ByteArray:=⟨#[105,110,118,97,108,105,100,32,115,121,110,116,97,120]⟩
noncomputable def low:Nat:=(World.holding Tryz.prog default ⟨#[],#[],[]⟩).heap.size
noncomputable def rq (os:Os):World :=
 let w0:=World.holding Tryz.prog os ⟨#[.cells #[.string Hd] 416,.cells #[.string Eu] 416],#[],[]⟩
 { w0 with heap:=((((w0.heap.modify 4 (mE I6)).modify 5 (mE I5)).modify 3 (mE EU)).modify 2 (mE #[.iface 414 (.pointer (some ⟨low,0,none⟩))])).modify 1 (mE #[.iface 414 (.pointer (some ⟨low+1,0,none⟩))]) }
theorem NO {W : World} (h : laidMet Tryz.prog [("math/bits.deBruijn32tab", Rows.laid_math_bits_deBruijn32tab), ("math/bits.deBruijn64tab", Rows.laid_math_bits_deBruijn64tab), ("internal/strconv.uint64pow10", Rows.laid_internal_strconv_uint64pow10), ("strconv.ErrRange", Rows.laid_strconv_ErrRange), ("strconv.ErrSyntax", Rows.laid_strconv_ErrSyntax)] W) : Tabs (sx W) := by
 have h1:=h.tail;have h2:=h1.tail;have b:(Rows.laid_math_bits_deBruijn64tab:DataW Unit)=Lib.tabData .u8 (Lib.deBruijn64tab.map λz:Nat=>(z:Int)):=by rfl
 rw[b]at h1;have a:=Lib.tabIs_of_head (g:=5) (t:=418) (e:=5) (n:=64) kr_ kr_ Tryz.underlying418 Tryz.underlying5 kr_ kr_ h1;have c:(Rows.laid_internal_strconv_uint64pow10:DataW Unit)=Lib.tabData .u64 Lib.pow10Tab:=by rfl
 rw[c]at h2;have d:=Lib.tabIs_of_head (g:=3) (t:=412) (e:=285) (n:=20) kr_ kr_ Tryz.underlying412 Tryz.underlying285 kr_ kr_ h2;refine⟨VarC.ofWorld d, ?_⟩;unfold Lib.TabIs at a;rw[Th]at a;exact VarC.ofWorld a
theorem Lo:laidOutB Tryz.prog=true:=by kernel_rfl
end Go.Proofs.YtfjcldheldflbaaGreatDoor
namespace Go.Proofs.YtfjcldheldflbaaGreatDoor
open Go.Proofs.Tryz
open Go Go.Jog
set_option maxRecDepth 100000
variable {a b:Int}{ds fs:List Rat}{h:Bool}{i j k:Nat}{k0 k1 k2:Int}{m n:Nat}{p:Pt}{pts:List Pt}{q:Rat}{rows:List (List Str × Str)}{rs:List (List Rat × Rat)}{t:Tri}{vs:List Value}{w x0 x1 x2 x3 y0 y1 y2 y3 z:Int}{α:Type}{l:List α}
theorem CQ (a:w≠0)(h:q*w=z):q=lF z w:=by
 have c:(w:Rat)≠0:=by simpa using a
 unfold lF;rw[Rat.mkRat_eq_div];have b:q=z / w:=by grind
 rw[b];split
 .rename_i d;have:((w.natAbs:Nat):Int)=-w:=by omega
  rw[show((w.natAbs:Nat):Rat)=(((w.natAbs:Nat):Int):Rat) from rfl,this];simp only[Rat.intCast_neg];grind
 have:((w.natAbs:Nat):Int)=w:=by omega
 rw[show((w.natAbs:Nat):Rat)=(((w.natAbs:Nat):Int):Rat) from rfl,this]
theorem pl (a:w≠0):lF z w*w=z:=by
 have b:(w:Rat)≠0:=by simpa using a
 have h:=CQ (q:=(z:Rat) / w) (z:=z) a (by grind);rw[<- h];grind
theorem qG (a:w≠0)(h:q*w=z)(b:z.natAbs<1000000000)(c:w.natAbs<1000000000):QB 1 q:=by
 rw[CQ a h];exact rI a b c
def iA (x0 y0 x1 y1 x2 y2:Int):Int:=(x1-x0)*(y2-y0)-(y1-y0)*(x2-x0)
def At4 (p:Pt)(x y:Int):Prop:=p.1*4=x/\p.2*4=y
def Qtr (p:Pt):Prop:=∃x y:Int,At4 p x y/\(-600<=x/\x<=600)/\(-600<=y/\y<=600)
def Hlf (z:Rat):Prop:=∃k:Int,z*2=k/\(-38<=k/\k<=38)
theorem nh {a b c:Pt}(d:At4 a x0 y0)(e:At4 b x1 y1)(f:At4 c x2 y2):dO a b c*16=(iA x0 y0 x1 y1 x2 y2:Int):=by
 unfold iA dO;simp only[UD,Ti];rw[<- d.1,<- d.2,<- e.1,<- e.2,<- f.1,<- f.2];grind
theorem jv {M K:Nat}(c:a.natAbs<=M)(d:b.natAbs<=K):(a*b).natAbs<=M*K:=by
 rw[TF];exact TA c d
theorem AI (h:(-600<=x0/\x0<=600)/\(-600<=y0/\y0<=600)/\(-600<=x1/\x1<=600)/\(-600<=y1/\y1<=600)/\(-600<=x2/\x2<=600)/\(-600<=y2/\y2<=600)):(iA x0 y0 x1 y1 x2 y2).natAbs<=2880000:=by
 have h1:=jv (a:=x1-x0) (b:=y2-y0) (M:=1200) (K:=1200) om_ om_;have h2:=jv (a:=y1-y0) (b:=x2-x0) (M:=1200) (K:=1200) om_ om_;unfold iA;omega
theorem xK {n d:Rat}{N W:Int}(b:n*16=N)(c:d*16=W)(a:d≠0):W≠0/\n / d*W=N:=by
 constructor
 .intro h;subst h;exact a (by grind)
 grind
theorem Qf (a:∀j,Qtr (cor pts t j))(b:dO (cor pts t 0) (cor pts t 1) (cor pts t 2)≠0)(c:Qtr p)(j:Nat):QB 1 (wgt pts t p j):=by
 obtain⟨x0,y0,h0,d,e⟩:=a 0;obtain⟨x1,y1,h1,f,g⟩:=a 1;obtain⟨x2,y2,h2,h,i⟩:=a 2;obtain⟨x3,y3,h3,k,l⟩:=a ((j+1) % 3);obtain⟨m,n,h4,o,q⟩:=a ((j+2) % 3);obtain⟨r,s,h5,u,v⟩:=c;obtain⟨w,x⟩:=xK (nh h5 h3 h4) (nh h0 h1 h2) b;have k1:=AI (x0:=r) (y0:=s) (x1:=x3) (y1:=y3) (x2:=m) (y2:=n) ⟨u,v,k,l,o,q⟩;have k2:=AI (x0:=x0) (y0:=y0) (x1:=x1) (y1:=y1) (x2:=x2) (y2:=y2) ⟨d,e,f,g,h,i⟩;exact qG w x om_ om_
theorem jn {a b c:Pt}{e f g:Rat}(i:At4 a x0 y0)(j:At4 b x1 y1)(k:At4 c x2 y2)(n:e*2=k0)(o:f*2=k1)(p:g*2=k2)(l:dO a b c≠0) :
  iA x0 y0 x1 y1 x2 y2≠0/\(qe a b c e f g).1*(iA x0 y0 x1 y1 x2 y2:Int)=((2*((k1-k0)*(y2-y0)-(y1-y0)*(k2-k0)):Int):Rat)/\(qe a b c e f g).2*(iA x0 y0 x1 y1 x2 y2:Int)=((2*((x1-x0)*(k2-k0)-(k1-k0)*(x2-x0)):Int):Rat):=by
 have m:=nh i j k;have q:eK (b.1-a.1) (b.2-a.2) (c.1-a.1) (c.2-a.2)=dO a b c:=by unfold eK dO;grind
 refine⟨λh=>l (by rw[h]at m;grind), ?_, ?_⟩
 .unfold qe;simp only;rw[q,<- m];unfold eK;simp only[UD,Ti];rw[<- i.2,<- j.2,<- k.2,<- n,<- o,<- p];generalize dO a b c=d at l;grind
 unfold qe;simp only;rw[q,<- m];unfold eK;simp only[UD,Ti];rw[<- i.1,<- j.1,<- k.1,<- n,<- o,<- p];generalize dO a b c=d at l;grind
theorem kz {c d:Int}(h:a.natAbs<=76/\b.natAbs<=1200/\c.natAbs<=1200/\d.natAbs<=76):(a*b-c*d).natAbs<=182400:=by
 have h1:=jv h.1 h.2.1;have h2:=jv h.2.2.1 h.2.2.2;omega
theorem Kh (e:∀j,Qtr (cor pts t j))(h:dO (cor pts t 0) (cor pts t 1) (cor pts t 2)≠0)(f:∀j,Hlf (fz fs t j)):QP 1 (dW pts fs t):=by
 obtain⟨x0,y0,h0,i,k⟩:=e 0;obtain⟨x1,y1,h1,l,m⟩:=e 1;obtain⟨x2,y2,h2,n,o⟩:=e 2;obtain⟨k0,p,v⟩:=f 0;obtain⟨k1,q,w⟩:=f 1;obtain⟨k2,r,x⟩:=f 2;obtain⟨g,s,u⟩:=jn h0 h1 h2 p q r h;have y:=AI (x0:=x0) (y0:=y0) (x1:=x1) (y1:=y1) (x2:=x2) (y2:=y2) ⟨i,k,l,m,n,o⟩;have z:=kz (a:=k1-k0) (b:=y2-y0) (c:=y1-y0) (d:=k2-k0) ⟨by omega,by omega,by omega,by omega⟩;have A:=kz (a:=k1-k0) (b:=x2-x0) (c:=x1-x0) (d:=k2-k0) ⟨by omega,by omega,by omega,by omega⟩;unfold dW;exact⟨qG g s om_ om_,qG g u om_ om_⟩
theorem MY (c:At4 (cor pts t 0) x0 y0)(h:At4 (cor pts t 1) x1 y1)(i:At4 (cor pts t 2) x2 y2)(e:At4 p x3 y3)(d:fz fs t 0*2=k0)(j:fz fs t 1*2=k1)(k:fz fs t 2*2=k2)
  (l:dO (cor pts t 0) (cor pts t 1) (cor pts t 2)≠0):onQ pts fs t p*((2*iA x0 y0 x1 y1 x2 y2:Int):Rat)=((k0*iA x0 y0 x1 y1 x2 y2+((k1-k0)*(y2-y0)-(y1-y0)*(k2-k0))*(x3-x0)+((x1-x0)*(k2-k0)-(k1-k0)*(x2-x0))*(y3-y0):Int):Rat):=by
 obtain⟨s,f,g⟩:=jn c h i d j k l;unfold onQ JN;simp only[Vi,List.foldl_nil];have a:=f;have b:=g;unfold dW;generalize (qe (cor pts t 0) (cor pts t 1) (cor pts t 2) (fz fs t 0) (fz fs t 1) (fz fs t 2)).1=u at a⊢;generalize (qe (cor pts t 0) (cor pts t 1) (cor pts t 2) (fz fs t 0) (fz fs t 1) (fz fs t 2)).2=v at b⊢;clear f g;generalize ((k1-k0)*(y2-y0)-(y1-y0)*(k2-k0))=n1 at a⊢;generalize ((x1-x0)*(k2-k0)-(k1-k0)*(x2-x0))=n2 at b⊢;generalize iA x0 y0 x1 y1 x2 y2=w at a b⊢;simp only[UD,Ti,VP]at a b⊢;have m:=c.1;have n:=c.2;have o:=e.1;have q:=e.2;generalize fz fs t 0=x at d⊢;rw[<- m,<- n,<- o,<- q,<- d];have r:((2:Int):Rat)=2:=rfl;rw[r]at a b⊢;grind
theorem QQ (b:(-600<=x0/\x0<=600)/\(-600<=y0/\y0<=600)/\(-600<=x1/\x1<=600)/\(-600<=y1/\y1<=600)/\(-600<=x2/\x2<=600)/\(-600<=y2/\y2<=600))(g:(-600<=x3/\x3<=600)/\(-600<=y3/\y3<=600))(h:(-38<=k0/\k0<=38)/\(-38<=k1/\k1<=38)/\(-38<=k2/\k2<=38)) :
  (k0*iA x0 y0 x1 y1 x2 y2+((k1-k0)*(y2-y0)-(y1-y0)*(k2-k0))*(x3-x0)+((x1-x0)*(k2-k0)-(k1-k0)*(x2-x0))*(y3-y0)).natAbs<=600000000:=by
 have e:=AI b;have f:=kz (a:=k1-k0) (b:=y2-y0) (c:=y1-y0) (d:=k2-k0) ⟨by omega,by omega,by omega,by omega⟩;have i:=kz (a:=k1-k0) (b:=x2-x0) (c:=x1-x0) (d:=k2-k0) ⟨by omega,by omega,by omega,by omega⟩;have j:=jv (show k0.natAbs<=38 by omega) e;have k:=jv f (show(x3-x0).natAbs<=1200 by omega);have l:=jv (show((x1-x0)*(k2-k0)-(k1-k0)*(x2-x0)).natAbs<=182400 by omega) (show(y3-y0).natAbs<=1200 by omega);omega
theorem RZ (a:∀j,Qtr (cor pts t j))(c:dO (cor pts t 0) (cor pts t 1) (cor pts t 2)≠0)(b:∀j,Hlf (fz fs t j))(n:Qtr p):QB 1 (onQ pts fs t p):=by
 obtain⟨x0,y0,h0,d,e⟩:=a 0;obtain⟨x1,y1,h1,f,g⟩:=a 1;obtain⟨x2,y2,h2,h,i⟩:=a 2;obtain⟨x3,y3,h3,o⟩:=n;obtain⟨k0,k,q⟩:=b 0;obtain⟨k1,l,r⟩:=b 1;obtain⟨k2,m,s⟩:=b 2;have u:=(jn h0 h1 h2 k l m c).1;have v:=AI (x0:=x0) (y0:=y0) (x1:=x1) (y1:=y1) (x2:=x2) (y2:=y2) ⟨d,e,f,g,h,i⟩;have w:=QQ ⟨d,e,f,g,h,i⟩ o ⟨q,r,s⟩;exact qG om_ (MY h0 h1 h2 h3 k l m c) om_ om_
theorem DI (a:w=1∨w=2∨w=4)(e:-150<=z/\z<=150):∃x:Int,lF z w*4=x/\(-600<=x/\x<=600):=by
 have h:=pl (z:=z) (w:=w) om_;have b:((1:Int):Rat)=1:=rfl;have c:((2:Int):Rat)=2:=rfl;have d:((4:Int):Rat)=4:=rfl;rcases a with rfl|rfl|rfl
 .refine⟨4*z, ?_,by omega⟩;rw[Ti,<- h,b,d];grind
 .refine⟨2*z, ?_,by omega⟩;rw[Ti,<- h,c];grind
 exact⟨z,h,by omega⟩
theorem ya {x y n:Int}(c:n=1∨n=2)(k:-128<=x/\x<=127)(l:-128<=y/\y<=127):Qtr (dL a b h x y n):=by
 have m:=zG a;have o:=zG b;have hh:ec h=1∨ec h=2:=by cases h <;> simp[ec]
 have d:ec h*n=1∨ec h*n=2∨ec h*n=4:=by rcases hh with e|e <;> rcases c with f|f <;> rw[e,f] <;> omega
 obtain⟨u,g,i⟩:=DI (z:=x+a.tmod 8*n) d (by rcases c with f|f <;> subst f <;> omega);obtain⟨v,j,bv⟩:=DI (z:=y+b.tmod 8*n) d (by rcases c with f|f <;> subst f <;> omega);exact⟨u,v,⟨g,j⟩,i,bv⟩
theorem CT :∀p∈cJ m a b h,Qtr p:=by
 intro p hp;obtain⟨x,c,rfl⟩:=Sn.1 hp;have:=MK m x c;exact ya (.inl U) om_ om_
theorem BQ:Qtr (0,0):=⟨0,0,⟨by decide +kernel,by decide +kernel⟩,by decide,by decide⟩
theorem iJ {P:α->Prop}{d:α}(h:∀x∈l,P x)(a:P d):P (l.getD i d):=by
 rw[ak];cases h1:l[i]? with
|none=>exact a
|some x=>exact h x (aJ h1)
theorem vT (j:Nat):Qtr (cor (cJ m a b h) t j):=iJ CT BQ
theorem Pc (n:Nat)(H:Hts):∀q∈fsK n H,Hlf q:=by
 intro q a;obtain⟨i,_,rfl⟩:=Sn.1 a;have b:=Gp ((JQ H).getD (i % 6) 0);generalize ((JQ H).getD (i % 6) 0).tmod 20=z at b⊢;have c:((1:Int):Rat)=1:=rfl;have d:((2:Int):Rat)=2:=rfl;rcases vz H.half with e|e
 .have h:=pl (z:=z) (w:=1) dc_;rw[e];refine⟨2*z, ?_,by omega⟩;rw[Ti,<- h,c,d];grind
 rw[e];exact⟨z,pl dc_,by omega⟩
theorem ut:Hlf 0:=⟨0,by decide +kernel,by decide⟩
theorem OK:Hlf 1:=⟨2,by decide +kernel,by decide⟩
theorem M9 {H:Hts}(j:Nat):Hlf (fz (fsK n H) t j):=iJ (Pc n H) ut
theorem B7 (j:Nat):Hlf (fz (wS n k) t j):=iJ (λq a=>by
 rcases Ca q a with rfl|rfl
 .exact ut
 exact OK) ut
theorem CV (S:Sht)(s:Sgt)(a:SgtR s):Qtr (mf S s):=by
 unfold mf;split
 .exact ya (.inr U) a.px a.py
 exact iJ CT BQ
theorem uH {P:Rat->Prop}{m:List (Nat × Rat)}(a:P 0)(h:∀x∈m,P x.2):∀q∈sZ n m,P q:=by
 intro q b;obtain⟨j,_,rfl⟩:=Sn.1 b;cases h1:ef m j with
|none=>exact a
|some v =>
  exact h _ (gC h1)
theorem qD {s p:Nat}{a:List (Nat × Rat)}{b c:Rat}(e:∀x∈a,QB 1 x.2)(f:QB 3 b)(d:QB 1 c):PY (iq s p k a b c):=by
 refine⟨uH (QB_zero.le dc_) ?_,(jM d f).le dc_⟩;intro x g;obtain⟨y,hy,rfl⟩:=Sn.1 g;exact(jM d (e y hy)).le dc_
theorem Ky {B:Bk}{o:Obs}{z:Rat}(c:∀j,QB 1 (wgt B.pts t p j))(a:∀j,QP 1 (slf B.pts t j))(d:QB 3 (lK o z))(f:o.kind≠1->o.kind≠2->QB 3 (rG o)/\QB 3 (ju o)):∀r∈rowsO B o p t z,PY r:=by
 have e:∀x∈atT t (wgt B.pts t p),QB 1 x.2:=gM (c 0) (c 1) (c 2);have g:∀x∈atT t (λj=>(slf B.pts t j).1),QB 1 x.2:=gM (a 0).1 (a 1).1 (a 2).1;have i:∀x∈atT t (λj=>(slf B.pts t j).2),QB 1 x.2:=gM (a 0).2 (a 1).2 (a 2).2;intro r hr;unfold rowsO at hr;split at hr
 .rcases Sx.1 hr with h|h
  .split at h
   .rw[SD.1 h];exact qD e d QB_one
   simp at h
  split at h
  .rw[SD.1 h];exact qD e d nL
  simp at h
 rename_i h1;split at hr
 .obtain⟨k,_,h⟩:=List.mem_flatMap.1 hr;obtain⟨sg,b,rfl⟩:=Sn.1 h;exact qD e d (sT sg b)
 rename_i h2;obtain⟨l,m⟩:=f h1 h2;obtain⟨k,_,h⟩:=List.mem_flatMap.1 hr;rcases Sx.1 h with h|h
 .obtain⟨sg,b,rfl⟩:=Sn.1 h;exact qD g l (sT sg b)
 obtain⟨sg,b,rfl⟩:=Sn.1 h;exact qD i m (sT sg b)
def tiK (S:Sht)(s:Sgt):Nat:=(lj (cJ (S.kd % 8) S.a S.b S.h) (shT (S.kd % 8)) (mf S s)).headD 0
def tK (S:Sht)(s:Sgt):Tri:=(shT (S.kd % 8)).getD (tiK S s) (0,0,0)
def zK (S:Sht)(H:Hts)(s:Sgt):Rat:=onQ (cJ (S.kd % 8) S.a S.b S.h) (fsK (cJ (S.kd % 8) S.a S.b S.h).length H) (tK S s) (mf S s)
theorem ON (S:Sht)(s:Sgt)(i:Nat)(b:SgtR s):ObsAt (eT S s i) (mf S s):=by
 have a:=(uT S s b).1;refine⟨?_, ?_,(Hh a).1,(Hh a).2, ?_⟩
 .unfold eT;split
  .rfl
  split <;> rfl
 .unfold eT;split
  .rfl
  split <;> rfl
 unfold eT;split
 .intro h;exact absurd (show(1:Int)=2 from h) dc_
 split
 .intro _;exact ok1 (tY s.depth)
 intro h;exact absurd (show(3:Int)=2 from h) dc_
theorem HJ (S:Sht)(s:Sgt)(i:Nat):(eT S s i).kind≠1->(eT S s i).kind≠2->(aS (eT S s i).nx=true/\aS (eT S s i).ny=true/\aS (eT S s i).nz=true)/\QB 1 (dt (eT S s i).nx)/\QB 1 (dt (eT S s i).ny)/\QB 1 (dt (eT S s i).nz)/\dt (eT S s i).nz≠0:=by
 have h0:=oH s.n0;have h1:=oH s.n1;have h2:=ph s.n2;have a:=eA (s.n0.tmod 5) om_;have l1:=eA (s.n1.tmod 5) om_;have l2:=eA (ft s.n2) om_;have b:=vn s.n2;unfold eT;split
 .intro h;exact absurd rfl h
 split
 .intro _ h;exact absurd rfl h
 intro _ _;simp only;rw[da (ok1 a),da (ok1 l1),da (ok1 l2)];exact⟨⟨ok1 a,ok1 l1,ok1 l2⟩,a,l1,l2,by simpa using b⟩
theorem Di (S:Sht)(s:Sgt)(i:Nat):(eT S s i).kind=2->(eT S s i).depth=qtx (lF ((s.depth % 12:Nat):Int) 2):=by
 unfold eT;split
 .intro h;exact absurd (show(1:Int)=2 from h) dc_
 split
 .intro _;rfl
 intro h;exact absurd (show(3:Int)=2 from h) dc_
theorem K4 (S:Sht)(s:Sgt)(i:Nat){z:Rat}(a:QB 1 z):QB 3 (lK (eT S s i) z):=by
 unfold lK;split
 .rename_i h;rw[Di S s i h,da (ok1 (tY s.depth))];have h:=fu a (tY s.depth);exact h.le dc_
 exact a.le dc_
theorem HK (S:Sht)(s:Sgt)(i:Nat)(b:(eT S s i).kind≠1)(c:(eT S s i).kind≠2):QB 3 (rG (eT S s i))/\QB 3 (ju (eT S s i)):=by
 obtain⟨_,d,l1,l2,a⟩:=HJ S s i b c;exact⟨(jN (eO d) l2 a).le dc_,(jN (eO l1) l2 a).le dc_⟩
theorem locK (S:Sht)(s:Sgt)(c:SgtR s):(∃r,lj (cJ (S.kd % 8) S.a S.b S.h) (shT (S.kd % 8)) (mf S s)=tiK S s::r)/\(shT (S.kd % 8))[tiK S s]?=some (tK S s):=by
 have d:=(uT S s c).2;unfold tK tiK;cases h:lj (cJ (S.kd % 8) S.a S.b S.h) (shT (S.kd % 8)) (mf S s) with
|nil=>exact absurd h d
|cons i r =>
  have hm:i∈lj (cJ (S.kd % 8) S.a S.b S.h) (shT (S.kd % 8)) (mf S s):=by rw[h];exact Sj
  unfold lj at hm;have e:=SE.1 (TP.1 hm).1;refine⟨⟨r,U⟩, ?_⟩;simp only[List.headD_cons];rw[ak,ah e];rfl
theorem R8 (S:Sht)(H:Hts)(B:Bk)(s:Sgt)(i:Nat)(c:SgtR s)(f:B.pts=cJ (S.kd % 8) S.a S.b S.h)(g:B.tris=shT (S.kd % 8))(m:0<=ib (isU (eT S s i).upper) B.col 0) :
  Fine B (fsK (cJ (S.kd % 8) S.a S.b S.h).length H) (eT S s i) (mf S s) (tiK S s) (tK S s) (zK S H s):=by
 obtain⟨pts,tris,terr,col,obs⟩:=B;simp only at f g;subst f g;obtain⟨n,_⟩:=gV (S.kd % 8) (S5 _ dc_) S.a S.b S.h;obtain⟨⟨r,hr⟩,ht⟩:=locK S s c;have d:=kp n.ok (aJ ht);have hp:=CV S s c;have k:∀j,QB 1 (wgt (cJ (S.kd % 8) S.a S.b S.h) (tK S s) (mf S s) j):=Qf (λj=>vT j) d hp;have l:∀j,QP 1 (slf (cJ (S.kd % 8) S.a S.b S.h) (tK S s) j):=λj=>Kh (λj=>vT j) d (λj=>B7 j);have e:QB 1 (zK S H s):=RZ (λj=>vT j) d (λj=>M9 j) hp;have hh:=K4 S s i e;refine⟨ON S s i c,⟨r,hr⟩,ht, ?_,e.le dc_,hh.le dc_,λj=>(k j).le dc_,m,λj=>(l j).le dc_, ?_, ?_⟩
 .show FY (cJ (S.kd % 8) S.a S.b S.h) (shT (S.kd % 8)) _ _=_;unfold FY;rw[hr];show E0 (zK S H s)=_;unfold E0;rw[aK (ok1 e)]
 .intro h1 h2;obtain⟨h0,o,l1,l2,p⟩:=HJ S s i h1 h2;exact⟨h0,o.le dc_,l1.le dc_,l2.le dc_,p⟩
 exact Ky k l hh (HK S s i)
theorem EV (x y:Nat)(a:x<18446744073709551616)(b:y<18446744073709551616)(C:Mem):Gives cx.P 128 [.int .u64 x,.int .u64 y] C (.tuple #[.int .u64 ((x*y / 18446744073709551616:Nat):Int),.int .u64 ((x*y % 18446744073709551616:Nat):Int)]) :=
 Gives.ofCalls kr_ (λw=>Any.bits_Mul Tryz.mul x y a b w) C
theorem Ho {a:Value}{b:List Value}(_d:k+m<=n)(c:m<=k)(_e:b.length=n-k) :
  aB (List.replicate k a++b) ((List.replicate k a++b).take m) k=List.replicate (k+m) a++b.drop m:=by
 have h1:(List.replicate k a++b).take m=List.replicate m a:=by
  rw[List.take_append_of_le_length (by simpa using c),List.take_replicate,Tj c]
 have h2:(List.replicate k a++b).take k=List.replicate k a:=by
  rw[List.take_append_of_le_length al,List.take_replicate,Nat.min_self]
 have h3:(List.replicate k a++b).drop (k+m)=b.drop m:=by
  rw[Vf,SG,TZ al,Un];congr 1;omega
 unfold aB;rw[h1,h2,SG,h3,List.replicate_append_replicate]
theorem Hj (a:Value)(n:Nat):fI [a] n=List.replicate n a:=by
 rw[dH];induction n with
|zero=>rfl
|succ n b=>rw[Tm,Tu,b,Tm];rfl
theorem KT (n:Nat)(a:n<18446744073709551616)(C:Mem):Gives cx.P 128 [.int .u64 (1:Int),.int .u64 n] C (.tuple #[.int .u64 0,.int .u64 n]):=by
 have h:=EV 1 n om_ a C;have b:1*n / 18446744073709551616=0:=by omega
 have c:1*n % 18446744073709551616=n:=by omega
 rw[b,c]at h;exact h
theorem ES (C:Mem)(v:Value)(n:Nat)(s:Str)(g:Sl C 1 v [[ae s]])(y:n<=1000000):Jog.Fn cx.P 64 [v,i_ n] C [] λu _z e=>∃b,u=s_ b n n/\e=[.arr u 32 1 n (List.replicate n (ae s))]:=by
 have p:=g;obtain⟨A,c,rfl,_⟩:=p;refine V7 func64 48 U3 λw0=>U0 1 [0,1] U<|U0 2 [0,1,10] U<|G.cd (λh=>?_) λh=>?_
 .simp at h;omega
 refine U1 2 U λR d=>WG (c:=1) U8 U fl_<|V2 U6<|WG (c:=(n:Int)) U8 g_ fl_<|Wc (KT n om_ _) U7 fl_<|C6 5 [0,5,6] d U<|U1 5 U λR d=>Wy U8<|V5 [0,6,26] d U<|G.cd (λi=>?_) λi=>?_
 .simp at i;omega
 refine U1 1 U λR d=>WG (c:=(n:Int)) U8 f_ fl_<|WX U9 (Sg _) (by show 16*n<=281474976710656;omega) y_ fl_ λa=>C6 1 [0,7] d U<|U1 2 U λR d=>XB (j:=0) (q:=min 1 n) U12 g U2 (by rw[cG];show 0+min 1 n*1<=n*1;omega) fl_<|C6 1 [7,8] d U ?_;have r:aB (fI [ae []] n) (([[ae s]]:List (List Value)).take (min 1 n)).flatten 0=List.replicate (min 1 n) (ae s)++List.replicate (n-min 1 n) (ae []):=by
  rw[Hj];cases n with
 |zero=>rfl
 |succ n=>rw[show min 1 (n+1)=1 by omega,Tm];rfl
 refine Wk (L':=[.arr (s_ a n n) 32 1 n (List.replicate (min 1 n) (ae s)++List.replicate (n-min 1 n) (ae []))]) (by rw[<- r];rfl)<|G.loop (λfr B e t=>∃(k:Nat),(k<=n/\min 1 n<=k)/\fr=[(7,[],s_ a n n),(8,[],i_ k)]/\e=[.arr (s_ a n n) 32 1 n (List.replicate k (ae s)++List.replicate (n-k) (ae []))]/\t=n-k) (hn_ [7,8] U) ⟨min 1 n,⟨Nat.min_le_right _ _,Sg _⟩,U,U,U⟩ (λfr D E m w x=>?_);obtain⟨k,⟨l,F⟩,rfl,rfl,rfl⟩:=x;refine U0 4 [7,8,37] U<|G.cd (λf=>?_) λf=>?_
 .simp only[Sr]at f;have o:k<n:=by omega
  have H:1<=k:=by omega
  refine Wn [0,1,2,3,4,5,6,7,8,9] [] U kr_ λR I d=>V4 3 U<|WN k n n U12 (λ_=>⟨.inr ⟨_,U⟩,.inl ⟨U,U⟩,.inl ⟨U,U⟩,l,Sg _,Sg _⟩) U2<|V4 2 U<|WN 0 k n U12 (λ_=>⟨.inl ⟨U,U⟩,.inr ⟨_,U⟩,.inl ⟨U,U⟩,Sm _,l,Sg _⟩) U2 ?_;refine Xz (j:=0) (off:=k) (g0:=a) (dl:=n-k) (dc:=n-k) (sl:=k-0) (sc:=n-0) (q:=min k (n-k)) U8 (by show some (Value.slice (if n=k then some (⟨a,0,none⟩:Addr) else (some (⟨a,0,none⟩:Addr)).map (·.add (k*1))) (n-k) (n-k))=_;rw[aF om_];simp[Addr.add_lit]) (by show some (Value.slice (if n=0 then some (⟨a,0,none⟩:Addr) else (some (⟨a,0,none⟩:Addr)).map (·.add (0*1))) (k-0) (n-0))=_;split <;> simp[Addr.add_lit]) U2 (by simp[kR,ae]) am fl_ ?_;refine Wx (((k+min k (n-k):Nat):Int)) U4 om_ om_ om_ U2<|C6 1 [7,8] d U<|Wk (L':=[.arr (s_ a n n) 32 1 n (List.replicate (k+min k (n-k)) (ae s)++List.replicate (n-(k+min k (n-k))) (ae []))]) (by rw[Ho (n:=n) om_ (Nat.min_le_left _ _) al,List.drop_replicate,Nat.sub_sub];rfl)<|We (m':=n-(k+min k (n-k))) om_ w (hn_ [7,8] U) ⟨k+min k (n-k),⟨by omega,by omega⟩,U,U,U⟩
 simp only[SS]at f;have o:k=n:=by omega
 subst o;refine U0 2 [4] U<|Wd (WD U U ?_);exact⟨a,U,by simp⟩
theorem gX (C:Mem)(n:Nat)(a:n<=1000000):Jog.Fn cx.P 99 [i_ n] C [] λu _g c=>∃b,u=s_ b n n/\c=[.arr u 32 1 n (List.replicate n (ae [48]))]:=by
 refine V7 func99 6 U3 λw0=>U0 1 [0] U<|Wt [(2,3)] U λR d=>Wq [[ae [48]]] U12 λh _ _ e=>V2 U6<|D.call (ES _ _ n [48] e.m_ a) U (.inr dc_) U6 (Sp _) fl_ λi _ j _ f=>C6 1 [2] d U ?_;obtain⟨b,rfl,rfl⟩:=f;refine Wd (WD U U ?_);exact⟨b,U,U⟩
theorem dJ {f:α->List Value}{x:α}(h:l[i]?=some x):(l.map f)[i]?=some (f x):=by rw[Sh,h];rfl
def kK (s:Str):List Value:=[ae s]
def aM (q:Rat):List Value:=[ae (qtx q)]
theorem fx (l:List Rat):l.map aM=(l.map qtx).map kK:=by rw[Th];rfl
def KU {α:Type}(p:α->Bool):List α->Nat->Int
|[],_=>-1
|x::l,k=>if p x then (k:Nat) else KU p l (k+1)
theorem uW {a:Type}{p:a->Bool}:∀{l:List a}{i k:Nat}{x:a},l[i]?=some x->p x=true->(∀y∈l.take i,p y=false)->KU p l k=((k+i:Nat):Int)
|y::l,0,k,x,h,hp,_=>by
  simp only[List.getElem?_cons_zero,S6]at h;subst h;simp[KU,hp]
|y::l,i+1,k,x,h,hp,b=>by
  simp only[T7]at h;have hy:p y=false:=b y al;have:=uW (k:=k+1) h hp (λz c=>b z (by simp[c]));simp only[KU,hy,Tg,TS,this];omega
theorem qL {a:Type}{p:a->Bool}:∀{l:List a}{k:Nat},(∀y∈l,p y=false)->KU p l k=-1
|[],_,_=>rfl
|y::l,k,h=>by
  simp only[KU,h y Sj,Tg,TS];exact qL λz b=>h z (Sv _ b)
theorem EW (p:α->Bool)(l:List α):(KU p l 0=-1/\∀y∈l,p y=false)∨∃(i:Nat)(x:α),KU p l 0=(i:Nat)/\l[i]?=some x/\p x=true/\∀y∈l.take i,p y=false:=by
 by_cases h:∀y∈l,p y=false
 .exact .inl ⟨qL h,h⟩
 right;have d:∀(l:List α),(¬ ∀y∈l,p y=false)->∃(i:Nat)(x:α),l[i]?=some x/\p x=true/\∀y∈l.take i,p y=false:=by
  intro l;induction l with
 |nil=>intro h;exact absurd (λy hy=>(by cases hy)) h
 |cons a l e =>
   intro h;by_cases b:p a=true
   .exact⟨0,a,U,b,by simp⟩
   have c:p a=false:=by simpa using b
   obtain⟨i,x,h1,h2,h3⟩:=e (λh2=>h (λy hy=>by
    rcases Sw.1 hy with rfl|hy
    .exact c
    exact h2 y hy))
   refine⟨i+1,x,by simpa using h1,h2,λy hy=>?_⟩;rw[List.take_succ_cons]at hy;rcases Sw.1 hy with rfl|hy
   .exact c
   exact h3 y hy
 obtain⟨i,x,h1,h2,h3⟩:=d l h;exact⟨i,x,by rw[uW h1 h2 h3,Tw],h1,h2,h3⟩
theorem Hu (C:Mem)(v:Value)(l:List Str)(g:Nat)(d:List Value)(a:Str->Bool)(e:Sl C 1 v (l.map kK))(_A:Jog.Enters cx.P g=true)
  (n:∀x∈l,∀D:Mem,C.le D->Gives cx.P g (ae x::d) D (.bool (a x))) :
  Gives cx.P 91 [v,.func (.func g) #[] ⟨d⟩] C (i_ (KU a l 0)):=by
 obtain⟨o,c0,rfl,p,B,_⟩:=id e;have E:=mx_
 simp only[au]at e p⊢;refine V7 func91 19 U3 λw0=>U0 1 [0,1] U<|U0 3 [0,1,7,8] U<|G.loop (λfr F q r=>∃(i:Nat),(i<=l.length/\∀y∈l.take i,a y=false)/\fr=[(0,[],.slice o l.length c0),(1,[],.func (.func g) #[] ⟨d⟩),(7,[],i_ l.length),(8,[],i_ i)]/\q=[]/\r=l.length-i) (hn_ [0,1,7,8] U) ⟨0,⟨Sm _,by simp⟩,U,U,U⟩ (λfr H I m s t=>?_);obtain⟨i,⟨J,b⟩,rfl,rfl,rfl⟩:=t;refine U0 1 [0,1,7,8,9] U<|G.cd (λf=>?_) λf=>?_
 .have h:i<l.length:=by simpa using f
  obtain⟨x,c⟩:∃x,l[i]?=some x:=⟨l[i],ah h⟩;refine U0 2 [0,1,5,7,8] U<|U1 3 U λR j=>Wf e.m_ U10 om_ (dJ c) fl_ λK u=>V1 u U8<|Wb (n x (aJ c) _ mup) U7<|V5 [0,1,5,7,8,16] j U<|G.cd (λk=>?_) λk=>?_
  .have w:a x=true:=k;exact U0 2 [4] U<|V6 U2<|⟨by rw[uW c w b,Tw],U⟩
  have z:a x=false:=k;refine V3 λR j=>V8 _ U U6<|C6 1 [0,1,7,8] j U<|We (m':=l.length-(i+1)) om_ s (hn_ [0,1,7,8] U) ⟨i+1,⟨by omega,λy hy=>by
   rw[SH,c]at hy;rcases Sx.1 hy with hy|hy
   .exact b y hy
   simp only[TE,SD]at hy;subst hy;exact z⟩,U,U,U⟩
 have h:i=l.length:=by
  have:¬ i<l.length:=by simpa using f
  omega
 exact U0 1 [4] U<|V6 U2<|⟨by rw[h,Ss]at b;rw[qL b],U⟩
theorem zY (C:Mem)(v:Value)(l:List Str)(g:Nat)(b:List Value)(a:Str->Bool)(c:Sl C 1 v (l.map kK))(d:Jog.Enters cx.P g=true)
  (e:∀x∈l,∀D:Mem,C.le D->Gives cx.P g (ae x::b) D (.bool (a x))) :
  Gives cx.P 33 [v,.func (.func g) #[] ⟨b⟩] C (.bool (l.any a)):=by
 refine V7 func33 9 U3 λw0=>U0 1 [0,1] U<|U1 2 U λR f=>Wb (Hu _ v l g b a c.m_ d (λx h D j=>e x h D (Mem.le.trans mup j))) U7<|C6 2 [4] f U<|V6 U2<|⟨?_,U⟩;congr 1;rcases EW a l with⟨h1,h2⟩|⟨i,x,h1,h2,h3,_⟩
 .rw[h1,List.any_eq_false.2 (λy hy=>by rw[h2 y hy];decide)];rfl
 rw[h1,UM.2 ⟨x,aJ h2,h3⟩];exact SB om_
theorem me (C:Mem)(a:Tabs C)(s:Str)(b:s.length<=999998):Gives cx.P 102 [ae s] C (.bool (!aS s)):=by
 refine V7 func102 6 U3 λw0=>U0 1 [0] U<|U1 1 U λR c=>Wb (dB _ a.m_ s b) U7<|C6 2 [2] c U<|V6 U2 ?_;exact⟨by cases aS s <;> rfl,U⟩
def ek (n:Int)(l:List Str):Int:=if (l.length:Int)=n then oc (l.all aS) else 5
theorem oY (C:Mem)(e:Tabs C)(v:Value)(n:Int)(l:List Str)(a:Sl C 1 v (l.map kK))(b:∀s∈l,s.length<=999998):Gives cx.P 135 [v,i_ n] C (i_ (ek n l)):=by
 obtain⟨o,c0,rfl,f,p,_⟩:=id a;have q:=mx_
 simp only[au]at a f⊢;refine V7 func135 13 U3 λw0=>U0 1 [0,1] U<|U0 5 [0,5] U<|G.cd (λh5=>?_) λh5=>?_
 .have g:¬ (l.length:Int)=n:=by simpa using h5
  exact U0 1 [4] U<|V6 U2<|⟨by unfold ek;rw[aF g],U⟩
 have d:(l.length:Int)=n:=by simpa using h5
 refine U1 1 U λR h=>Wb (zY _ _ l _ [] (λs=>!aS s) a.m_ U (λs i D j=>me D (e.mono (Mem.le.trans mup j)) s (b s i))) U7<|C6 1 [10] h U<|G.cd (λc=>?_) λc=>?_
 .have k:l.all aS=false:=by
   obtain⟨s,h1,h2⟩:=UM.1 (show(l.any λs=>!aS s)=true from c);exact UJ.2 ⟨s,h1,by simpa using h2⟩
  exact U0 1 [4] U<|V6 U2<|⟨by unfold ek;rw[aK d,k];rfl,U⟩
 have m:l.all aS=true:=by
  have h1:=List.any_eq_false.1 (show(l.any λs=>!aS s)=false from c);exact SA.2 λs b=>by simpa using h1 s b
 exact U0 1 [4] U<|V6 U2<|⟨by unfold ek;rw[aK d,m];rfl,U⟩
def RowsT (C:Mem)(v:Value)(rows:List (List Str × Str)):Prop:=∃vs:List Value,vs.length=rows.length/\(∀(i:Nat)(w:Value)(r:List Str × Str),vs[i]?=some w->rows[i]?=some r->Sl C 1 w (r.1.map kK))/\Sl C 2 v (List.zipWith (λw (r:List Str × Str)=>[w,ae r.2]) vs rows)
theorem RowsT.mono {C D:Mem}{v:Value}{a:List (List Str × Str)}(h:RowsT C v a)(b:C.le D):RowsT D v a:=by
 obtain⟨vs,h1,h2,h3⟩:=h;exact⟨vs,h1,λi w r c hr=>(h2 i w r c hr).mono b,h3.mono b⟩
theorem RowsT.m_ {C D:Mem}{v:Value}(h:RowsT C v rows)(a:C.le D:=by exact mup):RowsT D v rows:=RowsT.mono h a
theorem pE {w:Value}{r:List Str × Str}(a:vs[i]?=some w)(b:rows[i]?=some r):(List.zipWith (λw (r:List Str × Str)=>[w,ae r.2]) vs rows)[i]?=some [w,ae r.2]:=by
 rw[List.getElem?_zipWith,a,b]
theorem jQ (h:vs.length=rows.length):(List.zipWith (λw (r:List Str × Str)=>[w,ae r.2]) vs rows).length=rows.length:=by simp[h]
def G4 (n:Int)(r:List Str × Str):Int:=if ek n r.1≠0 then ek n r.1 else oc (aS r.2)
def uG (n:Int):List (List Str × Str)->Int
|[]=>0
|r::l=>if G4 n r≠0 then G4 n r else uG n l
def DZ (n:Int)(rows:List (List Str × Str))(obj:List Str):Int:=if n<0∨60<n then 3 else if 300<rows.length then 4 else if ek n obj≠0 then ek n obj else uG n rows
def JB (rows:List (List Str × Str)):Prop:=∀r∈rows,(∀s∈r.1,s.length<=999998)/\r.2.length<=999998
theorem mg (C:Mem)(p:Tabs C)(n:Int)(E F:Value)(a:List (List Str × Str))(c:List Str)(M:RowsT C E a)(q:Sl C 1 F (c.map kK))(H:JB a)(N:∀s∈c,s.length<=999998) :
  Gives cx.P 73 [.agg ⟨[i_ n,E,F]⟩] C (i_ (DZ n a c)):=by
 obtain⟨vs,O,Q,t⟩:=M;obtain⟨S,c0,rfl,T,ae,_⟩:=id t;obtain⟨A1,c1,rfl,V,af,_⟩:=id q;have ag:=mx_
 simp only[jQ O,au]at t q T V⊢;refine V7 func73 48 U3 λw0=>V3 λR b=>Wi U6 λW=>C6 1 [1] b U<|G.freeze 0 U λ_ _ d=>U1 1 U λR b=>V1 (bkT d 1) U8<|V4 3 U<|Wv U6 (λ_=>PtrTo.blockT (Mem.get d mup) _ 1) U3<|V2 U6<|Wy U8<|C6 1 [1,7] b U<|G.cd (λu=>?_) λu=>?_
 .have f:n<0∨60<n:=by
   simp only[Uh,Sr]at u;omega
  exact U0 1 [2] U<|V6 U2<|⟨by unfold DZ;rw[aK f],U⟩
 have f:¬ (n<0∨60<n):=by
  simp only[TY,SS]at u;omega
 refine U1 1 U λR b=>V1 (bkT d 1) U8<|C6 3 [1,16] b U<|G.cd (λv=>?_) λv=>?_
 .have g:300<a.length:=by
   have:=RD v;omega
  exact U0 1 [2] U<|V6 U2<|⟨by unfold DZ;rw[aF f,aK g],U⟩
 have g:¬ 300<a.length:=by
  have:=Si v;omega
 refine U1 1 U λR b=>V1 (bkT d 1) U8<|V2 U6<|V1 (bkT d 1) U8<|Wb (oY _ p.m_ _ n c q.m_ N) U7<|C6 1 [1,3] b U<|U0 2 [1,3,27] U<|G.cd (λx=>?_) λx=>?_
 .have y:ek n c≠0:=by simpa using x
  exact U0 2 [2] U<|V6 U2<|⟨by unfold DZ;rw[aF f,aF g,aK y],U⟩
 have y:¬ ek n c≠0:=by simpa using x
 have z:DZ n a c=uG n a:=by unfold DZ;rw[aF f,aF g,aF y]
 refine U1 1 U λR b=>V1 (bkT d 1) U8<|C6 2 [1,30,31,32] b U<|G.loop (λfr C' X Y=>∃(i:Nat),(i<=a.length/\uG n a=uG n (a.drop i))/\fr=[(1,[],p_ W),(30,[],.slice S a.length c0),(31,[],i_ a.length),(32,[],i_ i)]/\X=[]/\Y=a.length-i) (hn_ [1,30,31,32] U) ⟨0,⟨Sm _,U⟩,U,U,U⟩ (λfr ai aj m _ Z=>?_);obtain⟨i,⟨hi,e⟩,rfl,rfl,rfl⟩:=Z;refine U0 1 [1,30,31,32,33] U<|G.cd (λA=>?_) λA=>?_
 .have h:i<a.length:=by
   have:=RD A;omega
  obtain⟨r,k⟩:∃r,a[i]?=some r:=⟨a[i],ah h⟩;obtain⟨w,I⟩:∃w,vs[i]?=some w:=⟨vs[i]'om_,ah _⟩;have J:=aJ k;have K:=Q i w r I k;obtain⟨Aw,cw,rfl,_⟩:=id K;have aa:a.drop i=r::a.drop (i+1):=SN h |>.trans (by rw[(aT.1 k).2]);rw[aa]at e;simp only[uG]at e;refine V3 λR b=>Wf t.m_ U10 om_ (pE I k) fl_ λak ab=>V1 ab U8<|Wg U5 λb5=>Wa (j:=0) U12<|V5 [1,5,30,31,32] b U<|G.freeze 0 U λ_ _ L=>U1 1 U λR b=>V1 (bkT L 1) U8<|V2 U6<|V1 (bkT d 1) U8<|Wb (oY _ p.m_ _ n r.1 K.m_ (H r J).1) U7<|C6 1 [1,5,6,30,31,32] b U<|U0 2 [1,5,6,30,31,32,42] U<|G.cd (λB=>?_) λB=>?_
  .have l:ek n r.1≠0:=by simpa using B
   have o:G4 n r=ek n r.1:=by unfold G4;rw[aK l]
   exact U0 2 [2] U<|V6 U2<|⟨by rw[z,e,o,aK l],U⟩
  have l:¬ ek n r.1≠0:=by simpa using B
  have o:G4 n r=oc (aS r.2):=by unfold G4;rw[aF l]
  refine U1 1 U λR b=>V1 (bkT L 1) U8<|Wb (me _ p.m_ r.2 (H r J).2) U7<|V5 [1,30,31,32,46] b U<|G.cd (λD=>?_) λD=>?_
  .have ac:aS r.2=false:=by simpa using D
   exact U0 1 [2] U<|V6 U2<|⟨by rw[z,e,o,ac];rfl,U⟩
  have ad:aS r.2=true:=by simpa using D
  refine V3 λR b=>V8 _ U U6<|C6 1 [1,30,31,32] b U<|We (m':=a.length-(i+1)) om_ mup (hn_ [1,30,31,32] U) ⟨i+1,⟨by omega,by rw[e,o,ad];rfl⟩,U,U,U⟩
 have h:i=a.length:=by
  have:=Si A;omega
 exact U0 1 [2] U<|V6 U2<|⟨by rw[z,e,h,Ty];rfl,U⟩
theorem fS {a b:Rat}(c:QB k a)(d:QB m b):QB (k+m) (a*b):=by
 rw[eY];refine gA (Nat.mul_ne_zero a.den_nz b.den_nz) ?_ ?_
 .rw[TF,Uw];exact TL c.1 d.1
 rw[Uw];exact TL c.2 d.2
theorem zZ {a b:Rat}(c:QB k a)(d:QB m b):QB (k+m+1) (a+b):=by
 rw[eZ];have e:B9 ^ (k+m+1)=B9 ^ k*B9 ^ m*B9:=by rw[TB,Uw]
 have f:(a.num*b.den).natAbs<B9 ^ k*B9 ^ m:=by rw[TF,S4];exact TL c.1 d.2
 have g:(b.num*a.den).natAbs<B9 ^ k*B9 ^ m:=by rw[TF,S4,S3];exact TL c.2 d.1
 have h:a.den*b.den<B9 ^ k*B9 ^ m:=TL c.2 d.2;have i:2*(B9 ^ k*B9 ^ m)<=B9 ^ k*B9 ^ m*B9:=by
  rw[S3];exact TJ _ dc_
 refine gA (Nat.mul_ne_zero a.den_nz b.den_nz) ?_ ?_
 .rw[e];have:=UI (a.num*b.den) (b.num*a.den);omega
 rw[e];omega
def wA (rs:List (List Rat × Rat))(ds:List Rat)(j n:Nat):Rat:=Lp.sumN (λk=>ds.getD k 0*(rs.getD k ([],0)).1.getD j 0) n
def By (rs:List (List Rat × Rat))(ds:List Rat)(n:Nat):Rat:=Lp.sumN (λk=>ds.getD k 0*(rs.getD k ([],0)).2) n
def dp (r:List Rat × Rat):List Str × Str:=(r.1.map qtx,qtx r.2)
structure RowsQ (n:Nat)(rs:List (List Rat × Rat)):Prop where
 l:∀r∈rs,r.1.length=n
 q:∀r∈rs,(∀x∈r.1,QB 23 x)/\QB 23 r.2
 m:rs.length<=150
theorem tI {l:List Rat}(h:∀x∈l,QB 23 x):QB 23 (l.getD j 0):=by
 rw[ak];cases e:l[j]? with
|none=>exact⟨by decide,by decide⟩
|some x=>exact h x (aJ e)
theorem AW {n:Nat}{b:List (List Rat × Rat)}{c:List Rat}(d:RowsQ n b)(f:∀x∈c,QB 23 x)(j:Nat):∀i,QB (48*(i+1)) (wA b c j i)
|0=>(show QB 1 (0:Rat) from⟨by decide,by decide⟩).le om_
|i+1=>by
  have h1:=AW d f j i;have h2:QB 23 ((b.getD i ([],0)).1.getD j 0):=by
   refine tI λx a=>?_;rw[ak]at a;cases e:b[i]? with
  |none=>rw[e]at a;simp at a
  |some r=>rw[e]at a;exact(d.q r (aJ e)).1 x a
  exact(zZ h1 (fS (tI (j:=i) f) h2)).le om_
theorem Bx {n:Nat}{a:List (List Rat × Rat)}{b:List Rat}(c:RowsQ n a)(d:∀x∈b,QB 23 x):∀i,QB (48*(i+1)) (By a b i)
|0=>(show QB 1 (0:Rat) from⟨by decide,by decide⟩).le om_
|i+1=>by
  have h1:=Bx c d i;have h2:QB 23 (a.getD i ([],0)).2:=by
   rw[ak];cases e:a[i]? with
  |none=>exact⟨by decide,by decide⟩
  |some r=>exact(c.q r (aJ e)).2
  exact(zZ h1 (fS (tI (j:=i) d) h2)).le om_
def xg (m:Nat)(d:List Str)(ds:List Rat):Int:=if ek m d≠0 then ek m d else if ds.any (λq=>decide (q<0)) then 3 else 0
theorem oW (q:Rat):decide (er q.num<0)=decide (q<0):=by
 have h:q.num<0 ↔ q<0:=by rw[Rat.lt_iff];simp
 rw[S8];unfold er;by_cases h1:q.num<0
 .rw[aK h1];exact⟨λ_=>h.1 h1,λ_=>by decide⟩
 rw[aF h1];exact⟨λh2=>by split at h2 <;> exact absurd h2 dc_,λh2=>absurd (h.2 h2) h1⟩
theorem OB (C:Mem)(q:Rat)(a:(qtx q).length<=1000000):Gives cx.P 155 [ae (qtx q)] C (.bool (decide (q<0))):=by
 exact V7 func155 6 U3 λw0=>U0 1 [0] U<|U1 1 U λR b=>Wb (fD _ q a) U7<|C6 2 [2] b U<|V6 U2<|⟨by rw[<- oW],U⟩
theorem RX (h:QB 23 q):(qtx q).length<=1000000:=Su (aV h dc_) dc_
open Classical in
theorem Jx (C:Mem)(v:Value)(a:List Rat)(b:Sl C 1 v (a.map aM))(c:∀x∈a,QB 23 x) :
  Gives cx.P 33 [v,.func (.func 155) #[] #[]] C (.bool (a.any λq=>decide (q<0))):=by
 have h:=zY C v (a.map qtx) 155 [] (λs=>decide (∃q:Rat,s=qtx q/\q<0)) (by rw[<- fx];exact b) rfl (λs hs D f=>by
  obtain⟨q,d,rfl⟩:=Sn.1 hs;have e:decide (∃p:Rat,qtx q=qtx p/\p<0)=decide (q<0):=by
   rw[S8];exact⟨λ⟨p,h1,h2⟩=>by rw[gx h1];exact h2,λh2=>⟨q,U,h2⟩⟩
  rw[e];exact OB D q (RX (c q d)))
 have e:(a.map qtx).any (λs=>decide (∃q:Rat,s=qtx q/\q<0))=a.any λq=>decide (q<0):=by
  rw[List.any_map];congr 1;funext q;show decide (∃p:Rat,qtx q=qtx p/\p<0)=decide (q<0);rw[S8];exact⟨λ⟨p,h1,h2⟩=>by rw[gx h1];exact h2,λh2=>⟨q,U,h2⟩⟩
 rw[e]at h;exact h
def wz (n:Nat)(rs:List (List Rat × Rat))(ds:List Rat)(i j:Nat):List Rat:=(List.range n).map λj2=>if j2<j then wA rs ds j2 (i+1) else wA rs ds j2 i
theorem oa (b:Bool):oc b=0/\b=true∨oc b=2/\b=false:=by cases b <;> simp[oc]
theorem eL (n:Nat)(a:List (List Rat × Rat))(b:List Rat)(i j:Nat):(wz n a b i j).length=n:=by simp[wz]
theorem li {a:Nat}(h:a<n):(wz n rs ds i j)[a]?=some (if a<j then wA rs ds a (i+1) else wA rs ds a i):=by
 unfold wz;rw[Sh,SU h];rfl
theorem K9 (h:j<n):(wz n rs ds i j).set j (wA rs ds j (i+1))=wz n rs ds i (j+1):=by
 refine List.ext_getElem? λk=>?_;rw[List.getElem?_set,eL];by_cases a:k<n
 .rw[li a,li a];by_cases e:j=k
  .subst e;rw[aK rfl,aK a,aK om_]
  rw[aF e];by_cases h1:k<j
  .rw[aK h1,aK om_]
  rw[aF h1,aF om_]
 rw[Sq (by rw[eL];omega),Sq (by rw[eL];omega)];split
 .exact absurd om_ a
 rfl
theorem HQ (n:Nat)(b:List (List Rat × Rat))(c:List Rat)(i:Nat):wz n b c i n=wz n b c (i+1) 0:=by
 refine List.ext_getElem? λk=>?_;by_cases a:k<n
 .rw[li a,li a,aK a,aF om_]
 rw[Sq (by rw[eL];omega),Sq (by rw[eL];omega)]
theorem La (n:Nat)(b:List (List Rat × Rat))(c:List Rat):List.replicate n (ae [48])=((wz n b c 0 0).map aM).flatten:=by
 have e:wz n b c 0 0=List.replicate n 0:=by
  refine List.ext_getElem? λk=>?_;by_cases a:k<n
  .rw[li a,TC,aK a,aF om_];rfl
  rw[Sq (by rw[eL];omega),TC,aF a]
 rw[e,US,show aM 0=[ae [48]] by unfold aM;rw[qtx_zero]];clear e;induction n with
|zero=>rfl
|succ n d=>rw[Tm,Tm,Tu,<- d];rfl
theorem bE:∀q:Rat,(aM q).length=1:=λ_=>rfl
theorem KR (C:Mem)(p:Tabs C)(n:Nat)(rv ov dv:Value)(a:List (List Rat × Rat))(d:List Str)(b:List Rat)(K:RowsT C rv (a.map dp))(e:RowsQ n a)(hn:n<=1000)(z:Sl C 1 dv (d.map kK))(an:∀s∈d,s.length<=999998)
  (ao:d.all aS=true->d=b.map qtx/\∀x∈b,QB 23 x) :
  Pur cx.P 93 [.agg ⟨[i_ n,rv,ov]⟩,.agg ⟨[dv]⟩] C λu D=>∃fv bs,u=.tuple #[fv,ae bs,i_ (xg a.length d b)]/\(xg a.length d b=0->Sl D 1 fv ((wz n a b a.length 0).map aM)/\bs=qtx (By a b a.length)):=by
 obtain⟨vs,ac,ap,A⟩:=K;obtain⟨A0,c0,rfl,aq,aQ,_⟩:=id A;obtain⟨L,M,rfl,ar,aR,_⟩:=id z;have aT:=mx_
 have aU:=e.m;simp only[jQ ac,au]at A z aq ar ac⊢;refine V7 func93 72 U3 λw0=>V3 λR c=>Wi U6 λb2=>Wi U6 λb3=>C6 3 [2,3] c U<|G.freeze 1 U λ_ _ B=>G.freeze 0 U λ_ _ E=>U1 1 U λR c=>V1 (bkT E 1) U8<|V2 U6<|V1 (bkT B 1) U8<|V2 U6<|Wb (oY _ p.m_ _ (a.length:Nat) d z.m_ an) U7<|C6 1 [2,3,7] c U<|U0 2 [2,3,7,19] U<|G.cd (λN=>?_) λN=>?_
 .have o:ek (a.length:Nat) d≠0:=by simpa using N
  have f:xg a.length d b=ek (a.length:Nat) d:=by unfold xg;rw[aK o]
  refine U0 4 [4,5,6] U<|Wd (G.dropAll (WP U4 ?_));exact⟨U,.slice none 0 0,[],by rw[f];rfl,λh=>absurd (f.symm.trans h) o⟩
 have o:¬ ek (a.length:Nat) d≠0:=by simpa using N
 have g:ek (a.length:Nat) d=0:=by simpa using o
 have O:d.length=a.length:=by
  unfold ek at g;split at g
  .omega
  cases g
 have av:d.all aS=true:=by
  unfold ek at g;rw[aK om_]at g;rcases oa (d.all aS) with⟨h1,h2⟩|⟨h1,h2⟩
  .exact h2
  rw[h1]at g;cases g
 obtain⟨ad,F⟩:=ao av;have aV:b.length=a.length:=by rw[<- O,ad,au]
 have af:Sl C 1 (.slice L a.length M) (b.map aM):=by rw[fx,<- ad,<- O];exact z
 rw[O]at E;refine U1 1 U λR c=>V1 (bkT E 1) U8<|Wb (Jx _ _ b af.m_ F) U7<|V5 [2,3,23] c U<|G.cd (λQ=>?_) λQ=>?_
 .have f:xg a.length d b=3:=by unfold xg;rw[aF o,aK Q]
  refine U0 3 [4,5,6] U<|Wd (G.dropAll (WP U4 ?_));exact⟨U,.slice none 0 0,[],by rw[f];rfl,λh=>absurd (f.symm.trans h) dc_⟩
 have f:xg a.length d b=0:=by unfold xg;rw[aF o,aF (by rw[Q];decide)]
 refine Wt [(2,3)] U λR c=>V2 U6<|V1 (bkT B 1) U8<|D.call (gX _ n om_) U (.inr dc_) U6 (Sp _) fl_ (λaW _ aX _ aw=>?_);obtain⟨bz,rfl,rfl⟩:=aw;refine C6 2 [2,3,4,5] c U<|U1 1 U λR c=>V1 (bkT E 1) U8<|C6 2 [2,4,5,28,29,30] c U<|Wk (L':=[.arr (s_ bz n n) 32 1 n ((wz n a b 0 0).map aM).flatten]) (by rw[La n a b];rfl)<|G.loop (λfr C' t S=>∃(i:Nat)(T:Str),(i<=a.length/\T=qtx (By a b i))/\fr=[(2,[],p_ b2),(4,[],s_ bz n n),(5,[],ae T),(28,[],.slice L a.length M),(29,[],i_ a.length),(30,[],i_ i)]/\t=[.arr (s_ bz n n) 32 1 n ((wz n a b i 0).map aM).flatten]/\S=a.length-i) (hn_ [2,4,5,28,29,30] U) ⟨0,[48],⟨Sm _,qtx_zero.symm⟩,U,U,U⟩ (λfr aY aZ m _ V=>?_);obtain⟨i,T,⟨hi,ai⟩,rfl,rfl,rfl⟩:=V;refine U0 1 [2,4,5,28,29,30,31] U<|G.cd (λW=>?_) λW=>?_
 .subst ai;have X:i<a.length:=by
   have:=RD W;omega
  obtain⟨r,Y⟩:∃r,a[i]?=some r:=⟨a[i],ah X⟩;have Z:(a.map dp)[i]?=some (dp r):=by rw[Sh,Y];rfl
  obtain⟨w,H⟩:∃w,vs[i]?=some w:=⟨vs[i]'om_,ah _⟩;obtain⟨k,hk⟩:∃k,b[i]?=some k:=⟨b[i]'om_,ah om_⟩;have I:=aJ Y;have ax:=ap i w _ H Z;have aa:Sl C 1 w (r.1.map aM):=by rw[fx];exact ax
  obtain⟨Aw,cw,rfl,_⟩:=id aa;have ay:=e.l r I;rw[au,ay]at aa H;have J:QB 23 k:=F k (aJ hk);have aj:b.getD i 0=k:=by rw[ak,hk];rfl
  have al:a.getD i ([],0)=r:=by rw[ak,Y];rfl
  have az:=Bx e F i;have aA:By a b (i+1)=By a b i+k*r.2:=by
   unfold By;simp only[Lp.sumN];rw[aj,al]
  refine U1 1 U λR c=>Wf af.m_ U10 om_ (dJ hk) fl_ λa0 aB=>V1 aB U8<|C6 2 [2,4,5,8,9,28,29,30] c U<|U1 3 U λR c=>V1 (bkT B 1) U8<|V2 U6<|Wf A.m_ U10 om_ (pE H Z) fl_ λa1 aC=>W5 aC U10 fl_ λa2 aD=>V1 aD U8<|Wc (cX _ p.m_ k r.2 23 dc_ dc_ J (e.q r I).2) U7 fl_<|Wc (fQ _ p.m_ (By a b i) (k*r.2) (48*(i+1)) om_ om_ az ((fS J (e.q r I).2).le om_)) U7 fl_<|C6 1 [2,4,5,8,9,28,29,30] c U ?_;rw[<- aA];refine U1 1 U λR c=>V1 (bkT B 1) U8<|V2 U6<|Wf A.m_ U10 om_ (pE H Z) fl_ λa3 aE=>W5 aE U10 fl_ λa4 aG=>V1 aG U8<|C6 2 [2,4,5,9,28,29,30,50,51,52] c U<|G.loop (λfr C' t S=>∃(j:Nat),(j<=n)/\fr=[(2,[],p_ b2),(4,[],s_ bz n n),(5,[],ae (qtx (By a b (i+1)))),(9,[],ae (qtx k)),(28,[],.slice L a.length M),(29,[],i_ a.length),(30,[],i_ i),(50,[],.slice Aw n cw),(51,[],i_ n),(52,[],i_ j)]/\t=[.arr (s_ bz n n) 32 1 n ((wz n a b i j).map aM).flatten]/\S=n-j) (hn_ [2,4,5,9,28,29,30,50,51,52] U) ⟨0,Sm _,U,U,U⟩ (λfr a5 a6 m _ V=>?_);obtain⟨j,hj,rfl,rfl,rfl⟩:=V;refine U0 1 [2,4,5,9,28,29,30,50,51,52,53] U<|G.cd (λab=>?_) λab=>?_
  .have v:j<n:=by
    have:=RD ab;omega
   obtain⟨x,hx⟩:∃x,r.1[j]?=some x:=⟨r.1[j]'om_,ah om_⟩;have am:QB 23 x:=(e.q r I).1 x (aJ hx);have aH:r.1.getD j 0=x:=by rw[ak,hx];rfl
   have aI:=AW e F j i;have aL:wA a b j (i+1)=wA a b j i+k*x:=by
    unfold wA;simp only[Lp.sumN];rw[aj,al,aH]
   have aN:(wz n a b i j)[j]?=some (wA a b j i):=by rw[li v,aF om_]
   refine U1 1 U λR c=>Wf aa.m_ U10 om_ (dJ hx) fl_ λa7 aO=>V1 aO U8<|C6 2 [2,4,5,9,10,11,28,29,30,50,51,52] c U<|Wn [0,1,2,3,4,5,6,7,8,9,10,11] [(8,1),(9,1)] U kr_ λR hB c=>V4 4 U<|Ww (j*1) U10 w_ U2<|WJ ag U6 (λ_=>(by rw[dx bE aN];rfl)) U2<|V4 2 U<|Wo (λ_=>(cX _ p.m_ k x 23 dc_ dc_ J am)) U9<|Wo (λ_=>(fQ _ p.m_ (wA a b j i) (k*x) (48*(i+1)) om_ om_ aI ((fS J am).le om_))) U9<|Ww (j*1) U10 w_ U2<|WA (j:=0) U11 (by show j*1+1<=_;rw[bM bE,eL];omega)<|V5 [2,4,5,9,28,29,30,50,51,52] c U<|V3 λR c=>V8 _ U U6<|C6 1 [2,4,5,9,28,29,30,50,51,52] c U<|Wk (L':=[.arr (s_ bz n n) 32 1 n ((wz n a b i (j+1)).map aM).flatten]) (by rw[<- K9 v,aL,<- bI bE _ (by rw[eL];exact v)];rfl)<|We (m':=n-(j+1)) om_ mup (hn_ [2,4,5,9,28,29,30,50,51,52] U) ⟨j+1,om_,U,U,U⟩
  have v:j=n:=by
   have:=Si ab;omega
  refine V3 λR c=>V8 _ U U6<|C6 1 [2,4,5,28,29,30] c U ?_;rw[v,HQ];refine We (m':=a.length-(i+1)) om_ mup (hn_ [2,4,5,28,29,30] U) ⟨i+1,_,⟨by omega,U⟩,U,U,U⟩
 subst ai;have X:i=a.length:=by
  have:=Si W;omega
 subst X;refine U0 5 [4,5,6] U<|G.freezeArr 0 ((wz n a b a.length 0).map aM) U2 (by intro r K;obtain⟨y,_,rfl⟩:=Sn.1 K;rfl) (by rw[au,eL]) λCg hg aP=>Wd (G.dropAll (WP U4 ?_));exact⟨U,_,_,by rw[f],λ_=>⟨aP,U⟩⟩
end Go.Proofs.YtfjcldheldflbaaGreatDoor
