import Derived.Test.YtfjcldheldflbaaGreatDoorG10
import Derived.Test.YtfjcldheldflbaaGreatDoorCards
import Derived.Test.YtfjcldheldflbaaGreatDoorTie
import Derived.Stop.LaidErr
import Derived.Deep.Strs
set_option maxHeartbeats 4000000
namespace Go.Proofs.YtfjcldheldflbaaGreatDoor
open Go.Proofs.Tryz
open Go Go.Jog
set_option maxRecDepth 100000
variable {i:Nat}{n:Int}{q:Rat}{s u x y:Str}{z:Int}
def sqP:List (Int × Int):=[(0,0),(4,0),(4,4),(0,4)]
def shP:Nat->List (Int × Int)
|0=>sqP
|1=>sqP
|2=>sqP++[(2,1)]
|3=>[(0,0),(6,0),(0,4)]
|4=>[(0,0),(2,0),(4,0),(0,2),(2,2),(4,2)]
|5=>[(1,4),(5,3),(4,0),(0,0)]
|6=>sqP++[(2,0)]
|_=>[(0,0),(6,0),(0,6),(2,2)]
def shT:Nat->List Tri
|0=>[(0,1,2),(0,2,3)]
|1=>[(0,1,3),(1,2,3)]
|2=>[(0,1,4),(1,2,4),(2,3,4),(3,0,4)]
|3=>[(2,0,1)]
|4=>[(0,1,4),(0,4,3),(1,2,5),(1,5,4)]
|5=>[(3,2,1),(3,1,0)]
|6=>[(0,4,3),(4,2,3),(4,1,2)]
|_=>[(0,1,3),(1,2,3),(2,0,3)]
def Sz (p:Int × Int):List Value:=[.int .i64 p.1,.int .i64 p.2]
def ShIn (u:Value)(D:Mem)(m:Nat):Prop:=∃pv tv,u=.tuple #[pv,tv]/\Sl D 2 pv ((shP m).map Sz)/\Sl D 3 tv ((shT m).map jJ)
theorem EN (C:Mem)(a:Nat)(_H:a<256):Pur cx.P 115 [.int .u8 a] C λu D=>ShIn u D (a % 8):=by
 have I:a % 8<8:=Ts _ dc_;obtain⟨m,hm⟩:∃m,a % 8=m:=⟨_,rfl⟩;refine Wy func115 86 U3 λw0=>U0 2 [0] U<|Wu λR b=>WL ([i_ 0,i_ 0]) U8<|WL ([i_ 4,i_ 0]) U8<|WL ([i_ 4,i_ 4]) U8<|WL ([i_ 0,i_ 4]) U8<|Xm [[i_ 0,i_ 0],[i_ 4,i_ 0],[i_ 4,i_ 4],[i_ 0,i_ 4]] U12 fl_ λJ _ _ d=>C6 1 [0,4] b U<|U1 1 U λR b=>Xg (a) (8) U6 om_ U2<|Ww [4,11] b U<|U0 2 [4,11,12] U<|G.cd (λf=>?_) λf=>?_
 .have c:a % 8=0:=by
   have:=ef f;omega
  refine U1 1 U λR b=>WL ([i_ 0,i_ 1,i_ 2]) U8<|WL ([i_ 0,i_ 2,i_ 3]) U8<|WP [[i_ 0,i_ 1,i_ 2],[i_ 0,i_ 2,i_ 3]] U12 λK _ _ n=>C6 2 [2,3] b U<|WE (G.dropAll (WS U3 ?_));exact⟨U,by rw[c];exact⟨_,_,U,d.mono mup,n.mono mup⟩⟩
 have L:a % 8≠0:=by
  intro e;rw[e]at f;exact absurd f dc_
 refine U0 2 [4,11,18] U<|G.cd (λg=>?_) λg=>?_
 .have c:a % 8=1:=by
   have:=ef g;omega
  refine U1 1 U λR b=>WL ([i_ 0,i_ 1,i_ 3]) U8<|WL ([i_ 1,i_ 2,i_ 3]) U8<|WP [[i_ 0,i_ 1,i_ 3],[i_ 1,i_ 2,i_ 3]] U12 λM _ _ o=>C6 2 [2,3] b U<|WE (G.dropAll (WS U3 ?_));exact⟨U,by rw[c];exact⟨_,_,U,d.mono mup,o.mono mup⟩⟩
 have N:a % 8≠1:=by
  intro e;rw[e]at g;exact absurd g dc_
 refine U0 2 [4,11,24] U<|G.cd (λh=>?_) λh=>?_
 .have c:a % 8=2:=by
   have:=ef h;omega
  refine U1 1 U λR b=>WL ([i_ 2,i_ 1]) U8<|WP [[i_ 2,i_ 1]] U12 λO _ _ p=>Yo U U U U U U U U U U d.m_ p.m_ (.inr dc_) (by simp only[S5,Tp,maxLen];omega) dc_ fl_ λQ _ _ q=>WL ([i_ 0,i_ 1,i_ 4]) U8<|WL ([i_ 1,i_ 2,i_ 4]) U8<|WL ([i_ 2,i_ 3,i_ 4]) U8<|WL ([i_ 3,i_ 0,i_ 4]) U8<|WP [[i_ 0,i_ 1,i_ 4],[i_ 1,i_ 2,i_ 4],[i_ 2,i_ 3,i_ 4],[i_ 3,i_ 0,i_ 4]] U12 λS _ _ r=>C6 2 [2,3] b U<|WE (G.dropAll (WS U3 ?_));exact⟨U,by rw[c];exact⟨_,_,U,q.mono mup,r.mono mup⟩⟩
 have T:a % 8≠2:=by
  intro e;rw[e]at h;exact absurd h dc_
 refine U0 2 [4,11,35] U<|G.cd (λi=>?_) λi=>?_
 .have c:a % 8=3:=by
   have:=ef i;omega
  refine Wu λR b=>WL ([i_ 0,i_ 0]) U8<|WL ([i_ 6,i_ 0]) U8<|WL ([i_ 0,i_ 4]) U8<|WP [[i_ 0,i_ 0],[i_ 6,i_ 0],[i_ 0,i_ 4]] U12 λV _ _ s=>WL ([i_ 2,i_ 0,i_ 1]) U8<|WP [[i_ 2,i_ 0,i_ 1]] U12 λW _ _ t=>C6 2 [2,3] b U<|WE (G.dropAll (WS U3 ?_));exact⟨U,by rw[c];exact⟨_,_,U,s.mono mup,t.mono mup⟩⟩
 have X:a % 8≠3:=by
  intro e;rw[e]at i;exact absurd i dc_
 refine U0 2 [4,11,43] U<|G.cd (λj=>?_) λj=>?_
 .have c:a % 8=4:=by
   have:=ef j;omega
  refine Wu λR b=>WL ([i_ 0,i_ 0]) U8<|WL ([i_ 2,i_ 0]) U8<|WL ([i_ 4,i_ 0]) U8<|WL ([i_ 0,i_ 2]) U8<|WL ([i_ 2,i_ 2]) U8<|WL ([i_ 4,i_ 2]) U8<|WP [[i_ 0,i_ 0],[i_ 2,i_ 0],[i_ 4,i_ 0],[i_ 0,i_ 2],[i_ 2,i_ 2],[i_ 4,i_ 2]] U12 λY _ _ v=>WL ([i_ 0,i_ 1,i_ 4]) U8<|WL ([i_ 0,i_ 4,i_ 3]) U8<|WL ([i_ 1,i_ 2,i_ 5]) U8<|WL ([i_ 1,i_ 5,i_ 4]) U8<|WP [[i_ 0,i_ 1,i_ 4],[i_ 0,i_ 4,i_ 3],[i_ 1,i_ 2,i_ 5],[i_ 1,i_ 5,i_ 4]] U12 λZ _ _ w=>C6 2 [2,3] b U<|WE (G.dropAll (WS U3 ?_));exact⟨U,by rw[c];exact⟨_,_,U,v.mono mup,w.mono mup⟩⟩
 have aa:a % 8≠4:=by
  intro e;rw[e]at j;exact absurd j dc_
 refine U0 2 [4,11,57] U<|G.cd (λk=>?_) λk=>?_
 .have c:a % 8=5:=by
   have:=ef k;omega
  refine Wu λR b=>WL ([i_ 1,i_ 4]) U8<|WL ([i_ 5,i_ 3]) U8<|WL ([i_ 4,i_ 0]) U8<|WL ([i_ 0,i_ 0]) U8<|WP [[i_ 1,i_ 4],[i_ 5,i_ 3],[i_ 4,i_ 0],[i_ 0,i_ 0]] U12 λab _ _ x=>WL ([i_ 3,i_ 2,i_ 1]) U8<|WL ([i_ 3,i_ 1,i_ 0]) U8<|WP [[i_ 3,i_ 2,i_ 1],[i_ 3,i_ 1,i_ 0]] U12 λac _ _ y=>C6 2 [2,3] b U<|WE (G.dropAll (WS U3 ?_));exact⟨U,by rw[c];exact⟨_,_,U,x.mono mup,y.mono mup⟩⟩
 have ad:a % 8≠5:=by
  intro e;rw[e]at k;exact absurd k dc_
 refine U0 2 [4,67] U<|G.cd (λl=>?_) λl=>?_
 .have c:a % 8=6:=by
   have:=ef l;omega
  refine U1 1 U λR b=>WL ([i_ 2,i_ 0]) U8<|WP [[i_ 2,i_ 0]] U12 λae _ _ z=>Yo U U U U U U U U U U d.m_ z.m_ (.inr dc_) (by simp only[S5,Tp,maxLen];omega) dc_ fl_ λaf _ _ A=>WL ([i_ 0,i_ 4,i_ 3]) U8<|WL ([i_ 4,i_ 2,i_ 3]) U8<|WL ([i_ 4,i_ 1,i_ 2]) U8<|WP [[i_ 0,i_ 4,i_ 3],[i_ 4,i_ 2,i_ 3],[i_ 4,i_ 1,i_ 2]] U12 λag _ _ B=>C6 2 [2,3] b U<|WE (G.dropAll (WS U3 ?_));exact⟨U,by rw[c];exact⟨_,_,U,A.mono mup,B.mono mup⟩⟩
 have ah:a % 8≠6:=by
  intro e;rw[e]at l;exact absurd l dc_
 refine Wu λR b=>WL ([i_ 0,i_ 0]) U8<|WL ([i_ 6,i_ 0]) U8<|WL ([i_ 0,i_ 6]) U8<|WL ([i_ 2,i_ 2]) U8<|WP [[i_ 0,i_ 0],[i_ 6,i_ 0],[i_ 0,i_ 6],[i_ 2,i_ 2]] U12 λai _ _ E=>WL ([i_ 0,i_ 1,i_ 3]) U8<|WL ([i_ 1,i_ 2,i_ 3]) U8<|WL ([i_ 2,i_ 0,i_ 3]) U8<|WP [[i_ 0,i_ 1,i_ 3],[i_ 1,i_ 2,i_ 3],[i_ 2,i_ 0,i_ 3]] U12 λaj _ _ F=>C6 2 [2,3] b U<|WE (G.dropAll (WS U3 ?_));exact⟨U,by rw[show a % 8=7 by omega];exact⟨_,_,U,E.mono mup,F.mono mup⟩⟩
theorem Gi (a:-128<=n)(b:n<128):IntKind.i8.wrap n=n:=by
 simp[IntKind.wrap,IntKind.bits,IntKind.signed];omega
theorem MW:∀m:Nat,∀p∈shP m,0<=p.1/\p.1<=6/\0<=p.2/\p.2<=6
|0=>by decide
|1=>by decide
|2=>by decide
|3=>by decide
|4=>by decide
|5=>by decide
|6=>by decide
|_+7=>by
  show ∀p∈([(0,0),(6,0),(0,6),(2,2)]:List (Int × Int)),0<=p.1/\p.1<=6/\0<=p.2/\p.2<=6;decide
theorem GW:∀m:Nat,(shP m).length<=6
|0=>by decide
|1=>by decide
|2=>by decide
|3=>by decide
|4=>by decide
|5=>by decide
|6=>by decide
|_+7=>by
  show([(0,0),(6,0),(0,6),(2,2)]:List (Int × Int)).length<=6;decide
def cI (m:Nat)(a b:Int)(h:Bool):List Pt:=(shP m).map λp=>dN a b h p.1 p.2 1
theorem iy (m:Nat)(a b:Int)(h:Bool):(cI m a b h).length<=6:=by rw[cI,ar];exact GW m
theorem og {w:Int}(c:w≠0)(a:z.natAbs<1000000000)(b:w.natAbs<1000000000):QB 1 (kV z w):=by
 unfold kV;refine gA om_ ?_ ?_
 .show _<B9 ^ 1;split
  .rw[VL];exact a
  exact a
 exact b
theorem Di {a b:Int}{h:Bool}{x y:Int}(g:0<n)(i:n<=4)(j:-128<=x/\x<=127)(k:-128<=y/\y<=127):QP 1 (dN a b h x y n):=by
 have c:=zQ a;have d:=zQ b;have hh:eg h=1∨eg h=2:=by cases h <;> simp[eg]
 have f:∀z:Int, -8<z->z<8->-32<z*n/\z*n<32:=λz h1 h2=>by
  rcases(by omega:n=1∨n=2∨n=3∨n=4) with e|e|e|e <;> subst e <;> omega
 have l:=f _ c.1 c.2;have m:=f _ d.1 d.2;have hd:0<eg h*n/\eg h*n<=8:=by rcases hh with e|e <;> rw[e] <;> omega
 exact⟨og om_ om_ om_,og om_ om_ om_⟩
theorem yv (C:Mem)(B:Tabs C)(d:Nat)(a b:Int)(h:Bool)(E:d<256):Pur cx.P 57 [MV d a b h] C λu D=>MeshIn D u (cI (d % 8) a b h) (shT (d % 8)):=by
 have F:=MW (d % 8);have ab:=GW (d % 8);refine Wy func57 42 U3 λw0=>Wu λR e=>WH U6 λH=>WI U5 λf=>Ww [1,2] e U<|G.freeze 1 U λ_ _ t=>U1 1 U λR e=>Ws (bkT t 1) U8<|WY (EN _ d E) U7 (λac _ _ I=>?_);obtain⟨pv,tv,rfl,g,n⟩:=I;obtain⟨J,K,rfl,L,ad,_⟩:=id g;obtain⟨At,k,rfl,ae,af,_⟩:=id n;simp only[ar]at g n L⊢;refine C6 5 [1,2,3,4] e U<|U1 1 U λR e=>WL [.slice none 0 0,.slice At (shT (d % 8)).length k] U8<|WI U5 λl=>WB (j:=0) U12<|Ww [1,2,3,5] e U<|U0 1 [1,2,3,5,6] U<|G.nilArr 34 2<|G.perm (L':=[.obj l (.cells ⟨[.slice none 0 0,.slice At (shT (d % 8)).length k]⟩ 39 (0,0)),.arr (.slice none 0 0) 34 2 0 [],.obj f (.cells ⟨[.slice none 0 0,.slice none 0 0]⟩ 39 (0,0))]) (List.Perm.swap _ _ _)<|G.loop (λfr C' o M=>∃(i:Nat)(w:Value),(i<=(shP (d % 8)).length)/\fr=[(1,[],p_ H),(2,[],p_ f),(3,[],.slice J (shP (d % 8)).length K),(5,[],p_ l),(6,[],i_ i)]/\o=[.obj l (.cells ⟨[w,.slice At (shT (d % 8)).length k]⟩ 39 (0,0)),.arr w 34 2 ((cI (d % 8) a b h).take i).length (((cI (d % 8) a b h).take i).map gM).flatten,.obj f (.cells ⟨[.slice none 0 0,.slice none 0 0]⟩ 39 (0,0))]/\M=(shP (d % 8)).length-i) (hn_ [1,2,3,5,6] U) ⟨0,.slice none 0 0,SM _,U,U,U⟩ (λfr ag ai m _ N=>?_);obtain⟨i,w,hi,rfl,rfl,rfl⟩:=N;refine U0 4 [1,2,3,5,6,18] U<|G.cd (λq=>?_) λq=>?_
 .have s:i<(shP (d % 8)).length:=by
   have:=aT q;omega
  obtain⟨p,hp⟩:∃p,(shP (d % 8))[i]?=some p:=⟨(shP (d % 8))[i],aj s⟩;obtain⟨ak,al,am,an⟩:=F p (aK hp);have O:(cI (d % 8) a b h)[i]?=some (dN a b h p.1 p.2 1):=by unfold cI;rw[SI,hp];rfl
  have Q:(cI (d % 8) a b h).take (i+1)=(cI (d % 8) a b h).take i++[dN a b h p.1 p.2 1]:=by rw[S9,O];rfl
  have ao:((cI (d % 8) a b h).take i).length<=6:=by rw[S2];have:=iy (d % 8) a b h;omega
  refine WM [0,1,2,3,4,5,6,7,8,9,10,11,12,13,14,15,16,17,18,19,20] [(16,1),(8,0),(14,0)] U kr_ λR hB e=>Wt U6<|WA ah U9<|Ws (bkT t 4) U8<|Wv 2 U<|WG g.m_ U10 om_ (cM hp) fl_ λap S=>X2 U9 (λ_=>S) (λ_=>⟨by omega,om_⟩) fl_ U (λaq T=>?_);have V:=T trivial;refine Ws V U8<|Xw (c:=p.1) U8 (Gi om_ om_) U2<|Wv 2 U<|WG g.m_ U10 om_ (cM hp) fl_ λau W=>X2 U9 (λ_=>W) (λ_=>⟨by omega,om_⟩) fl_ U (λav X=>?_);have Y:=X trivial;refine Ws Y U8<|Xw (c:=p.2) U8 (Gi om_ om_) U2<|WL [.int .i8 p.1,.int .i8 p.2] U8<|WN (λ_=>(Dj _ B.m_ d a b h p.1 p.2 1 dc_ dc_ ⟨by omega,by omega⟩ ⟨by omega,by omega⟩)) U9<|WP [gM (dN a b h p.1 p.2 1)] U12 λaw _ _ Z=>W0 (j:=1) U11 Z.m_ U ay (by simp only[SN];omega) fl_ λv x z=>Wt U6<|WB (j:=1) U12<|Ww [1,2,3,5,6] e U<|U1 1 U λR e=>Wz _ U U6<|C6 1 [1,2,3,5,6] e U<|WK (L':=[.obj l (.cells ⟨[.slice v x z,.slice At (shT (d % 8)).length k]⟩ 39 (0,0)),.arr (.slice v x z) 34 2 ((cI (d % 8) a b h).take (i+1)).length (((cI (d % 8) a b h).take (i+1)).map gM).flatten,.obj f (.cells ⟨[.slice none 0 0,.slice none 0 0]⟩ 39 (0,0))]) (by rw[Q,Tm,Ta,SP];rfl)<|WF (m':=(shP (d % 8)).length-(i+1)) om_ mup (hn_ [1,2,3,5,6] U) ⟨i+1,_,om_,U,U,U⟩
 have s:i=(shP (d % 8)).length:=by
  have:=SJ q;omega
 have aa:(cI (d % 8) a b h).take i=cI (d % 8) a b h:=Td (by rw[s,cI,ar];exact SH _);rw[aa];refine G.freezeArr 1 ((cI (d % 8) a b h).map gM) rfl rfl (by intro r hr;obtain⟨y,_,rfl⟩:=SL.1 hr;rfl) (by rw[ar]) (λCg hg A=>?_);obtain⟨Aw,cw,rfl,_⟩:=id A;refine Wu λR e=>WA ah U9<|WB (j:=1) U12<|Ww [2] e U<|WE (Xi ah U4 ?_);exact⟨U,_,_,U,A,n.mono mup⟩
structure Hts where
 h0:Int
 h1:Int
 h2:Int
 h3:Int
 h4:Int
 h5:Int
 half:Bool
def J1 (H:Hts):List Int:=[H.h0,H.h1,H.h2,H.h3,H.h4,H.h5]
def Rp (H:Hts):List Value:=[.int .i8 H.h0,.int .i8 H.h1,.int .i8 H.h2,.int .i8 H.h3,.int .i8 H.h4,.int .i8 H.h5,.bool H.half]
def RZ (H:Hts):Prop:=∀z∈J1 H, -128<=z/\z<=127
def fsK (n:Nat)(H:Hts):List Rat:=(List.range n).map λi=>kV (((J1 H).getD (i % 6) 0).tmod 20) (eg H.half)
theorem Gy (a:Int):-20<a.tmod 20/\a.tmod 20<20:=by
 have h:(a.tmod 20).natAbs=a.natAbs % 20:=Vy a 20;omega
theorem vD (h:Bool):eg h=1∨eg h=2:=by cases h <;> simp[eg]
theorem vH (n:Nat)(H:Hts):(fsK n H).length=n:=by simp[fsK]
theorem IS (n:Nat)(H:Hts):∀q∈fsK n H,QB 1 q:=by
 intro q a;unfold fsK at a;obtain⟨i,_,rfl⟩:=SL.1 a;have h1:=Gy ((J1 H).getD (i % 6) 0);have h2:=vD H.half;exact og om_ om_ om_
theorem Pn (H:Hts)(j:Nat)(a:j<6):((Rp H).drop j).take 1=[.int .i8 ((J1 H).getD j 0)]:=by
 rcases(by omega:j=0∨j=1∨j=2∨j=3∨j=4∨j=5) with rfl|rfl|rfl|rfl|rfl|rfl <;> rfl
theorem jB (C:Mem)(B:Tabs C)(o E:Value)(n:Nat)(F:Option Addr)(I:Nat)(H:Hts)(J:o=.slice F n I)(T:n<=400)(K:RZ H):Pur cx.P 30 [.agg ⟨[o,E]⟩,.agg ⟨Rp H⟩] C λu D=>Sl D 1 u ((fsK n H).map dH):=by
 subst J;obtain⟨h0,h1,h2,h3,h4,h5,a⟩:=H;have V:=mx_
 refine Wy func30 31 U3 λw0=>Wu λR b=>WH U6 λp=>WH U6 λq=>C6 1 [2,3] b U<|G.freeze 1 U λ_ _ L=>G.freeze 0 U λ_ _ s=>Wu λR b=>Xu [] U12 fl_ λt=>C6 1 [2,3,5] b U<|U0 1 [2,3,5,6] U<|U1 1 U λR b=>Ws (bkT s 1) U8<|Ww [2,3,5,6,10] b U<|G.cut (λfr M d e=>(True)/\fr=[(2,[],p_ p),(3,[],p_ q),(5,[],s_ t 0 0),(6,[],i_ (eg a))]/\d=[.arr (s_ t 0 0) 32 1 0 []]) ?_ (λfr _ W e _ f=>?_)
 .refine G.cd (λg=>?_) λg=>?_
  .have h1:a=true:=g;subst h1;refine U0 1 [2,3,5,6] U<|WJ 0 l_ (hn_ [2,3,5,6] U) ⟨trivial,U,U⟩
  have h1:a=false:=g;subst h1;refine WJ 0 l_ (hn_ [2,3,5,6] U) ⟨trivial,U,U⟩
 obtain⟨_,rfl,rfl⟩:=f;refine U0 1 [2,3,5,6,7] U<|G.loop (λfr M d e=>∃(i:Nat)(w:Value),(i<=n)/\fr=[(2,[],p_ p),(3,[],p_ q),(5,[],w),(6,[],i_ (eg a)),(7,[],i_ i)]/\d=[.arr w 32 1 ((fsK n ⟨h0,h1,h2,h3,h4,h5,a⟩).take i).length (((fsK n ⟨h0,h1,h2,h3,h4,h5,a⟩).take i).map dH).flatten]/\e=n-i) (hn_ [2,3,5,6,7] U) ⟨0,_,SM _,U,U,U⟩ (λfr X Y m _ f=>?_);obtain⟨i,w,Z,rfl,rfl,rfl⟩:=f;refine U1 2 U λR b=>Ws (bkT L 1) U8<|C6 2 [2,3,5,6,7,15] b U<|G.cd (λh=>?_) λh=>?_
 .have k:i<n:=by
   have:=aT h;omega
  have v:i % 6<6:=Ts _ dc_;obtain⟨z,l⟩:∃z,(J1 ⟨h0,h1,h2,h3,h4,h5,a⟩).getD (i % 6) 0=z:=⟨_,rfl⟩;have x:=Pn ⟨h0,h1,h2,h3,h4,h5,a⟩ (i % 6) v;rw[l]at x;have N:z∈J1 ⟨h0,h1,h2,h3,h4,h5,a⟩:=by
   rw[<- l,al,aj (show i % 6<(J1 ⟨h0,h1,h2,h3,h4,h5,a⟩).length from v),T6];exact TC _
  have aa:=K z N;have ab:=Gy z;have ac:=vD a;have O:(fsK n ⟨h0,h1,h2,h3,h4,h5,a⟩).take (i+1)=(fsK n ⟨h0,h1,h2,h3,h4,h5,a⟩).take i++[kV (z.tmod 20) (eg a)]:=by
   rw[S9,show(fsK n ⟨h0,h1,h2,h3,h4,h5,a⟩)[i]?=some (kV (z.tmod 20) (eg a)) by unfold fsK;rw[SI,Tl k,<- l];rfl];rfl
  have ad:((fsK n ⟨h0,h1,h2,h3,h4,h5,a⟩).take i).length<=400:=by rw[S2,vH];omega
  refine U1 2 U λR b=>Xg (i) (6) U6 om_ U2<|Wt U6<|WO ((i % 6)) U9 (λ_=>⟨by omega,by omega,(by show i % 6=0+(i % 6)*1;omega)⟩) U2<|XE (PtrTo.blockT (Mem.get s mup) (i % 6) 1) U6 (show cJ _ (((Rp ⟨h0,h1,h2,h3,h4,h5,a⟩).drop (i % 6)).take 1)=some (.int .i8 z) from by rw[x];rfl) U<|W7 (c:=z) U8 (wrap_i64 om_ om_) fl_<|Xr (z.tmod 20) U6 dc_ U3<|Wt U6<|WC (Nf _ B.m_ (z.tmod 20) (eg a) om_ om_ om_) U7 fl_<|WP [dH (kV (z.tmod 20) (eg a))] U12 λae _ _ Q=>D.append (j:=0) U11 Q U ay (by simp only[SN];omega) fl_ λA=>C6 1 [2,3,5,6,7] b U<|U1 1 U λR b=>Wz _ U U6<|C6 1 [2,3,5,6,7] b U<|WK (L':=[.arr A 32 1 ((fsK n ⟨h0,h1,h2,h3,h4,h5,a⟩).take (i+1)).length (((fsK n ⟨h0,h1,h2,h3,h4,h5,a⟩).take (i+1)).map dH).flatten]) (by rw[O,Tm,Ta,SP];rfl)<|WF (m':=n-(i+1)) om_ mup (hn_ [2,3,5,6,7] U) ⟨i+1,A,om_,U,U,U⟩
 have k:i=n:=by
  have:=SJ h;omega
 rw[show(fsK n ⟨h0,h1,h2,h3,h4,h5,a⟩).take i=fsK n ⟨h0,h1,h2,h3,h4,h5,a⟩ from Td (by rw[k,vH];exact SH _)];exact U0 2 [4] U<|G.freezeArr 0 ((fsK n ⟨h0,h1,h2,h3,h4,h5,a⟩).map dH) rfl rfl (by intro r hr;obtain⟨y,_,rfl⟩:=SL.1 hr;rfl) (by rw[ar]) λCg hg S=>Wx U2<|⟨U,S⟩
structure Sgt where
 kind:Nat
 px:Int
 py:Int
 u0:Nat
 u1:Nat
 depth:Nat
 n0:Int
 n1:Int
 n2:Int
def Qf (s:Sgt):List Value:=[.int .u8 s.kind,.int .i8 s.px,.int .i8 s.py,.int .u8 s.u0,.int .u8 s.u1,.int .u8 s.depth,.int .i8 s.n0,.int .i8 s.n1,.int .i8 s.n2]
structure SgtR (s:Sgt):Prop where
 kind:s.kind<256
 px:-128<=s.px/\s.px<=127
 py:-128<=s.py/\s.py<=127
 u0:s.u0<256
 u1:s.u1<256
 depth:s.depth<256
 n0:-128<=s.n0/\s.n0<=127
 n1:-128<=s.n1/\s.n1<=127
 n2:-128<=s.n2/\s.n2<=127
structure Sht where
 kd:Nat
 a:Int
 b:Int
 h:Bool
def OV (S:Sht)(H:Hts)(sv:Value):List Value:=[.int .u8 S.kd,.int .i8 S.a,.int .i8 S.b,.bool S.h,.int .i8 H.h0,.int .i8 H.h1,.int .i8 H.h2,.int .i8 H.h3,.int .i8 H.h4,.int .i8 H.h5,.bool H.half,sv]
def sw (i:Nat):Str:=[UInt8.ofNat (65+i)]
def mj (S:Sht)(s:Sgt):Pt :=
 if lu (cI (S.kd % 8) S.a S.b S.h) (shT (S.kd % 8)) (dN S.a S.b S.h s.px s.py 2)≠[] then dN S.a S.b S.h s.px s.py 2
 else (cI (S.kd % 8) S.a S.b S.h).getD (s.depth % (cI (S.kd % 8) S.a S.b S.h).length) (0,0)
def fw (z:Int):Int:=if z.tmod 5=0 then 1 else z.tmod 5
def loU (s:Sgt):Nat:=if s.u0 % 3=s.u1 % 3 then 0 else s.u0 % 3
def upU (s:Sgt):Nat:=if s.u0 % 3=s.u1 % 3 then 1+s.u1 % 3 % 2 else s.u1 % 3
def eW (S:Sht)(s:Sgt)(i:Nat):Obs :=
 if s.kind % 3=0 then ⟨1,[111,UInt8.ofNat (49+i)],qtx (mj S s).1,qtx (mj S s).2,[],sw (s.u1 % 3),[],[],[],[]⟩
 else if s.kind % 3=1 then ⟨2,[111,UInt8.ofNat (49+i)],qtx (mj S s).1,qtx (mj S s).2,qtx (kV (s.depth % 12:Nat) 2),sw (max (loU s) (upU s)),sw (min (loU s) (upU s)),[],[],[]⟩
 else ⟨3,[111,UInt8.ofNat (49+i)],qtx (mj S s).1,qtx (mj S s).2,[],sw (max (loU s) (upU s)),sw (min (loU s) (upU s)),qtx ((s.n0.tmod 5:Int):Rat),qtx ((s.n1.tmod 5:Int):Rat),qtx ((fw s.n2:Int):Rat)⟩
theorem wrap_u8 (a:0<=n)(b:n<256):IntKind.u8.wrap n=n:=by
 simp only[IntKind.wrap,IntKind.bits,IntKind.signed];simp;omega
theorem nV (i:Nat)(a:i<6):([[.int .u8 111],[.int .u8 (49+(i:Int))]]:List (List Value))=(([111,UInt8.ofNat (49+i)]:Str).map λb=>[.int .u8 b.toNat]):=by
 rcases(by omega:i=0∨i=1∨i=2∨i=3∨i=4∨i=5) with rfl|rfl|rfl|rfl|rfl|rfl <;> rfl
theorem DH (j:Nat)(a:j<3):(([ag [65],ag [66],ag [67]]:List Value).drop j).take 1=[ag (sw j)]:=by
 rcases(by omega:j=0∨j=1∨j=2) with rfl|rfl|rfl <;> rfl
theorem Aa:∀m:Nat,0<(shP m).length
|0=>by decide
|1=>by decide
|2=>by decide
|3=>by decide
|4=>by decide
|5=>by decide
|6=>by decide
|_+7=>by
  show 0<([(0,0),(6,0),(0,6),(2,2)]:List (Int × Int)).length;decide
theorem oQ (a:Int):-5<a.tmod 5/\a.tmod 5<5:=by
 have h:(a.tmod 5).natAbs=a.natAbs % 5:=Vy a 5;omega
theorem Rk (s:Sgt):loU s<=2:=by unfold loU;split <;> omega
theorem Qx (s:Sgt):upU s<=2:=by unfold upU;split <;> omega
theorem Hq {p:Pt}(h:QP 1 p):QP 23 p/\PtR p:=⟨⟨h.1.le dc_,h.2.le dc_⟩,bA (h.1.le dc_),bA (h.2.le dc_)⟩
abbrev zag:=λg=>Ent.obj g (.cells ⟨[i_ 0,ag [],ag [],ag [],ag [],ag [],ag [],ag [],ag [],ag []]⟩ 126 (0,0))
theorem sG (C:Mem)(r:Tabs C)(S:Sht)(s:Sgt)(H:Hts)(sv:Value)(i:Nat)(V:i<6)(hk:S.kd<256)(q:SgtR s)(hG:Good (cI (S.kd % 8) S.a S.b S.h) (shT (S.kd % 8))) :
  Pur cx.P 58 [.agg ⟨OV S H sv⟩,.agg ⟨Qf s⟩,i_ i] C λu _D=>u=.agg ⟨gD (eW S s i)⟩:=by
 have aD:=q.kind;have aE:=q.u0;have aG:=q.u1;have aH:=q.depth;have aI:=oQ s.n0;have aJ:=oQ s.n1;have aK:=oQ s.n2;have am:=Rk s;have an:=Qx s;have ao:QP 1 (dN S.a S.b S.h s.px s.py 2):=Di dc_ dc_ q.px q.py;obtain⟨ap,aq⟩:=Hq ao;obtain⟨lo,v⟩:∃n,loU s=n:=⟨_,rfl⟩;obtain⟨up,w⟩:∃n,upU s=n:=⟨_,rfl⟩;obtain⟨p,x⟩:∃p,mj S s=p:=⟨_,rfl⟩;obtain⟨t,E⟩:∃z,fw s.n2=z:=⟨_,rfl⟩;have aM:-5<t/\t<5:=by rw[<- E];unfold fw;split <;> omega
 rw[v]at am;rw[w]at an;have af:0<(cI (S.kd % 8) S.a S.b S.h).length:=by rw[cI,ar];exact Aa _
 have aN:=iy (S.kd % 8) S.a S.b S.h;refine Wy func58 129 U3 λw0=>Wu λR d=>WH U6 λb3=>WH U6 λy=>WI U5 λg=>Ww [2,3,4,6] d U<|G.freeze 2 U λ_ _ ai=>G.freeze 1 U λ_ _ k=>U1 1 U λR d=>Ws (bkT ai 4) U8<|WY (yv _ r.m_ S.kd S.a S.b S.h hk) U7 (λaO _ _ W=>?_);obtain⟨v1,v2,rfl,X,au⟩:=id W.ex;obtain⟨A1,c1,rfl,av,aP,_⟩:=id X;obtain⟨A2,c2,rfl,_,_,_⟩:=id au;simp only[ar]at X av W⊢;refine WI U5 λb7=>WB (j:=0) U12<|Ww [2,3,4,6,7] d U<|G.freeze 0 U λ_ _ Y=>G.cut (λfr F l m=>∃(f:Nat),(True)/\fr=[(4,[],p_ y),(6,[],p_ g),(7,[],p_ b7),(8,[],p_ f)]/\l=[.obj f (.cells ⟨[i_ (1+((s.kind % 3:Nat):Int)),ag [111,UInt8.ofNat (49+i)],ag (qtx (dN S.a S.b S.h s.px s.py 2).1),ag (qtx (dN S.a S.b S.h s.px s.py 2).2),ag [],ag [],ag [],ag [],ag [],ag []]⟩ 126 (0,0)),zag g]) ?_ (λfr aQ aR m aS o=>?_)
 .refine Xt (.cut [0,1,2,3,4,5,6,7,10,11,12,13,14] (.alt 8 (.cut [] (.alt 9 (.fin [15,16,17]) (.alt 16 (.fin [9,15,17]) .stop))) (.alt 16 (.fin [8,9,15,17]) .stop))) [(14,1),(3,0),(6,0)] U U kr_ λR I d J=>Wt U6<|Ws (bkT k 1) U8<|Xg (s.kind) (3) U6 om_ U2<|Xw (c:=((s.kind % 3:Nat):Int)) U8 (wrap_i64 om_ om_) U2<|Wz _ U U6<|Wt U6<|Xw (c:=(i:Int)) U8 (wrap_u8 om_ om_) U2<|D.int ((49+(i:Int))) U4 (wrap_u8 om_ om_) U2<|Wt U6<|Ws (bkT ai 4) U8<|Wt U6<|Ws (bkT k 2) U8<|WN (λ_=>(Dj _ r.m_ S.kd S.a S.b S.h s.px s.py 2 dc_ dc_ q.px q.py)) U9<|Xh J U ⟨?_, ?_,trivial⟩
  .refine WP [[.int .u8 111],[.int .u8 (49+(i:Int))]] U12 λaw ax _ K=>Xh J U ⟨?_, ?_,trivial⟩
   .exact XP (show Sl _ 1 _ (([111,UInt8.ofNat (49+i)]:Str).map λb=>[.int .u8 b.toNat]) from by rw[<- nV i V];exact K.mono mup) U11 fl_<|WL [i_ (1+((s.kind % 3:Nat):Int)),ag [111,UInt8.ofNat (49+i)],ag (qtx (dN S.a S.b S.h s.px s.py 2).1),ag (qtx (dN S.a S.b S.h s.px s.py 2).2),ag [],ag [],ag [],ag [],ag [],ag []] U8<|WI U5 λf=>WB (j:=0) U12<|Ww [4,6,7,8] d U<|WJ 0 mup (hn_ [4,6,7,8] U) ⟨f,trivial,U,U⟩
   exact WI U5 λf=>XP (show Sl _ 1 _ (([111,UInt8.ofNat (49+i)]:Str).map λb=>[.int .u8 b.toNat]) from by rw[<- nV i V];exact K.mono mup) U11 fl_<|WL [i_ (1+((s.kind % 3:Nat):Int)),ag [111,UInt8.ofNat (49+i)],ag (qtx (dN S.a S.b S.h s.px s.py 2).1),ag (qtx (dN S.a S.b S.h s.px s.py 2).2),ag [],ag [],ag [],ag [],ag [],ag []] U8<|WB (j:=0) U12<|Ww [4,6,7,8] d U<|WJ 0 mup (hn_ [4,6,7,8] U) ⟨f,trivial,U,U⟩
  exact WI U5 λf=>WP [[.int .u8 111],[.int .u8 (49+(i:Int))]] U12 λaw ax _ K=>XP (show Sl _ 1 _ (([111,UInt8.ofNat (49+i)]:Str).map λb=>[.int .u8 b.toNat]) from by rw[<- nV i V];exact K.mono mup) U11 fl_<|WL [i_ (1+((s.kind % 3:Nat):Int)),ag [111,UInt8.ofNat (49+i)],ag (qtx (dN S.a S.b S.h s.px s.py 2).1),ag (qtx (dN S.a S.b S.h s.px s.py 2).2),ag [],ag [],ag [],ag [],ag [],ag []] U8<|WB (j:=0) U12<|Ww [4,6,7,8] d U<|WJ 0 mup (hn_ [4,6,7,8] U) ⟨f,trivial,U,U⟩
 obtain⟨f,_,rfl,rfl⟩:=o;refine Wu λR d=>Ws (bkT Y 2) U8<|Wt U6<|WA ah U9<|WD (rU _ r.m_ _ _ _ (dN S.a S.b S.h s.px s.py 2) W.m_ hG ap aq) U7<|C6 5 [4,6,7,8,9] d U<|U0 2 [4,6,7,8,42] U<|G.cut (λfr F l m=>(True)/\fr=[(4,[],p_ y),(6,[],p_ g),(8,[],p_ f)]/\l=[.obj f (.cells ⟨[i_ (1+((s.kind % 3:Nat):Int)),ag [111,UInt8.ofNat (49+i)],ag (qtx p.1),ag (qtx p.2),ag [],ag [],ag [],ag [],ag [],ag []]⟩ 126 (0,0)),zag g]) ?_ (λfr _ aT m _ o=>?_)
 .refine G.cd (λZ=>?_) λZ=>?_
  .have ay:lu (cI (S.kd % 8) S.a S.b S.h) (shT (S.kd % 8)) (dN S.a S.b S.h s.px s.py 2)=[]:=by simpa using Z
   have ak:s.depth % (cI (S.kd % 8) S.a S.b S.h).length<(cI (S.kd % 8) S.a S.b S.h).length:=Ts _ af;have aa:p=(cI (S.kd % 8) S.a S.b S.h)[s.depth % (cI (S.kd % 8) S.a S.b S.h).length]:=by
    rw[<- x,mj,aF (by rw[ay];simp),al,aj ak,T6]
   have hp:(cI (S.kd % 8) S.a S.b S.h)[s.depth % (cI (S.kd % 8) S.a S.b S.h).length]?=some p:=by rw[aa];exact aj ak
   refine WM [0,1,2,3,4,5,6,7,8,9,10,11,12] [(4,0)] U kr_ λR I d=>Wt U6<|Ws (bkT Y 1) U8<|Wt U6<|Ws (bkT k 1) U8<|Xw (c:=(s.depth:Int)) U8 (wrap_i64 om_ om_) U2<|Wt U6<|Ws (bkT Y 1) U8<|Wt U6<|Xg (s.depth) ((cI (S.kd % 8) S.a S.b S.h).length) U6 af U2<|WG X.m_ U10 om_ (cM hp) fl_ λaU az=>Ws az U8<|Wt U6<|WB (j:=0) U12<|Ww [4,6,8] d U<|WJ 0 l_ (hn_ [4,6,8] U) ⟨trivial,U,U⟩
  have aA:lu (cI (S.kd % 8) S.a S.b S.h) (shT (S.kd % 8)) (dN S.a S.b S.h s.px s.py 2)≠[]:=by simpa using Z
  have aa:p=dN S.a S.b S.h s.px s.py 2:=by rw[<- x,mj,aL aA]
  subst aa;refine WJ 0 l_ (hn_ [4,6,8] U) ⟨trivial,U,U⟩
 obtain⟨_,rfl,rfl⟩:=o;refine Wu λR d=>WL ([ag [65],ag [66],ag [67]]) U8<|WI U5 λaB=>WB (j:=0) U12<|Ww [4,6,8,11] d U<|G.freeze 0 U λ_ _ L=>WM [0,1,2,3,4,5,6,7,8,9,10,11] [(4,0),(9,0)] U kr_ λR I d=>Wt U6<|WO (3) U9 k_ U2<|Ws (bkT k 1) U8<|Xg (s.u0) (3) U6 om_ U2<|Xw (c:=((s.u0 % 3:Nat):Int)) U8 (wrap_i64 om_ om_) U2<|Wt U6<|WO (4) U9 k_ U2<|Ws (bkT k 1) U8<|Xg (s.u1) (3) U6 om_ U2<|Xw (c:=((s.u1 % 3:Nat):Int)) U8 (wrap_i64 om_ om_) U2<|C6 2 [4,6,8,11,12,13] d U<|U1 1 U λR d=>WA ah U9<|C6 1 [4,6,8,11,12,13,68] d U<|G.cd (λM=>?_) λM=>?_
 .have A:s.kind % 3=0:=by
   have:=ef M;omega
  refine U1 1 U λR d=>WO ((s.u1 % 3)) U9 (λ_=>⟨by omega,by omega,(by show s.u1 % 3=0+(s.u1 % 3)*1;omega)⟩) U2<|XE (PtrTo.blockT (Mem.get L mup) (s.u1 % 3) 1) U6 (show cJ _ ((([ag [65],ag [66],ag [67]]:List Value).drop (s.u1 % 3)).take 1)=some (ag (sw (s.u1 % 3))) from by rw[DH _ om_];rfl) U<|Wt U6<|WB (j:=0) U12<|Ww [6,8] d U<|Wu λR d=>WA ah U9<|WB (j:=1) U12<|Ww [6] d U<|WE (Xi ah U4 ?_);exact⟨U,by unfold eW;rw[aL A,x,A];rfl⟩
 have A:¬ s.kind % 3=0:=by
  intro e;rw[e]at M;exact absurd M dc_
 refine U0 3 [4,6,8,11,12,13,76] U<|G.cut (λfr F l m=>(True)/\fr=[(4,[],p_ y),(6,[],p_ g),(8,[],p_ f),(11,[],p_ aB),(12,[],i_ (lo:Nat)),(13,[],i_ (up:Nat))]/\l=[.obj f (.cells ⟨[i_ (1+((s.kind % 3:Nat):Int)),ag [111,UInt8.ofNat (49+i)],ag (qtx p.1),ag (qtx p.2),ag [],ag [],ag [],ag [],ag [],ag []]⟩ 126 (0,0)),zag g]) ?_ (λfr _ aV m _ o=>?_)
 .refine G.cd (λN=>?_) λN=>?_
  .have B:s.u0 % 3=s.u1 % 3:=by
    have:=ef N;omega
   have ab:lo=0:=by rw[<- v,loU,aL B]
   have ac:up=1+s.u1 % 3 % 2:=by rw[<- w,upU,aL B]
   subst ab;subst ac;refine U1 1 U λR d=>Xg ((s.u1 % 3)) (2) U6 om_ U2<|Wz _ U U6<|C6 2 [4,6,8,11,12,13] d U<|WJ 0 l_ (hn_ [4,6,8,11,12,13] U) ⟨trivial,U,U⟩
  have B:¬ s.u0 % 3=s.u1 % 3:=by
   intro e;rw[e,beq_self_eq_true]at N;exact absurd N dc_
  have ab:lo=s.u0 % 3:=by rw[<- v,loU,aF B]
  have ac:up=s.u1 % 3:=by rw[<- w,upU,aF B]
  subst ab;subst ac;refine WJ 0 l_ (hn_ [4,6,8,11,12,13] U) ⟨trivial,U,U⟩
 obtain⟨_,rfl,rfl⟩:=o;refine G.cut (λfr F l m=>(True)/\fr=[(4,[],p_ y),(6,[],p_ g),(8,[],p_ f)]/\l=[.obj f (.cells ⟨[i_ (1+((s.kind % 3:Nat):Int)),ag [111,UInt8.ofNat (49+i)],ag (qtx p.1),ag (qtx p.2),ag [],ag (sw (max lo up)),ag (sw (min lo up)),ag [],ag [],ag []]⟩ 126 (0,0)),zag g]) ?_ (λfr aW aX m aY o=>?_)
 .refine Xt (.cut [0,1,2,3,4,5,6,7,8,10] (.alt 9 (.fin [11,12,13]) (.alt 11 (.fin [9,12,13]) .stop))) [] U U kr_ λR I d J=>Wv 2 U<|D.max (((max lo up:Nat):Int)) U6 om_ U2<|WO ((max lo up)) U9 (λ_=>⟨by omega,by omega,(by show max lo up=0+(max lo up)*1;omega)⟩) U2<|XE (PtrTo.blockT (Mem.get L mup) (max lo up) 1) U6 (show cJ _ ((([ag [65],ag [66],ag [67]]:List Value).drop (max lo up)).take 1)=some (ag (sw (max lo up))) from by rw[DH _ om_];rfl) U<|Wv 2 U<|D.min (((min lo up:Nat):Int)) U6 om_ U2<|WO ((min lo up)) U9 (λ_=>⟨by omega,by omega,(by show min lo up=0+(min lo up)*1;omega)⟩) U2<|Wt U6<|Xh J U ⟨?_, ?_,trivial⟩
  .exact XE (PtrTo.blockT (Mem.get L mup) (min lo up) 1) U6 (show cJ _ ((([ag [65],ag [66],ag [67]]:List Value).drop (min lo up)).take 1)=some (ag (sw (min lo up))) from by rw[DH _ om_];rfl) U<|WB (j:=0) U12<|Wt U6<|WB (j:=0) U12<|Ww [4,6,8] d U<|WJ 0 mup (hn_ [4,6,8] U) ⟨trivial,U,U⟩
  exact WB (j:=0) U12<|XE (PtrTo.blockT (Mem.get L mup) (min lo up) 1) U6 (show cJ _ ((([ag [65],ag [66],ag [67]]:List Value).drop (min lo up)).take 1)=some (ag (sw (min lo up))) from by rw[DH _ om_];rfl) U<|Wt U6<|WB (j:=0) U12<|Ww [4,6,8] d U<|WJ 0 mup (hn_ [4,6,8] U) ⟨trivial,U,U⟩
 obtain⟨_,rfl,rfl⟩:=o;refine U1 1 U λR d=>WA ah U9<|C6 1 [4,6,8,94] d U<|G.cd (λO=>?_) λO=>?_
 .have Q:s.kind % 3=1:=by
   have:=ef O;omega
  refine U1 1 U λR d=>Ws (bkT k 1) U8<|Xg (s.depth) (12) U6 om_ U2<|W7 (c:=((s.depth % 12:Nat):Int)) U8 (wrap_i64 om_ om_) fl_<|WC (He _ r.m_ ((s.depth % 12:Nat):Int) 2 om_ om_ om_) U7 fl_<|Wv 4 U<|WB (j:=0) U12<|Ww [6,8] d U<|Wu λR d=>WA ah U9<|WB (j:=1) U12<|Ww [6] d U<|WE (Xi ah U4 ?_);exact⟨U,by unfold eW;rw[aF A,aL Q,x,v,w,Q];rfl⟩
 have Q:¬ s.kind % 3=1:=by
  intro e;rw[e]at O;exact absurd O dc_
 have aC:s.kind % 3=2:=by omega
 refine U1 1 U λR d=>WO (8) U9 k_ U2<|Ws (bkT k 1) U8<|Xr (s.n2.tmod 5) U6 dc_ U3<|W7 (c:=(s.n2.tmod 5)) U8 (wrap_i64 om_ om_) fl_<|C6 1 [4,6,8,14] d U<|U0 2 [4,6,8,14,111] U<|G.cut (λfr F l m=>(True)/\fr=[(4,[],p_ y),(6,[],p_ g),(8,[],p_ f),(14,[],i_ t)]/\l=[.obj f (.cells ⟨[i_ (1+((s.kind % 3:Nat):Int)),ag [111,UInt8.ofNat (49+i)],ag (qtx p.1),ag (qtx p.2),ag [],ag (sw (max lo up)),ag (sw (min lo up)),ag [],ag [],ag []]⟩ 126 (0,0)),zag g]) ?_ (λfr _ aZ m _ o=>?_)
 .refine G.cd (λT=>?_) λT=>?_
  .have ad:s.n2.tmod 5=0:=ef T;have ae:t=1:=by rw[<- E,fw,aL ad]
   subst ae;refine U0 1 [4,6,8,14] U<|WJ 0 l_ (hn_ [4,6,8,14] U) ⟨trivial,U,U⟩
  have ad:¬ s.n2.tmod 5=0:=by
   intro e;rw[e]at T;exact absurd T dc_
  have ae:t=s.n2.tmod 5:=by rw[<- E,fw,aF ad]
  subst ae;refine WJ 0 l_ (hn_ [4,6,8,14] U) ⟨trivial,U,U⟩
 obtain⟨_,rfl,rfl⟩:=o;refine WM [0,1,2,3,4,5,6,7,8,9,10,11,12,13,14,15,16] [(5,1),(11,1),(13,1),(4,0),(10,0)] U kr_ λR I d=>Wt U6<|WO (6) U9 k_ U2<|Ws (bkT k 1) U8<|Xr (s.n0.tmod 5) U6 dc_ U3<|Xw (c:=(s.n0.tmod 5)) U8 (wrap_i64 om_ om_) U2<|WN (λ_=>(uC _ r.m_ (s.n0.tmod 5) om_)) U9<|Wt U6<|WO (7) U9 k_ U2<|Ws (bkT k 1) U8<|Xr (s.n1.tmod 5) U6 dc_ U3<|Xw (c:=(s.n1.tmod 5)) U8 (wrap_i64 om_ om_) U2<|WN (λ_=>(uC _ r.m_ (s.n1.tmod 5) om_)) U9<|Wt U6<|WN (λ_=>(uC _ r.m_ t om_)) U9<|WL [ag (qtx ((s.n0.tmod 5:Int):Rat)),ag (qtx ((s.n1.tmod 5:Int):Rat)),ag (qtx ((t:Int):Rat))] U8<|Wt U6<|WB (j:=0) U12<|Ww [6,8] d U<|Wu λR d=>WA ah U9<|WB (j:=1) U12<|Ww [6] d U<|WE (Xi ah U4 ?_);exact⟨U,by unfold eW;rw[aF A,aF Q,x,v,w,E,aC];rfl⟩
def nS:Sgt:=⟨0,0,0,0,0,0,0,0,0⟩
def colK:List Lay:=[⟨[65],0,none⟩,⟨[66],0,some 5⟩,⟨[67],1,none⟩]
theorem KQ:qtx 5=[53]:=by
 show qtx ((5:Int):Rat)=_;rw[nP];decide +kernel
theorem Ml:colK.map pq=[[ag [65],ag [48],ag []],[ag [66],ag [48],ag [53]],[ag [67],ag [49],ag []]]:=by
 simp only[colK,List.map,pq,E7,qtx_zero,fT,KQ]
def su (S:Sht)(l:List Sgt):List Obs:=(List.range (min l.length 6)).map λi=>eW S (l.getD i nS) i
def iY (S:Sht)(H:Hts)(l:List Sgt):Bk:=⟨cI (S.kd % 8) S.a S.b S.h,shT (S.kd % 8),(fsK (cI (S.kd % 8) S.a S.b S.h).length H).map qtx,colK,su S l⟩
theorem pl (S:Sht)(l:List Sgt):(su S l).length=min l.length 6:=by simp[su]
theorem HS (S:Sht){l:List Sgt}{s:Sgt}(h:l[i]?=some s)(a:i<6):(su S l)[i]?=some (eW S s i):=by
 have h1:=(R0.1 h).1;rw[su,SI,Tl om_];show some (eW S (l.getD i nS) i)=_;rw[al,h];rfl
theorem H7 (C:Mem)(q:Tabs C)(S:Sht)(H:Hts)(W:Value)(l:List Sgt)(X:S.kd<256)(A:RZ H)(L:Sl C 9 W (l.map Qf))(hs:∀s∈l,SgtR s)(hG:Good (cI (S.kd % 8) S.a S.b S.h) (shT (S.kd % 8))) :
  Pur cx.P 12 [.agg ⟨OV S H W⟩] C λu D=>BookIn D u (iY S H l):=by
 obtain⟨As,cs,rfl,ai,av,_⟩:=id L;have aw:=mx_
 simp only[ar]at L ai⊢;have ax:=iy (S.kd % 8) S.a S.b S.h;refine Wy func12 44 U3 λw0=>Wu λR f=>WH U6 λY=>WI U5 λv=>Ww [1,2] f U<|G.freeze 1 U λ_ _ B=>U1 1 U λR f=>Ws (bkT B 4) U8<|WY (yv _ q.m_ S.kd S.a S.b S.h X) U7 (λv8 _ _ Z=>?_);obtain⟨v1,v2,rfl,M,N⟩:=id Z.ex;obtain⟨k,n,rfl,ak,az,_⟩:=id M;obtain⟨A2,c2,rfl,_,_,_⟩:=id N;simp only[ar]at M N ak Z⊢;refine WI U5 λb3=>WB (j:=0) U12<|Ww [1,2,3] f U<|G.freeze 0 U λ_ _ aa=>G.cut (λfr O E Q=>∃(c:Option Addr)(d:Nat)(x:Value)(g:Nat),(Sl O 1 (.slice c (fsK (cI (S.kd % 8) S.a S.b S.h).length H).length d) ((fsK (cI (S.kd % 8) S.a S.b S.h).length H).map dH)/\Sl O 3 x [[ag [65],ag [48],ag []],[ag [66],ag [48],ag [53]],[ag [67],ag [49],ag []]])/\fr=[(1,[],p_ Y),(2,[],p_ v),(4,[],p_ g)]/\E=[.obj g (.cells ⟨[.slice k (cI (S.kd % 8) S.a S.b S.h).length n,.slice A2 (shT (S.kd % 8)).length c2,.slice c (fsK (cI (S.kd % 8) S.a S.b S.h).length H).length d,x,.slice none 0 0]⟩ 45 (0,0)),.obj v (.cells ⟨[.slice none 0 0,.slice none 0 0,.slice none 0 0,.slice none 0 0,.slice none 0 0]⟩ 45 (0,0))]) ?_ (λfr aA aB Q aC T=>?_)
 .refine Xt (.cut [0,1,2,3,5,6,7] (.alt 4 (.cut [] (.alt 8 (.fin [9,10,11]) (.alt 10 (.fin [8,9,11]) .stop))) (.alt 8 (.cut [] (.alt 4 (.fin [9,10,11]) (.alt 10 (.fin [4,9,11]) .stop))) (.alt 10 (.cut [] (.alt 4 (.fin [8,9,11]) (.alt 8 (.fin [4,9,11]) .stop))) .stop)))) [] U U kr_ λR hB f F=>Ws (bkT aa 2) U8<|Ws (bkT aa 2) U8<|Wt U6<|Ws (bkT B 7) U8<|WL ([ag [65],ag [48],ag []]) U8<|WL ([ag [66],ag [48],ag [53]]) U8<|WL ([ag [67],ag [49],ag []]) U8<|Xh F U ⟨?_, ?_, ?_,trivial⟩
  .refine WT (jB _ q.m_ _ _ (cI (S.kd % 8) S.a S.b S.h).length k n H U om_ A) U7 fl_ λI J _ e=>Xh F U ⟨?_, ?_,trivial⟩
   .refine Xm [[ag [65],ag [48],ag []],[ag [66],ag [48],ag [53]],[ag [67],ag [49],ag []]] U12 fl_ (λo K _ p=>?_);obtain⟨c,d,rfl,_,_,_⟩:=id e;simp only[ar]at e⊢;exact WL [.slice k (cI (S.kd % 8) S.a S.b S.h).length n,.slice A2 (shT (S.kd % 8)).length c2,.slice c (fsK (cI (S.kd % 8) S.a S.b S.h).length H).length d,s_ o 3 3,.slice none 0 0] U8<|WI U5 λg=>WB (j:=0) U12<|Ww [1,2,4] f U<|WJ 0 mup (hn_ [1,2,4] U) ⟨c,d,_,g,⟨e.mono mup,p.mono mup⟩,U,U⟩
   refine WI U5 λg=>Xm [[ag [65],ag [48],ag []],[ag [66],ag [48],ag [53]],[ag [67],ag [49],ag []]] U12 fl_ (λo K _ p=>?_);obtain⟨c,d,rfl,_,_,_⟩:=id e;simp only[ar]at e⊢;exact WL [.slice k (cI (S.kd % 8) S.a S.b S.h).length n,.slice A2 (shT (S.kd % 8)).length c2,.slice c (fsK (cI (S.kd % 8) S.a S.b S.h).length H).length d,s_ o 3 3,.slice none 0 0] U8<|WB (j:=0) U12<|Ww [1,2,4] f U<|WJ 0 mup (hn_ [1,2,4] U) ⟨c,d,_,g,⟨e.mono mup,p.mono mup⟩,U,U⟩
  .refine Xm [[ag [65],ag [48],ag []],[ag [66],ag [48],ag [53]],[ag [67],ag [49],ag []]] U12 fl_ λo K _ p=>Xh F U ⟨?_, ?_,trivial⟩
   .refine WT (jB _ q.m_ _ _ (cI (S.kd % 8) S.a S.b S.h).length k n H U om_ A) U7 fl_ (λI J _ e=>?_);obtain⟨c,d,rfl,_,_,_⟩:=id e;simp only[ar]at e⊢;exact WL [.slice k (cI (S.kd % 8) S.a S.b S.h).length n,.slice A2 (shT (S.kd % 8)).length c2,.slice c (fsK (cI (S.kd % 8) S.a S.b S.h).length H).length d,s_ o 3 3,.slice none 0 0] U8<|WI U5 λg=>WB (j:=0) U12<|Ww [1,2,4] f U<|WJ 0 mup (hn_ [1,2,4] U) ⟨c,d,_,g,⟨e.mono mup,p.mono mup⟩,U,U⟩
   refine WI U5 λg=>WT (jB _ q.m_ _ _ (cI (S.kd % 8) S.a S.b S.h).length k n H U om_ A) U7 fl_ (λI J _ e=>?_);obtain⟨c,d,rfl,_,_,_⟩:=id e;simp only[ar]at e⊢;exact WL [.slice k (cI (S.kd % 8) S.a S.b S.h).length n,.slice A2 (shT (S.kd % 8)).length c2,.slice c (fsK (cI (S.kd % 8) S.a S.b S.h).length H).length d,s_ o 3 3,.slice none 0 0] U8<|WB (j:=0) U12<|Ww [1,2,4] f U<|WJ 0 mup (hn_ [1,2,4] U) ⟨c,d,_,g,⟨e.mono mup,p.mono mup⟩,U,U⟩
  refine WI U5 λg=>Xh F U ⟨?_, ?_,trivial⟩
  .refine WT (jB _ q.m_ _ _ (cI (S.kd % 8) S.a S.b S.h).length k n H U om_ A) U7 fl_ λI J _ e=>Xm [[ag [65],ag [48],ag []],[ag [66],ag [48],ag [53]],[ag [67],ag [49],ag []]] U12 fl_ (λo K _ p=>?_);obtain⟨c,d,rfl,_,_,_⟩:=id e;simp only[ar]at e⊢;exact WL [.slice k (cI (S.kd % 8) S.a S.b S.h).length n,.slice A2 (shT (S.kd % 8)).length c2,.slice c (fsK (cI (S.kd % 8) S.a S.b S.h).length H).length d,s_ o 3 3,.slice none 0 0] U8<|WB (j:=0) U12<|Ww [1,2,4] f U<|WJ 0 mup (hn_ [1,2,4] U) ⟨c,d,_,g,⟨e.mono mup,p.mono mup⟩,U,U⟩
  refine Xm [[ag [65],ag [48],ag []],[ag [66],ag [48],ag [53]],[ag [67],ag [49],ag []]] U12 fl_ λo K _ p=>WT (jB _ q.m_ _ _ (cI (S.kd % 8) S.a S.b S.h).length k n H U om_ A) U7 fl_ (λI J _ e=>?_);obtain⟨c,d,rfl,_,_,_⟩:=id e;simp only[ar]at e⊢;exact WL [.slice k (cI (S.kd % 8) S.a S.b S.h).length n,.slice A2 (shT (S.kd % 8)).length c2,.slice c (fsK (cI (S.kd % 8) S.a S.b S.h).length H).length d,s_ o 3 3,.slice none 0 0] U8<|WB (j:=0) U12<|Ww [1,2,4] f U<|WJ 0 mup (hn_ [1,2,4] U) ⟨c,d,_,g,⟨e.mono mup,p.mono mup⟩,U,U⟩
 obtain⟨c,d,x,g,⟨al,ab⟩,rfl,rfl⟩:=T;refine U0 1 [1,2,4,5] U<|G.nilArr 126 10<|G.perm (L':=[.obj g (.cells ⟨[.slice k (cI (S.kd % 8) S.a S.b S.h).length n,.slice A2 (shT (S.kd % 8)).length c2,.slice c (fsK (cI (S.kd % 8) S.a S.b S.h).length H).length d,x,.slice none 0 0]⟩ 45 (0,0)),.arr (.slice none 0 0) 126 10 0 [],.obj v (.cells ⟨[.slice none 0 0,.slice none 0 0,.slice none 0 0,.slice none 0 0,.slice none 0 0]⟩ 45 (0,0))]) (List.Perm.swap _ _ _)<|G.loop (λfr O E Q=>∃(i:Nat)(w:Value),(i<=l.length/\i<=6)/\fr=[(1,[],p_ Y),(2,[],p_ v),(4,[],p_ g),(5,[],i_ i)]/\E=[.obj g (.cells ⟨[.slice k (cI (S.kd % 8) S.a S.b S.h).length n,.slice A2 (shT (S.kd % 8)).length c2,.slice c (fsK (cI (S.kd % 8) S.a S.b S.h).length H).length d,x,w]⟩ 45 (0,0)),.arr w 126 10 ((su S l).take i).length (((su S l).take i).map gD).flatten,.obj v (.cells ⟨[.slice none 0 0,.slice none 0 0,.slice none 0 0,.slice none 0 0,.slice none 0 0]⟩ 45 (0,0))]/\Q=6-i) (hn_ [1,2,4,5] U) ⟨0,.slice none 0 0,⟨SM _,SM _⟩,U,U,U⟩ (λfr aD aE m _ T=>?_);obtain⟨i,w,⟨hi,aF⟩,rfl,rfl,rfl⟩:=T;refine U1 2 U λR f=>Ws (bkT B 1) U8<|Wv 5 U<|WR U8<|Ww [1,2,4,5,27] f U<|G.cd (λt=>?_) λt=>?_
 .have z:i<l.length/\i<6:=by
   by_cases h1:((i:Nat):Int)<(l.length:Nat)
   .rw[S4 h1]at t;have h2:=aT t;omega
   rw[Te h1]at t;exact absurd t am
  obtain⟨s,V⟩:∃s,l[i]?=some s:=⟨l[i]'z.1,aj z.1⟩;have an:(su S l).take (i+1)=(su S l).take i++[eW S s i]:=by rw[S9,HS S V z.2];rfl
  have aG:((su S l).take i).length<=6:=by rw[S2,pl];omega
  refine WM [0,1,2,3,4,5,6,7,8,9,10,11,12,13] [] U kr_ λR hB f=>Wt U6<|WA ah U9<|Ws (bkT B 12) U8<|Wt U6<|Ws (bkT B 1) U8<|Wt U6<|WG L.m_ U10 om_ (cM V) fl_ λaH ao=>Ws ao U8<|Wt U6<|WY (sG _ q.m_ S s H _ i z.2 X (hs s (aK V)) hG) U7 (λaI _ _ ap=>?_);subst ap;refine WP [gD (eW S s i)] U12 λaJ _ _ aq=>W0 (j:=1) U11 aq.m_ U ay (by simp only[SN];omega) fl_ λac ad ae=>Wt U6<|WB (j:=1) U12<|Ww [1,2,4,5] f U<|U1 1 U λR f=>Wz _ U U6<|C6 1 [1,2,4,5] f U<|WK (L':=[.obj g (.cells ⟨[.slice k (cI (S.kd % 8) S.a S.b S.h).length n,.slice A2 (shT (S.kd % 8)).length c2,.slice c (fsK (cI (S.kd % 8) S.a S.b S.h).length H).length d,x,.slice ac ad ae]⟩ 45 (0,0)),.arr (.slice ac ad ae) 126 10 ((su S l).take (i+1)).length (((su S l).take (i+1)).map gD).flatten,.obj v (.cells ⟨[.slice none 0 0,.slice none 0 0,.slice none 0 0,.slice none 0 0,.slice none 0 0]⟩ 45 (0,0))]) (by rw[an,Tm,Ta,SP];rfl)<|WF (m':=6-(i+1)) om_ mup (hn_ [1,2,4,5] U) ⟨i+1,_,⟨by omega,by omega⟩,U,U,U⟩
 have z:i=min l.length 6:=by
  by_cases h1:((i:Nat):Int)<(l.length:Nat)
  .rw[S4 h1]at t;have h2:=SJ t;omega
  omega
 have au:(su S l).take i=su S l:=Td (by rw[z,pl];exact SH _);rw[au];refine G.freezeArr 1 ((su S l).map gD) rfl rfl (by intro r hr;obtain⟨y,_,rfl⟩:=SL.1 hr;rfl) (by rw[ar]) (λCg hg af=>?_);obtain⟨Aw,cw,rfl,_⟩:=id af;obtain⟨Ap,cp,rfl,_⟩:=id ab;refine Wu λR f=>WA ah U9<|WB (j:=1) U12<|Ww [2] f U<|WE (Xi ah U4 ?_);exact⟨U,_,_,_,_,_,U,M.mono mup,N.mono mup,(by rw[iY,<- gK];exact al.mono mup),(by rw[iY,Ml];exact ab.mono mup),af⟩
instance:DecidableEq RowQ:=λa b=>decidable_of_iff (a.f=b.f/\a.b=b.b) (by cases a;cases b;simp)
instance (k:Nat) (q:Rat):Decidable (QB k q):=by unfold QB;infer_instance
instance (k:Nat) (p:Pt):Decidable (QP k p):=by unfold QP;infer_instance
instance (n:Nat) (t:Tri):Decidable (ox n t):=by unfold ox;infer_instance
theorem iw (h:txt z=s):qtx ((z:Int):Rat)=s:=by rw[nP,h]
theorem OG (q:Rat)(h:qtx q=s)(a:QB 22 q):dx s=q:=by rw[<- h];exact de (bA a)
theorem NU (a:List Pt)(t:Tri)(p:Pt)(j:Nat):wgt a t p j=wgt a t p (j % 3):=by
 unfold wgt;rw[show(j+1) % 3=(j % 3+1) % 3 by omega,show(j+2) % 3=(j % 3+2) % 3 by omega]
theorem Kd (t:Tri)(j:Nat):pY t j=pY t (min j 2):=by
 unfold pY;rcases(by omega:j=0∨j=1∨2<=j) with h|h|h
 .subst h;rfl
 .subst h;rfl
 rw[Nat.min_eq_right h,aF om_,aF om_];rfl
theorem q6:qtx 6=[54]:=by decide +kernel
def KX (m:Nat)(u v:Int)(h:Bool):List Pt:=(shP m).map λp=>(kV (p.1+u*1) (eg h*1),kV (p.2+v*1) (eg h*1))
theorem Q6 (m:Nat)(a b:Int)(h:Bool):cI m a b h=KX m (a.tmod 8) (b.tmod 8) h:=rfl
def rD (pts:List Pt)(tris:List Tri):Bool :=
 pts.all (λp=>decide (QP 1 p)) && (decide pts.Nodup && (tris.all (λt=>decide (ox pts.length t)) && (tris.all (λt=>decide (0<dQ (pts.getD t.1 (0,0)) (pts.getD t.2.1 (0,0)) (pts.getD t.2.2 (0,0)))) && (decide (bS tris).Nodup && (oB pts tris && pts.all λp=>decide (lu pts tris p≠[]))))))
theorem all0:∀i<15,∀j<15,∀h:Bool,rD (KX 0 ((i:Nat)-7) ((j:Nat)-7) h) (shT 0)=true:=by decide +kernel
theorem sh1 {n:Str}(a:dm n=true)(b:dm u=true)(c:aS x=true)(d:aS y=true):ek ⟨1,n,x,y,[],u,[],[],[],[]⟩=0:=by
 unfold ek;rw[aF am,aF (by simp[lj,a,b]),aF (by simp[mr,c,d]),aF (by simp[lD])]
theorem sh2 {n d l:Str}(a:dm n=true)(b:dm u=true)(c:dm l=true)(e:aS x=true)(f:aS y=true)(g:aS d=true):ek ⟨2,n,x,y,d,u,l,[],[],[]⟩=0:=by
 unfold ek;rw[aF am,aF (by simp[lj,a,b,c]),aF (by simp[mr,e,f,g]),aF (by simp[lD])]
theorem sh3 {n l a b c:Str}(d:dm n=true)(e:dm u=true)(f:dm l=true)(g:aS x=true)(h:aS y=true)(i:aS a=true)(j:aS b=true)(k:aS c=true):ek ⟨3,n,x,y,[],u,l,a,b,c⟩=0:=by
 unfold ek;rw[aF am,aF (by simp[lj,d,e,f]),aF (by simp[mr,g,h,i,j,k]),aF (by simp[lD])]
theorem AP (j:Nat)(a:j<3):ic (isU (sw j)) colK 0=(j:Int):=by
 rcases(by omega:j=0∨j=1∨j=2) with rfl|rfl|rfl <;> decide +kernel
theorem vy (j:Nat)(a:j<3):dm (sw j)=true:=by
 rcases(by omega:j=0∨j=1∨j=2) with rfl|rfl|rfl <;> decide +kernel
theorem O7 (i:Nat)(a:i<6):dm [111,UInt8.ofNat (49+i)]=true:=by
 rcases(by omega:i=0∨i=1∨i=2∨i=3∨i=4∨i=5) with rfl|rfl|rfl|rfl|rfl|rfl <;> decide +kernel
theorem Rh {j:Nat}(c:i<6)(d:j<6)(h:([111,UInt8.ofNat (49+i)]:Str)=[111,UInt8.ofNat (49+j)]):i=j:=by
 have e:∀a<6,∀b<6,([111,UInt8.ofNat (49+a)]:Str)=[111,UInt8.ofNat (49+b)]->a=b:=by decide
 exact e i c j d h
theorem Lt (s:Sgt):min (loU s) (upU s)<max (loU s) (upU s):=by
 unfold loU upU;split <;> omega
theorem eB (z:Int)(h:z.natAbs<100):QB 1 ((z:Int):Rat):=by
 refine⟨?_, ?_⟩
 .show z.natAbs<B9 ^ 1;have:B9 ^ 1=1000000000:=by decide
  omega
 show 1<B9 ^ 1;decide
theorem vx (z:Int):fw z≠0:=by
 unfold fw;split
 .decide
 assumption
theorem pp (z:Int):-5<fw z/\fw z<5:=by
 have:=oQ z;unfold fw;split <;> omega
theorem ok1 (h:QB 1 q):aS (qtx q)=true:=bA (h.le dc_)
theorem ue (n:Nat):QB 1 (kV ((n % 12:Nat):Int) 2):=og dc_ om_ dc_
theorem PH (n:Nat):¬ (kV ((n % 12:Nat):Int) 2<0):=by
 have a:∀k<12,¬ (kV ((k:Nat):Int) 2<0):=by decide +kernel
 exact a _ (Ts _ dc_)
theorem Lc (S:Sht)(s:Sgt)(i:Nat)(l:i<6)(j:QP 1 (mj S s))(m:lu (cI (S.kd % 8) S.a S.b S.h) (shT (S.kd % 8)) (mj S s)≠[]) :
  gm (cI (S.kd % 8) S.a S.b S.h) (shT (S.kd % 8)) colK (eW S s i)=0:=by
 have f:=O7 i l;have c:=ok1 j.1;have hy:=ok1 j.2;have p:=Lt s;have q:=Rk s;have r:=Qx s;have g:∀o:Obs,o.x=qtx (mj S s).1->o.y=qtx (mj S s).2->Mi (cI (S.kd % 8) S.a S.b S.h) (shT (S.kd % 8)) o=true:=by
  intro o h1 h2;unfold Mi ptO;rw[h1,h2,de c,de hy];exact S4 m
 have n:=AP (s.u1 % 3) om_;have d:=AP (max (loU s) (upU s)) om_;have e:=AP (min (loU s) (upU s)) om_;have n1:=vy (s.u1 % 3) om_;have n2:=vy (max (loU s) (upU s)) om_;have k:=vy (min (loU s) (upU s)) om_;unfold eW gm;split
 .rw[aF (by rw[sh1 f n1 c hy];decide),aF (by rw[g _ rfl rfl];decide),aF (by simp[Gw,n] <;> omega),aF (by simp[ordB]),aF (by simp[depB]),aF (by simp[J3])]
 split
 .have hd:=ok1 (ue s.depth);rw[aF (by rw[sh2 f n2 k c hy hd];decide),aF (by rw[g _ rfl rfl];decide),aF (by simp only[Gw,d,e];simp <;> omega),aF (by simp only[ordB,d,e];simp <;> omega),aF (by simp only[depB];rw[de hd,Te (PH s.depth)];decide),aF (by simp[J3])]
 have h0:=oQ s.n0;have h1:=oQ s.n1;have h2:=pp s.n2;rw[aF (by rw[sh3 f n2 k c hy (ok1 (eB _ om_)) (ok1 (eB _ om_)) (ok1 (eB _ om_))];decide),aF (by rw[g _ rfl rfl];decide),aF (by simp only[Gw,d,e];simp <;> omega),aF (by simp only[ordB,d,e];simp <;> omega),aF (by simp[depB]),aF ?_];intro h;simp only[J3,S1,SS]at h;have h3:=h.2;rw[<- qtx_zero]at h3;have h4:=gx h3;have h5:=vx s.n2;exact h5 (by exact_mod_cast h4)
theorem all1:∀i<15,∀j<15,∀h:Bool,rD (KX 1 ((i:Nat)-7) ((j:Nat)-7) h) (shT 1)=true:=by decide +kernel
theorem all2:∀i<15,∀j<15,∀h:Bool,rD (KX 2 ((i:Nat)-7) ((j:Nat)-7) h) (shT 2)=true:=by decide +kernel
theorem all3:∀i<15,∀j<15,∀h:Bool,rD (KX 3 ((i:Nat)-7) ((j:Nat)-7) h) (shT 3)=true:=by decide +kernel
theorem all4:∀i<15,∀j<15,∀h:Bool,rD (KX 4 ((i:Nat)-7) ((j:Nat)-7) h) (shT 4)=true:=by decide +kernel
theorem all5:∀i<15,∀j<15,∀h:Bool,rD (KX 5 ((i:Nat)-7) ((j:Nat)-7) h) (shT 5)=true:=by decide +kernel
theorem all6:∀i<15,∀j<15,∀h:Bool,rD (KX 6 ((i:Nat)-7) ((j:Nat)-7) h) (shT 6)=true:=by decide +kernel
theorem all7:∀i<15,∀j<15,∀h:Bool,rD (KX 7 ((i:Nat)-7) ((j:Nat)-7) h) (shT 7)=true:=by decide +kernel
theorem xd (a:Int):∃i:Nat,i<15/\a.tmod 8=(i:Int)-7:=by
 have h:=zQ a;exact⟨(a.tmod 8+7).toNat,by omega,by omega⟩
theorem zZ (m:Nat)(g:m<8)(a b:Int)(h:Bool):rD (cI m a b h) (shT m)=true:=by
 obtain⟨i,c,e⟩:=xd a;obtain⟨j,d,f⟩:=xd b;rw[Q6,e,f];rcases(by omega:m=0∨m=1∨m=2∨m=3∨m=4∨m=5∨m=6∨m=7) with rfl|rfl|rfl|rfl|rfl|rfl|rfl|rfl
 .exact all0 i c j d h
 .exact all1 i c j d h
 .exact all2 i c j d h
 .exact all3 i c j d h
 .exact all4 i c j d h
 .exact all5 i c j d h
 .exact all6 i c j d h
 exact all7 i c j d h
theorem Ob:∀m:Nat,m<8->shT m≠[]/\(shT m).length<=800:=by decide
theorem II {a:List Pt}{b:List Tri}(h:rD a b=true)(c:b≠[])(d:b.length<=800)(e:a.length<=400):Good a b/\∀p∈a,lu a b p≠[]:=by
 unfold rD at h;simp only[S1,S3,SS]at h;obtain⟨f,g,i,j,k,l,m⟩:=h;exact⟨⟨⟨f,g,i,j,k,d,e⟩,c,l⟩,m⟩
theorem gW (m:Nat)(c:m<8)(a b:Int)(h:Bool):Good (cI m a b h) (shT m)/\∀p∈cI m a b h,lu (cI m a b h) (shT m) p≠[]:=by
 have hp:=iy m a b h;obtain⟨h0,h1⟩:=Ob m c;exact II (zZ m c a b h) h0 h1 om_
theorem uX (S:Sht)(s:Sgt)(c:SgtR s):QP 1 (mj S s)/\lu (cI (S.kd % 8) S.a S.b S.h) (shT (S.kd % 8)) (mj S s)≠[]:=by
 obtain⟨d,e⟩:=gW (S.kd % 8) (Ts _ dc_) S.a S.b S.h;have f:0<(cI (S.kd % 8) S.a S.b S.h).length:=by rw[cI,ar];exact Aa _
 unfold mj;split
 .rename_i h;exact⟨Di dc_ dc_ c.px c.py,h⟩
 have g:s.depth % (cI (S.kd % 8) S.a S.b S.h).length<(cI (S.kd % 8) S.a S.b S.h).length:=Ts _ f;rw[al,aj g,T6];exact⟨d.ok.q _ (TC _),e _ (TC _)⟩
theorem iF (h:QB 1 q):(qtx q).length<=999998:=xY (fs:=[q]) (k:=1) dc_ (by intro y hy;rw[S6]at hy;rw[hy];exact h) _ (S6.2 rfl)
theorem Rf (S:Sht)(s:Sgt)(i:Nat)(c:SgtR s):ObsR (eW S s i):=by
 have b:=(uX S s c).1;have a:=iF b.1;have hy:=iF b.2;have hd:=iF (ue s.depth);have h0:=oQ s.n0;have h1:=oQ s.n1;have h2:=pp s.n2;have d:=iF (eB (s.n0.tmod 5) om_);have l1:=iF (eB (s.n1.tmod 5) om_);have l2:=iF (eB (fw s.n2) om_);unfold eW;split
 .exact⟨by simp,a,hy,by simp,by simp[sw],by simp,by simp,by simp,by simp⟩
 split
 .exact⟨by simp,a,hy,hd,by simp[sw],by simp[sw],by simp,by simp,by simp⟩
 exact⟨by simp,a,hy,by simp,by simp[sw],by simp[sw],d,l1,l2⟩
theorem yo (S:Sht)(s:Sgt)(i:Nat):(eW S s i).name=[111,UInt8.ofNat (49+i)]:=by
 unfold eW;split
 .rfl
 split <;> rfl
theorem JB {S:Sht}{H:Hts}{l:List Sgt}{o:Obs}(h:(iY S H l).obs[i]?=some o):i<6/\∃s,l[i]?=some s/\o=eW S s i:=by
 have h1:=(R0.1 h).1;have h2:i<(su S l).length:=h1;rw[pl]at h2;have h3:=HS S (aj (show i<l.length by omega)) (show i<6 by omega);have h4:(su S l)[i]?=some o:=h;rw[h3]at h4;exact⟨by omega,_,aj om_,(Ue h4).symm⟩
theorem RC:∀x∈colK,Qj x:=by
 intro x a;simp only[colK,SY,TQ,Vf]at a;rcases a with rfl|rfl|rfl
 .exact⟨by decide +kernel,λq h=>by simp at h,by decide⟩
 .exact⟨by decide +kernel,λq h=>by simp at h;subst h;decide +kernel,by decide⟩
 exact⟨by decide +kernel,λq h=>by simp at h,by decide⟩
theorem PV (S:Sht)(H:Hts)(l:List Sgt)(a:∀s∈l,SgtR s):BookR (iY S H l):=by
 refine⟨?_,RC,(by show colK.length<=1000000;decide), ?_⟩
 .intro s h;obtain⟨q,b,rfl⟩:=SL.1 h;exact iF (IS _ H q b)
 intro o c;obtain⟨i,d⟩:=List.mem_iff_getElem?.1 c;obtain⟨_,s,e,rfl⟩:=JB d;exact Rf S s i (a s (aK e))
theorem Mt (S:Sht)(H:Hts)(l:List Sgt):0<bp (iY S H l)/\bp (iY S H l)<=6:=by
 refine⟨?_,iy _ _ _ _⟩;show 0<(cI (S.kd % 8) S.a S.b S.h).length;rw[cI,ar];exact Aa _
def PlanIn (C:Mem)(pv:Value)(S:Sht)(H:Hts)(l:List Sgt):Prop:=∃A c,pv=.agg ⟨OV S H (.slice A l.length c)⟩/\Sl C 9 (.slice A l.length c) (l.map Qf)
structure PlanR (S:Sht)(H:Hts)(l:List Sgt):Prop where
 kd:S.kd<256
 h:RZ H
 s:∀s∈l,SgtR s
def MQ (s p:Nat)(a b:Int):Prop:=a<0∨(s:Int)<=a∨b<0∨(p:Int)<=b
instance (s p:Nat) (a b:Int):Decidable (MQ s p a b):=by unfold MQ;infer_instance
def Nb (n:Nat)(x:Int):Prop:=x<0∨(n:Int)<=x
instance (n:Nat) (x:Int):Decidable (Nb n x):=by unfold Nb;infer_instance
open Go Go.Jog Go.ChangeShapes Go.WideShapes Go.ChangeAt Go.RowKit
set_option maxRecDepth 100000
theorem own:ownKnob Tryz.prog.godebug=none:=by kernel_rfl
section
variable {H:Type} {enc:TypeId × Value->H} {W:World} {spare:Nat->Bool} {held:Bool}
theorem Se {n:Nat}{c:Value}{y:DataW H × List MemPlace}(h:DataW.trod enc Tryz.prog W 0 spare held n 5 [c]=some y):∃b:UInt8,c=.int .u8 b.toNat:=by
 obtain⟨m,h1,_,h3⟩:=DataW.trod_int Tryz.underlying5 h;simp only[Vv,Wn]at h1;subst h1;have a:0<=m/\m<256:=by
  simp[Lit.wf,IntKind.min,IntKind.max,IntKind.signed,IntKind.bits]at h3;omega
 refine⟨UInt8.ofNat m.toNat, ?_⟩;congr 1;simp only[UInt8.toNat_ofNat'];omega
theorem oC {n:Nat}{c:Value}{y:DataW H × List MemPlace}(h:DataW.trod enc Tryz.prog W 0 spare held n 5 [c]=some y):∃m:Nat,c=.int .u8 m/\m<256:=by
 obtain⟨b,rfl⟩:=Se h;exact⟨b.toNat,U,b.toNat_lt⟩
theorem nZ {n:Nat}{c:Value}{y:DataW H × List MemPlace}(h:DataW.trod enc Tryz.prog W 0 spare held n 22 [c]=some y):∃m:Int,c=.int .i8 m/\-128<=m/\m<=127:=by
 obtain⟨m,h1,_,h3⟩:=DataW.trod_int Tryz.underlying22 h;simp only[Vv,Wn]at h1;refine⟨m,h1, ?_⟩;simp[Lit.wf,IntKind.min,IntKind.max,IntKind.signed,IntKind.bits]at h3;omega
theorem Jz {n:Nat}{c:Value}{y:DataW H × List MemPlace}(h:DataW.trod enc Tryz.prog W 0 spare held n 4 [c]=some y):∃b:Bool,c=.bool b:=by
 obtain⟨b,h1,_⟩:=DataW.trod_bool Tryz.underlying4 h;simp only[Vv,Wn]at h1;exact⟨b,h1⟩
theorem zu {t e:TypeId}{k n:Nat}{a:List Value}{y:DataW H × List MemPlace}(b:Tryz.prog.underlying t=some (.array k e))(c:Tryz.prog.cellsOf e=1)(h:DataW.trod enc Tryz.prog W 0 spare held n t a=some y) :
  ∃m,∀i,i<k->∃z,DataW.trod enc Tryz.prog W 0 spare held m e ((a.drop i).take 1)=some z:=by
 obtain⟨xs,m,_,_,_,g,d⟩:=DataW.trod_array b h;refine⟨m,λi f=>?_⟩;have h1:=d i f;rw[c,T0]at h1;rw[h1,aj om_];exact⟨_,U⟩
theorem pC:Tryz.prog.cellsOf 5=1:=by kernel_rfl
theorem pD:Tryz.prog.cellsOf 22=1:=by kernel_rfl
theorem ui:Tryz.prog.cellsOf 4=1:=by kernel_rfl
theorem zk:Tryz.prog.cellsOf 23=2:=by kernel_rfl
theorem Js:Tryz.prog.cellsOf 135=2:=by kernel_rfl
theorem Mo:Tryz.prog.cellsOf 136=3:=by kernel_rfl
theorem Mn:Tryz.prog.cellsOf 26=6:=by kernel_rfl
theorem Kz {n:Nat}{c d e f:Value}{y:DataW H × List MemPlace}(h:DataW.trod enc Tryz.prog W 0 spare held n 25 [c,d,e,f]=some y):∃S:Sht,[c,d,e,f]=([.int .u8 S.kd,.int .i8 S.a,.int .i8 S.b,.bool S.h]:List Value)/\S.kd<256:=by
 obtain⟨y0,y1,y2,l,_,o,h0,h1,h2⟩:=Go.Deep.trod_struct3 Tryz.underlying25 h;simp only[pC,zk,ui]at h0 h1 h2;obtain⟨kd,rfl,i⟩:=oC h0;obtain⟨m,g⟩:=zu Tryz.underlying23 pD h1;obtain⟨p,j⟩:=g 0 dc_;obtain⟨q,k⟩:=g 1 dc_;obtain⟨a,rfl,_⟩:=nZ j;obtain⟨b,rfl,_⟩:=nZ k;obtain⟨hh,rfl⟩:=Jz h2;exact⟨⟨kd,a,b,hh⟩,U,i⟩
theorem Fp {n:Nat}{b c d e f g i:Value}{y:DataW H × List MemPlace}(h:DataW.trod enc Tryz.prog W 0 spare held n 28 [b,c,d,e,f,g,i]=some y):∃G:Hts,[b,c,d,e,f,g,i]=Rp G/\RZ G:=by
 obtain⟨y0,y1,u,_,v,h0,h1⟩:=Go.ChangeShapes.trod_struct2 Tryz.underlying28 h;simp only[Mn,ui]at h0 h1;obtain⟨m,a⟩:=zu Tryz.underlying26 pD h0;obtain⟨w,k⟩:=a 0 dc_;obtain⟨x,l⟩:=a 1 dc_;obtain⟨A,o⟩:=a 2 dc_;obtain⟨B,p⟩:=a 3 dc_;obtain⟨C,q⟩:=a 4 dc_;obtain⟨D,r⟩:=a 5 dc_;obtain⟨x0,rfl,g0⟩:=nZ k;obtain⟨x1,rfl,E⟩:=nZ l;obtain⟨x2,rfl,F⟩:=nZ o;obtain⟨x3,rfl,I⟩:=nZ p;obtain⟨s,rfl,J⟩:=nZ q;obtain⟨t,rfl,K⟩:=nZ r;obtain⟨hh,rfl⟩:=Jz h1;refine⟨⟨x0,x1,x2,x3,s,t,hh⟩,U, ?_⟩;intro z j;simp only[J1,SY,TQ,Vf]at j;rcases j with rfl|rfl|rfl|rfl|rfl|rfl <;> assumption
theorem wZ {P:Program}{t:TypeId}{b c d e f:Field}{j:Nat}{a:List Value}{x:DataW H × List MemPlace}(k:P.underlying t=some (.struct #[b,c,d,e,f]))(h:DataW.trod enc P W 0 spare held j t a=some x) :
  ∃y0 y1 y2 y3 i n,DataW.trod enc P W 0 spare held n b.type ((a.drop b.offset).take (P.cellsOf b.type))=some y0/\DataW.trod enc P W 0 spare held n c.type ((a.drop c.offset).take (P.cellsOf c.type))=some y1/\DataW.trod enc P W 0 spare held n d.type ((a.drop d.offset).take (P.cellsOf d.type))=some y2 /\
   DataW.trod enc P W 0 spare held n e.type ((a.drop e.offset).take (P.cellsOf e.type))=some y3/\DataW.trod enc P W 0 spare held n f.type ((a.drop f.offset).take (P.cellsOf f.type))=some i:=by
 obtain⟨xs,n,_,rfl,m,l,g⟩:=DataW.trod_struct k h
 match xs,l with
|[y0,y1,y2,y3,i],_=>exact⟨y0,y1,y2,y3,i,n,by simpa using g 0 b rfl,by simpa using g 1 c rfl,by simpa using g 2 d rfl,by simpa using g 3 e rfl,by simpa using g 4 f rfl⟩
theorem Kv {n:Nat}{a:List Value}{y:DataW H × List MemPlace}(e:a.length=9)(h:DataW.trod enc Tryz.prog W 0 spare held n 138 a=some y):∃s:{s:Sgt // SgtR s},a=Qf s.1:=by
 obtain⟨y0,y1,y2,y3,x,z,h0,h1,h2,h3,h4⟩:=wZ Tryz.underlying138 h
 match a,e with
|[c0,A,c2,B,C,D,E,F,G],_ =>
   simp only[pC,zk,Js,Mo]at h0 h1 h2 h3 h4;obtain⟨kd,rfl,f⟩:=oC h0;obtain⟨I,c⟩:=zu Tryz.underlying23 pD h1;obtain⟨w0,g⟩:=c 0 dc_;obtain⟨w1,i⟩:=c 1 dc_;obtain⟨px,rfl,j⟩:=nZ g;obtain⟨py,rfl,k⟩:=nZ i;obtain⟨J,a2⟩:=zu Tryz.underlying135 pC h2;obtain⟨K,l⟩:=a2 0 dc_;obtain⟨L,m⟩:=a2 1 dc_;obtain⟨u0,rfl,o⟩:=oC l;obtain⟨u1,rfl,p⟩:=oC m;obtain⟨d,rfl,hd⟩:=oC h3;obtain⟨M,b⟩:=zu Tryz.underlying136 pD h4;obtain⟨N,q⟩:=b 0 dc_;obtain⟨O,r⟩:=b 1 dc_;obtain⟨P,t⟩:=b 2 dc_;obtain⟨n0,rfl,u⟩:=nZ q;obtain⟨n1,rfl,v⟩:=nZ r;obtain⟨n2,rfl,w⟩:=nZ t;exact⟨⟨⟨kd,px,py,u0,u1,d,n0,n1,n2⟩,⟨f,j,k,o,p,hd,u,v,w⟩⟩,U⟩
theorem GV {b:Nat}{v:Value}{x:DataW H × List MemPlace}(h:DataW.trod enc Tryz.prog W 0 spare held b 29 [v]=some x):∃l:List Sgt,Sl (sH W) 9 v (l.map Qf)/\∀s∈l,SgtR s:=by
 obtain⟨l,a⟩:=GU (λs:{s:Sgt // SgtR s}=>Qf s.1) Tryz.underlying29 kr_ dc_ (λn cs y a hy=>Kv a hy) h;refine⟨l.map (·.1),by rw[TH];exact a,λs hs=>?_⟩;obtain⟨z,_,rfl⟩:=SL.1 hs;exact z.2
theorem OU {n:Nat}{a:List Value}{y:DataW H × List MemPlace}(h:DataW.trod enc Tryz.prog W 0 spare held n 31 a=some y):∃S G l,PlanIn (sH W) (.agg ⟨a⟩) S G l/\PlanR S G l:=by
 obtain⟨y0,y1,y2,o,_,d,h0,h1,h2⟩:=Go.Deep.trod_struct3 Tryz.underlying31 h;have g:Tryz.prog.cellsOf 31=12:=by kernel_rfl
 have h4:Tryz.prog.cellsOf 25=4:=by kernel_rfl
 have i:Tryz.prog.cellsOf 28=7:=by kernel_rfl
 have hs:Tryz.prog.cellsOf 29=1:=by kernel_rfl
 rw[g]at d
 match a,d with
|[c0,p,c2,q,r,s,t,u,v,w,x,z],_ =>
  simp only[h4,i,hs]at h0 h1 h2;obtain⟨S,e,j⟩:=Kz h0;obtain⟨G,f,k⟩:=Fp h1;obtain⟨l,b,m⟩:=GV h2;obtain⟨A,c,rfl,_⟩:=id b;simp only[Vv,Wn]at e;obtain⟨rfl,rfl,rfl,rfl⟩:=e;simp only[Rp,Vv,Wn]at f;obtain⟨rfl,rfl,rfl,rfl,rfl,rfl,rfl⟩:=f;simp only[ar]at b⊢;exact⟨S,G,l,⟨A,c,U,b⟩,j,k,m⟩
end
def mJ (cs:Array Value):Obj->Obj
|.cells _ t frozen=>.cells cs t frozen
|o=>o
def Ji:Array Value:=(Lib.deBruijn32tab.map λz:Nat=>Value.int .u8 (z:Int)).toArray
def Jh:Array Value:=(Lib.deBruijn64tab.map λz:Nat=>Value.int .u8 (z:Int)).toArray
def E2:Array Value:=(Lib.pow10Tab.map λz=>Value.int .u64 z).toArray
def Hm:ByteArray:=⟨#[118,97,108,117,101,32,111,117,116,32,111,102,32,114,97,110,103,101]⟩
def EE:ByteArray:=⟨#[105,110,118,97,108,105,100,32,115,121,110,116,97,120]⟩
noncomputable def low:Nat:=(World.holding Tryz.prog default ⟨#[],#[],[]⟩).heap.size
noncomputable def rB (os:Os):World :=
 let w0:=World.holding Tryz.prog os ⟨#[.cells #[.string Hm] 416,.cells #[.string EE] 416],#[],[]⟩
 { w0 with heap:=((((w0.heap.modify 4 (mJ Ji)).modify 5 (mJ Jh)).modify 3 (mJ E2)).modify 2 (mJ #[.iface 414 (.pointer (some ⟨low,0,none⟩))])).modify 1 (mJ #[.iface 414 (.pointer (some ⟨low+1,0,none⟩))]) }
theorem N2 {W : World} (h : laidMet Tryz.prog [("math/bits.deBruijn32tab", Rows.laid_math_bits_deBruijn32tab), ("math/bits.deBruijn64tab", Rows.laid_math_bits_deBruijn64tab), ("internal/strconv.uint64pow10", Rows.laid_internal_strconv_uint64pow10), ("strconv.ErrRange", Rows.laid_strconv_ErrRange), ("strconv.ErrSyntax", Rows.laid_strconv_ErrSyntax)] W) : Tabs (sH W) := by
 have h1:=h.tail;have h2:=h1.tail;have b:(Rows.laid_math_bits_deBruijn64tab:DataW Unit)=Lib.tabData .u8 (Lib.deBruijn64tab.map λz:Nat=>(z:Int)):=by rfl
 rw[b]at h1;have a:=Lib.tabIs_of_head (g:=5) (t:=418) (e:=5) (n:=64) kr_ kr_ Tryz.underlying418 Tryz.underlying5 kr_ kr_ h1;have c:(Rows.laid_internal_strconv_uint64pow10:DataW Unit)=Lib.tabData .u64 Lib.pow10Tab:=by rfl
 rw[c]at h2;have d:=Lib.tabIs_of_head (g:=3) (t:=412) (e:=285) (n:=20) kr_ kr_ Tryz.underlying412 Tryz.underlying285 kr_ kr_ h2;refine⟨VarC.ofWorld d, ?_⟩;unfold Lib.TabIs at a;rw[TH]at a;exact VarC.ofWorld a
theorem DG:laidOutB Tryz.prog=true:=by kernel_rfl
section
variable {H:Type} {enc:TypeId × Value->H} {W:World} {spare:Nat->Bool} {held:Bool}
theorem N8 {n:Nat}{d:List Value}{y:DataW H × List MemPlace}(h:DataW.trod enc Tryz.prog W 0 spare held n 113 d=some y):∃a b c:Nat,d=([.int .u8 a,.int .u8 b,.int .u8 c]:List Value)/\a<256/\b<256/\c<256:=by
 obtain⟨y0,y1,y2,j,_,f,h0,h1,h2⟩:=Go.Deep.trod_struct3 Tryz.underlying113 h;have e:Tryz.prog.cellsOf 113=3:=by kernel_rfl
 rw[e]at f
 match d,f with
|[c0,k,c2],_ =>
  simp only[pC]at h0 h1 h2;obtain⟨a,rfl,g⟩:=oC h0;obtain⟨b,rfl,i⟩:=oC h1;obtain⟨c,rfl,e⟩:=oC h2;exact⟨a,b,c,U,g,i,e⟩
end
end Go.Proofs.YtfjcldheldflbaaGreatDoor
namespace Go.Proofs.YtfjcldheldflbaaGreatDoor
open Go.Proofs.Tryz
open Go Go.Jog
set_option maxRecDepth 100000
variable {a b:Int}{ds fs:List Rat}{h:Bool}{i j k:Nat}{k0 k1 k2:Int}{m n:Nat}{p:Pt}{pts:List Pt}{q:Rat}{rows:List (List Str × Str)}{rs:List (List Rat × Rat)}{t:Tri}{vs:List Value}{w x0 x1 x2 x3 y0 y1 y2 y3 z:Int}{α:Type}{l:List α}
theorem CX (a:w≠0)(h:q*w=z):q=kV z w:=by
 have c:(w:Rat)≠0:=by simpa using a
 unfold kV;rw[Rat.mkRat_eq_div];have b:q=z / w:=by grind
 rw[b];split
 .rename_i d;have:((w.natAbs:Nat):Int)=-w:=by omega
  rw[show((w.natAbs:Nat):Rat)=(((w.natAbs:Nat):Int):Rat) from rfl,this];simp only[Rat.intCast_neg];grind
 have:((w.natAbs:Nat):Int)=w:=by omega
 rw[show((w.natAbs:Nat):Rat)=(((w.natAbs:Nat):Int):Rat) from rfl,this]
theorem mV (a:w≠0):kV z w*w=z:=by
 have b:(w:Rat)≠0:=by simpa using a
 have h:=CX (q:=(z:Rat) / w) (z:=z) a (by grind);rw[<- h];grind
theorem qN (a:w≠0)(h:q*w=z)(b:z.natAbs<1000000000)(c:w.natAbs<1000000000):QB 1 q:=by
 rw[CX a h];exact og a b c
def iA (x0 y0 x1 y1 x2 y2:Int):Int:=(x1-x0)*(y2-y0)-(y1-y0)*(x2-x0)
def At4 (p:Pt)(x y:Int):Prop:=p.1*4=x/\p.2*4=y
def Qtr (p:Pt):Prop:=∃x y:Int,At4 p x y/\(-600<=x/\x<=600)/\(-600<=y/\y<=600)
def Hlf (z:Rat):Prop:=∃k:Int,z*2=k/\(-38<=k/\k<=38)
theorem nt {a b c:Pt}(d:At4 a x0 y0)(e:At4 b x1 y1)(f:At4 c x2 y2):dQ a b c*16=(iA x0 y0 x1 y1 x2 y2:Int):=by
 unfold iA dQ;simp only[Vc,TF];rw[<- d.1,<- d.2,<- e.1,<- e.2,<- f.1,<- f.2];grind
theorem jb {M K:Nat}(c:a.natAbs<=M)(d:b.natAbs<=K):(a*b).natAbs<=M*K:=by
 rw[T8];exact T2 c d
theorem AS (h:(-600<=x0/\x0<=600)/\(-600<=y0/\y0<=600)/\(-600<=x1/\x1<=600)/\(-600<=y1/\y1<=600)/\(-600<=x2/\x2<=600)/\(-600<=y2/\y2<=600)):(iA x0 y0 x1 y1 x2 y2).natAbs<=2880000:=by
 have h1:=jb (a:=x1-x0) (b:=y2-y0) (M:=1200) (K:=1200) om_ om_;have h2:=jb (a:=y1-y0) (b:=x2-x0) (M:=1200) (K:=1200) om_ om_;unfold iA;omega
theorem xU {n d:Rat}{N W:Int}(b:n*16=N)(c:d*16=W)(a:d≠0):W≠0/\n / d*W=N:=by
 constructor
 .intro h;subst h;exact a (by grind)
 grind
theorem Qw (a:∀j,Qtr (cor pts t j))(b:dQ (cor pts t 0) (cor pts t 1) (cor pts t 2)≠0)(c:Qtr p)(j:Nat):QB 1 (wgt pts t p j):=by
 obtain⟨x0,y0,h0,d,e⟩:=a 0;obtain⟨x1,y1,h1,f,g⟩:=a 1;obtain⟨x2,y2,h2,h,i⟩:=a 2;obtain⟨x3,y3,h3,k,l⟩:=a ((j+1) % 3);obtain⟨m,n,h4,o,q⟩:=a ((j+2) % 3);obtain⟨r,s,h5,u,v⟩:=c;obtain⟨w,x⟩:=xU (nt h5 h3 h4) (nt h0 h1 h2) b;have k1:=AS (x0:=r) (y0:=s) (x1:=x3) (y1:=y3) (x2:=m) (y2:=n) ⟨u,v,k,l,o,q⟩;have k2:=AS (x0:=x0) (y0:=y0) (x1:=x1) (y1:=y1) (x2:=x2) (y2:=y2) ⟨d,e,f,g,h,i⟩;exact qN w x om_ om_
theorem jr {a b c:Pt}{e f g:Rat}(i:At4 a x0 y0)(j:At4 b x1 y1)(k:At4 c x2 y2)(n:e*2=k0)(o:f*2=k1)(p:g*2=k2)(l:dQ a b c≠0) :
  iA x0 y0 x1 y1 x2 y2≠0/\(qu a b c e f g).1*(iA x0 y0 x1 y1 x2 y2:Int)=((2*((k1-k0)*(y2-y0)-(y1-y0)*(k2-k0)):Int):Rat)/\(qu a b c e f g).2*(iA x0 y0 x1 y1 x2 y2:Int)=((2*((x1-x0)*(k2-k0)-(k1-k0)*(x2-x0)):Int):Rat):=by
 have m:=nt i j k;have q:eM (b.1-a.1) (b.2-a.2) (c.1-a.1) (c.2-a.2)=dQ a b c:=by unfold eM dQ;grind
 refine⟨λh=>l (by rw[h]at m;grind), ?_, ?_⟩
 .unfold qu;simp only;rw[q,<- m];unfold eM;simp only[Vc,TF];rw[<- i.2,<- j.2,<- k.2,<- n,<- o,<- p];generalize dQ a b c=d at l;grind
 unfold qu;simp only;rw[q,<- m];unfold eM;simp only[Vc,TF];rw[<- i.1,<- j.1,<- k.1,<- n,<- o,<- p];generalize dQ a b c=d at l;grind
theorem kA {c d:Int}(h:a.natAbs<=76/\b.natAbs<=1200/\c.natAbs<=1200/\d.natAbs<=76):(a*b-c*d).natAbs<=182400:=by
 have h1:=jb h.1 h.2.1;have h2:=jb h.2.2.1 h.2.2.2;omega
theorem Kr (e:∀j,Qtr (cor pts t j))(h:dQ (cor pts t 0) (cor pts t 1) (cor pts t 2)≠0)(f:∀j,Hlf (fz fs t j)):QP 1 (dY pts fs t):=by
 obtain⟨x0,y0,h0,i,k⟩:=e 0;obtain⟨x1,y1,h1,l,m⟩:=e 1;obtain⟨x2,y2,h2,n,o⟩:=e 2;obtain⟨k0,p,v⟩:=f 0;obtain⟨k1,q,w⟩:=f 1;obtain⟨k2,r,x⟩:=f 2;obtain⟨g,s,u⟩:=jr h0 h1 h2 p q r h;have y:=AS (x0:=x0) (y0:=y0) (x1:=x1) (y1:=y1) (x2:=x2) (y2:=y2) ⟨i,k,l,m,n,o⟩;have z:=kA (a:=k1-k0) (b:=y2-y0) (c:=y1-y0) (d:=k2-k0) ⟨by omega,by omega,by omega,by omega⟩;have A:=kA (a:=k1-k0) (b:=x2-x0) (c:=x1-x0) (d:=k2-k0) ⟨by omega,by omega,by omega,by omega⟩;unfold dY;exact⟨qN g s om_ om_,qN g u om_ om_⟩
theorem Nc (c:At4 (cor pts t 0) x0 y0)(h:At4 (cor pts t 1) x1 y1)(i:At4 (cor pts t 2) x2 y2)(e:At4 p x3 y3)(d:fz fs t 0*2=k0)(j:fz fs t 1*2=k1)(k:fz fs t 2*2=k2)
  (l:dQ (cor pts t 0) (cor pts t 1) (cor pts t 2)≠0):onQ pts fs t p*((2*iA x0 y0 x1 y1 x2 y2:Int):Rat)=((k0*iA x0 y0 x1 y1 x2 y2+((k1-k0)*(y2-y0)-(y1-y0)*(k2-k0))*(x3-x0)+((x1-x0)*(k2-k0)-(k1-k0)*(x2-x0))*(y3-y0):Int):Rat):=by
 obtain⟨s,f,g⟩:=jr c h i d j k l;unfold onQ JY;simp only[VH,List.foldl_nil];have a:=f;have b:=g;unfold dY;generalize (qu (cor pts t 0) (cor pts t 1) (cor pts t 2) (fz fs t 0) (fz fs t 1) (fz fs t 2)).1=u at a⊢;generalize (qu (cor pts t 0) (cor pts t 1) (cor pts t 2) (fz fs t 0) (fz fs t 1) (fz fs t 2)).2=v at b⊢;clear f g;generalize ((k1-k0)*(y2-y0)-(y1-y0)*(k2-k0))=n1 at a⊢;generalize ((x1-x0)*(k2-k0)-(k1-k0)*(x2-x0))=n2 at b⊢;generalize iA x0 y0 x1 y1 x2 y2=w at a b⊢;simp only[Vc,TF,VS]at a b⊢;have m:=c.1;have n:=c.2;have o:=e.1;have q:=e.2;generalize fz fs t 0=x at d⊢;rw[<- m,<- n,<- o,<- q,<- d];have r:((2:Int):Rat)=2:=rfl;rw[r]at a b⊢;grind
theorem Rb (b:(-600<=x0/\x0<=600)/\(-600<=y0/\y0<=600)/\(-600<=x1/\x1<=600)/\(-600<=y1/\y1<=600)/\(-600<=x2/\x2<=600)/\(-600<=y2/\y2<=600))(g:(-600<=x3/\x3<=600)/\(-600<=y3/\y3<=600))(h:(-38<=k0/\k0<=38)/\(-38<=k1/\k1<=38)/\(-38<=k2/\k2<=38)) :
  (k0*iA x0 y0 x1 y1 x2 y2+((k1-k0)*(y2-y0)-(y1-y0)*(k2-k0))*(x3-x0)+((x1-x0)*(k2-k0)-(k1-k0)*(x2-x0))*(y3-y0)).natAbs<=600000000:=by
 have e:=AS b;have f:=kA (a:=k1-k0) (b:=y2-y0) (c:=y1-y0) (d:=k2-k0) ⟨by omega,by omega,by omega,by omega⟩;have i:=kA (a:=k1-k0) (b:=x2-x0) (c:=x1-x0) (d:=k2-k0) ⟨by omega,by omega,by omega,by omega⟩;have j:=jb (show k0.natAbs<=38 by omega) e;have k:=jb f (show(x3-x0).natAbs<=1200 by omega);have l:=jb (show((x1-x0)*(k2-k0)-(k1-k0)*(x2-x0)).natAbs<=182400 by omega) (show(y3-y0).natAbs<=1200 by omega);omega
theorem Sp (a:∀j,Qtr (cor pts t j))(c:dQ (cor pts t 0) (cor pts t 1) (cor pts t 2)≠0)(b:∀j,Hlf (fz fs t j))(n:Qtr p):QB 1 (onQ pts fs t p):=by
 obtain⟨x0,y0,h0,d,e⟩:=a 0;obtain⟨x1,y1,h1,f,g⟩:=a 1;obtain⟨x2,y2,h2,h,i⟩:=a 2;obtain⟨x3,y3,h3,o⟩:=n;obtain⟨k0,k,q⟩:=b 0;obtain⟨k1,l,r⟩:=b 1;obtain⟨k2,m,s⟩:=b 2;have u:=(jr h0 h1 h2 k l m c).1;have v:=AS (x0:=x0) (y0:=y0) (x1:=x1) (y1:=y1) (x2:=x2) (y2:=y2) ⟨d,e,f,g,h,i⟩;have w:=Rb ⟨d,e,f,g,h,i⟩ o ⟨q,r,s⟩;exact qN om_ (Nc h0 h1 h2 h3 k l m c) om_ om_
theorem DS (a:w=1∨w=2∨w=4)(e:-150<=z/\z<=150):∃x:Int,kV z w*4=x/\(-600<=x/\x<=600):=by
 have h:=mV (z:=z) (w:=w) om_;have b:((1:Int):Rat)=1:=rfl;have c:((2:Int):Rat)=2:=rfl;have d:((4:Int):Rat)=4:=rfl;rcases a with rfl|rfl|rfl
 .refine⟨4*z, ?_,by omega⟩;rw[TF,<- h,b,d];grind
 .refine⟨2*z, ?_,by omega⟩;rw[TF,<- h,c];grind
 exact⟨z,h,by omega⟩
theorem yg {x y n:Int}(c:n=1∨n=2)(k:-128<=x/\x<=127)(l:-128<=y/\y<=127):Qtr (dN a b h x y n):=by
 have m:=zQ a;have o:=zQ b;have hh:eg h=1∨eg h=2:=by cases h <;> simp[eg]
 have d:eg h*n=1∨eg h*n=2∨eg h*n=4:=by rcases hh with e|e <;> rcases c with f|f <;> rw[e,f] <;> omega
 obtain⟨u,g,i⟩:=DS (z:=x+a.tmod 8*n) d (by rcases c with f|f <;> subst f <;> omega);obtain⟨v,j,bv⟩:=DS (z:=y+b.tmod 8*n) d (by rcases c with f|f <;> subst f <;> omega);exact⟨u,v,⟨g,j⟩,i,bv⟩
theorem Da :∀p∈cI m a b h,Qtr p:=by
 intro p hp;obtain⟨x,c,rfl⟩:=SL.1 hp;have:=MW m x c;exact yg (.inl U) om_ om_
theorem BV:Qtr (0,0):=⟨0,0,⟨by decide +kernel,by decide +kernel⟩,by decide,by decide⟩
theorem iL {P:α->Prop}{d:α}(h:∀x∈l,P x)(a:P d):P (l.getD i d):=by
 rw[al];cases h1:l[i]? with
|none=>exact a
|some x=>exact h x (aK h1)
theorem vY (j:Nat):Qtr (cor (cI m a b h) t j):=iL Da BV
theorem Pu (n:Nat)(H:Hts):∀q∈fsK n H,Hlf q:=by
 intro q a;obtain⟨i,_,rfl⟩:=SL.1 a;have b:=Gy ((J1 H).getD (i % 6) 0);generalize ((J1 H).getD (i % 6) 0).tmod 20=z at b⊢;have c:((1:Int):Rat)=1:=rfl;have d:((2:Int):Rat)=2:=rfl;rcases vD H.half with e|e
 .have h:=mV (z:=z) (w:=1) dc_;rw[e];refine⟨2*z, ?_,by omega⟩;rw[TF,<- h,c,d];grind
 rw[e];exact⟨z,mV dc_,by omega⟩
theorem uA:Hlf 0:=⟨0,by decide +kernel,by decide⟩
theorem O1:Hlf 1:=⟨2,by decide +kernel,by decide⟩
theorem No {H:Hts}(j:Nat):Hlf (fz (fsK n H) t j):=iL (Pu n H) uA
theorem Cd (j:Nat):Hlf (fz (wY n k) t j):=iL (λq a=>by
 rcases Ci q a with rfl|rfl
 .exact uA
 exact O1) uA
theorem Dc (S:Sht)(s:Sgt)(a:SgtR s):Qtr (mj S s):=by
 unfold mj;split
 .exact yg (.inr U) a.px a.py
 exact iL Da BV
theorem uM {P:Rat->Prop}{m:List (Nat × Rat)}(a:P 0)(h:∀x∈m,P x.2):∀q∈tm n m,P q:=by
 intro q b;obtain⟨j,_,rfl⟩:=SL.1 b;cases h1:eh m j with
|none=>exact a
|some v =>
  exact h _ (gC h1)
theorem qL {s p:Nat}{a:List (Nat × Rat)}{b c:Rat}(e:∀x∈a,QB 1 x.2)(f:QB 3 b)(d:QB 1 c):Qh (ir s p k a b c):=by
 refine⟨uM (QB_zero.le dc_) ?_,(jO d f).le dc_⟩;intro x g;obtain⟨y,hy,rfl⟩:=SL.1 g;exact(jO d (e y hy)).le dc_
theorem KH {B:Bk}{o:Obs}{z:Rat}(c:∀j,QB 1 (wgt B.pts t p j))(a:∀j,QP 1 (slf B.pts t j))(d:QB 3 (lM o z))(f:o.kind≠1->o.kind≠2->QB 3 (rN o)/\QB 3 (jz o)):∀r∈rowsO B o p t z,Qh r:=by
 have e:∀x∈atT t (wgt B.pts t p),QB 1 x.2:=gN (c 0) (c 1) (c 2);have g:∀x∈atT t (λj=>(slf B.pts t j).1),QB 1 x.2:=gN (a 0).1 (a 1).1 (a 2).1;have i:∀x∈atT t (λj=>(slf B.pts t j).2),QB 1 x.2:=gN (a 0).2 (a 1).2 (a 2).2;intro r hr;unfold rowsO at hr;split at hr
 .rcases SZ.1 hr with h|h
  .split at h
   .rw[S6.1 h];exact qL e d QB_one
   simp at h
  split at h
  .rw[S6.1 h];exact qL e d nU
  simp at h
 rename_i h1;split at hr
 .obtain⟨k,_,h⟩:=List.mem_flatMap.1 hr;obtain⟨sg,b,rfl⟩:=SL.1 h;exact qL e d (ta sg b)
 rename_i h2;obtain⟨l,m⟩:=f h1 h2;obtain⟨k,_,h⟩:=List.mem_flatMap.1 hr;rcases SZ.1 h with h|h
 .obtain⟨sg,b,rfl⟩:=SL.1 h;exact qL g l (ta sg b)
 obtain⟨sg,b,rfl⟩:=SL.1 h;exact qL i m (ta sg b)
def tiK (S:Sht)(s:Sgt):Nat:=(lu (cI (S.kd % 8) S.a S.b S.h) (shT (S.kd % 8)) (mj S s)).headD 0
def tK (S:Sht)(s:Sgt):Tri:=(shT (S.kd % 8)).getD (tiK S s) (0,0,0)
def zK (S:Sht)(H:Hts)(s:Sgt):Rat:=onQ (cI (S.kd % 8) S.a S.b S.h) (fsK (cI (S.kd % 8) S.a S.b S.h).length H) (tK S s) (mj S s)
theorem O4 (S:Sht)(s:Sgt)(i:Nat)(b:SgtR s):ObsAt (eW S s i) (mj S s):=by
 have a:=(uX S s b).1;refine⟨?_, ?_,(Hq a).1,(Hq a).2, ?_⟩
 .unfold eW;split
  .rfl
  split <;> rfl
 .unfold eW;split
  .rfl
  split <;> rfl
 unfold eW;split
 .intro h;exact absurd (show(1:Int)=2 from h) dc_
 split
 .intro _;exact ok1 (ue s.depth)
 intro h;exact absurd (show(3:Int)=2 from h) dc_
theorem HT (S:Sht)(s:Sgt)(i:Nat):(eW S s i).kind≠1->(eW S s i).kind≠2->(aS (eW S s i).nx=true/\aS (eW S s i).ny=true/\aS (eW S s i).nz=true)/\QB 1 (dx (eW S s i).nx)/\QB 1 (dx (eW S s i).ny)/\QB 1 (dx (eW S s i).nz)/\dx (eW S s i).nz≠0:=by
 have h0:=oQ s.n0;have h1:=oQ s.n1;have h2:=pp s.n2;have a:=eB (s.n0.tmod 5) om_;have l1:=eB (s.n1.tmod 5) om_;have l2:=eB (fw s.n2) om_;have b:=vx s.n2;unfold eW;split
 .intro h;exact absurd rfl h
 split
 .intro _ h;exact absurd rfl h
 intro _ _;simp only;rw[de (ok1 a),de (ok1 l1),de (ok1 l2)];exact⟨⟨ok1 a,ok1 l1,ok1 l2⟩,a,l1,l2,by simpa using b⟩
theorem Dp (S:Sht)(s:Sgt)(i:Nat):(eW S s i).kind=2->(eW S s i).depth=qtx (kV ((s.depth % 12:Nat):Int) 2):=by
 unfold eW;split
 .intro h;exact absurd (show(1:Int)=2 from h) dc_
 split
 .intro _;rfl
 intro h;exact absurd (show(3:Int)=2 from h) dc_
theorem Le (S:Sht)(s:Sgt)(i:Nat){z:Rat}(a:QB 1 z):QB 3 (lM (eW S s i) z):=by
 unfold lM;split
 .rename_i h;rw[Dp S s i h,de (ok1 (ue s.depth))];have h:=fx a (ue s.depth);exact h.le dc_
 exact a.le dc_
theorem HU (S:Sht)(s:Sgt)(i:Nat)(b:(eW S s i).kind≠1)(c:(eW S s i).kind≠2):QB 3 (rN (eW S s i))/\QB 3 (jz (eW S s i)):=by
 obtain⟨_,d,l1,l2,a⟩:=HT S s i b c;exact⟨(jP (eQ d) l2 a).le dc_,(jP (eQ l1) l2 a).le dc_⟩
theorem locK (S:Sht)(s:Sgt)(c:SgtR s):(∃r,lu (cI (S.kd % 8) S.a S.b S.h) (shT (S.kd % 8)) (mj S s)=tiK S s::r)/\(shT (S.kd % 8))[tiK S s]?=some (tK S s):=by
 have d:=(uX S s c).2;unfold tK tiK;cases h:lu (cI (S.kd % 8) S.a S.b S.h) (shT (S.kd % 8)) (mj S s) with
|nil=>exact absurd h d
|cons i r =>
  have hm:i∈lu (cI (S.kd % 8) S.a S.b S.h) (shT (S.kd % 8)) (mj S s):=by rw[h];exact SK
  unfold lu at hm;have e:=S7.1 (Uf.1 hm).1;refine⟨⟨r,U⟩, ?_⟩;simp only[List.headD_cons];rw[al,aj e];rfl
theorem Sy (S:Sht)(H:Hts)(B:Bk)(s:Sgt)(i:Nat)(c:SgtR s)(f:B.pts=cI (S.kd % 8) S.a S.b S.h)(g:B.tris=shT (S.kd % 8))(m:0<=ic (isU (eW S s i).upper) B.col 0) :
  Fine B (fsK (cI (S.kd % 8) S.a S.b S.h).length H) (eW S s i) (mj S s) (tiK S s) (tK S s) (zK S H s):=by
 obtain⟨pts,tris,terr,col,obs⟩:=B;simp only at f g;subst f g;obtain⟨n,_⟩:=gW (S.kd % 8) (Ts _ dc_) S.a S.b S.h;obtain⟨⟨r,hr⟩,ht⟩:=locK S s c;have d:=kr n.ok (aK ht);have hp:=Dc S s c;have k:∀j,QB 1 (wgt (cI (S.kd % 8) S.a S.b S.h) (tK S s) (mj S s) j):=Qw (λj=>vY j) d hp;have l:∀j,QP 1 (slf (cI (S.kd % 8) S.a S.b S.h) (tK S s) j):=λj=>Kr (λj=>vY j) d (λj=>Cd j);have e:QB 1 (zK S H s):=Sp (λj=>vY j) d (λj=>No j) hp;have hh:=Le S s i e;refine⟨O4 S s i c,⟨r,hr⟩,ht, ?_,e.le dc_,hh.le dc_,λj=>(k j).le dc_,m,λj=>(l j).le dc_, ?_, ?_⟩
 .show F7 (cI (S.kd % 8) S.a S.b S.h) (shT (S.kd % 8)) _ _=_;unfold F7;rw[hr];show E8 (zK S H s)=_;unfold E8;rw[aL (ok1 e)]
 .intro h1 h2;obtain⟨h0,o,l1,l2,p⟩:=HT S s i h1 h2;exact⟨h0,o.le dc_,l1.le dc_,l2.le dc_,p⟩
 exact KH k l hh (HU S s i)
theorem gY (C:Mem)(n:Nat)(a:n<=1000000):Jog.Fn cx.P 99 [i_ n] C [] λu _g c=>∃b,u=s_ b n n/\c=[.arr u 32 1 n (List.replicate n (ag [48]))]:=by
 refine Wy func99 6 U3 λw0=>U0 1 [0] U<|WQ [(2,3)] U λR d=>WP [[ag [48]]] U12 λh _ _ e=>Wt U6<|D.call (ka _ _ n [48] e.m_ a) U (.inr dc_) U6 (SQ _) fl_ λi _ j _ f=>C6 1 [2] d U ?_;obtain⟨b,rfl,rfl⟩:=f;refine WE (W6 U U ?_);exact⟨b,U,U⟩
theorem dL {f:α->List Value}{x:α}(h:l[i]?=some x):(l.map f)[i]?=some (f x):=by rw[SI,h];rfl
def kL (s:Str):List Value:=[ag s]
def aP (q:Rat):List Value:=[ag (qtx q)]
theorem fy (l:List Rat):l.map aP=(l.map qtx).map kL:=by rw[TH];rfl
def K3 {α:Type}(p:α->Bool):List α->Nat->Int
|[],_=>-1
|x::l,k=>if p x then (k:Nat) else K3 p l (k+1)
theorem vc {a:Type}{p:a->Bool}:∀{l:List a}{i k:Nat}{x:a},l[i]?=some x->p x=true->(∀y∈l.take i,p y=false)->K3 p l k=((k+i:Nat):Int)
|y::l,0,k,x,h,hp,_=>by
  simp only[List.getElem?_cons_zero,Tv]at h;subst h;simp[K3,hp]
|y::l,i+1,k,x,h,hp,b=>by
  simp only[Uw]at h;have hy:p y=false:=b y am;have:=vc (k:=k+1) h hp (λz c=>b z (by simp[c]));simp only[K3,hy,TG,Ui,this];omega
theorem qS {a:Type}{p:a->Bool}:∀{l:List a}{k:Nat},(∀y∈l,p y=false)->K3 p l k=-1
|[],_,_=>rfl
|y::l,k,h=>by
  simp only[K3,h y SK,TG,Ui];exact qS λz b=>h z (SX _ b)
theorem E4 (p:α->Bool)(l:List α):(K3 p l 0=-1/\∀y∈l,p y=false)∨∃(i:Nat)(x:α),K3 p l 0=(i:Nat)/\l[i]?=some x/\p x=true/\∀y∈l.take i,p y=false:=by
 by_cases h:∀y∈l,p y=false
 .exact .inl ⟨qS h,h⟩
 right;have d:∀(l:List α),(¬ ∀y∈l,p y=false)->∃(i:Nat)(x:α),l[i]?=some x/\p x=true/\∀y∈l.take i,p y=false:=by
  intro l;induction l with
 |nil=>intro h;exact absurd (λy hy=>(by cases hy)) h
 |cons a l e =>
   intro h;by_cases b:p a=true
   .exact⟨0,a,U,b,by simp⟩
   have c:p a=false:=by simpa using b
   obtain⟨i,x,h1,h2,h3⟩:=e (λh2=>h (λy hy=>by
    rcases SY.1 hy with rfl|hy
    .exact c
    exact h2 y hy))
   refine⟨i+1,x,by simpa using h1,h2,λy hy=>?_⟩;rw[List.take_succ_cons]at hy;rcases SY.1 hy with rfl|hy
   .exact c
   exact h3 y hy
 obtain⟨i,x,h1,h2,h3⟩:=d l h;exact⟨i,x,by rw[vc h1 h2 h3,TX],h1,h2,h3⟩
theorem HD (C:Mem)(v:Value)(l:List Str)(g:Nat)(d:List Value)(a:Str->Bool)(e:Sl C 1 v (l.map kL))(_A:Jog.Enters cx.P g=true)
  (n:∀x∈l,∀D:Mem,C.le D->Gives cx.P g (ag x::d) D (.bool (a x))) :
  Gives cx.P 91 [v,.func (.func g) #[] ⟨d⟩] C (i_ (K3 a l 0)):=by
 obtain⟨o,c0,rfl,p,B,_⟩:=id e;have E:=mx_
 simp only[ar]at e p⊢;refine Wy func91 19 U3 λw0=>U0 1 [0,1] U<|U0 3 [0,1,7,8] U<|G.loop (λfr F q r=>∃(i:Nat),(i<=l.length/\∀y∈l.take i,a y=false)/\fr=[(0,[],.slice o l.length c0),(1,[],.func (.func g) #[] ⟨d⟩),(7,[],i_ l.length),(8,[],i_ i)]/\q=[]/\r=l.length-i) (hn_ [0,1,7,8] U) ⟨0,⟨SM _,by simp⟩,U,U,U⟩ (λfr H I m s t=>?_);obtain⟨i,⟨J,b⟩,rfl,rfl,rfl⟩:=t;refine U0 1 [0,1,7,8,9] U<|G.cd (λf=>?_) λf=>?_
 .have h:i<l.length:=by simpa using f
  obtain⟨x,c⟩:∃x,l[i]?=some x:=⟨l[i],aj h⟩;refine U0 2 [0,1,5,7,8] U<|U1 3 U λR j=>WG e.m_ U10 om_ (dL c) fl_ λK u=>Ws u U8<|WD (n x (aK c) _ mup) U7<|Ww [0,1,5,7,8,16] j U<|G.cd (λk=>?_) λk=>?_
  .have w:a x=true:=k;exact U0 2 [4] U<|Wx U2<|⟨by rw[vc c w b,TX],U⟩
  have z:a x=false:=k;refine Wu λR j=>Wz _ U U6<|C6 1 [0,1,7,8] j U<|WF (m':=l.length-(i+1)) om_ s (hn_ [0,1,7,8] U) ⟨i+1,⟨by omega,λy hy=>by
   rw[S9,c]at hy;rcases SZ.1 hy with hy|hy
   .exact b y hy
   simp only[T7,S6]at hy;subst hy;exact z⟩,U,U,U⟩
 have h:i=l.length:=by
  have:¬ i<l.length:=by simpa using f
  omega
 exact U0 1 [4] U<|Wx U2<|⟨by rw[h,SU]at b;rw[qS b],U⟩
theorem Ay (C:Mem)(v:Value)(l:List Str)(g:Nat)(b:List Value)(a:Str->Bool)(c:Sl C 1 v (l.map kL))(d:Jog.Enters cx.P g=true)
  (e:∀x∈l,∀D:Mem,C.le D->Gives cx.P g (ag x::b) D (.bool (a x))) :
  Gives cx.P 33 [v,.func (.func g) #[] ⟨b⟩] C (.bool (l.any a)):=by
 refine Wy func33 9 U3 λw0=>U0 1 [0,1] U<|U1 2 U λR f=>WD (HD _ v l g b a c.m_ d (λx h D j=>e x h D (Mem.le.trans mup j))) U7<|C6 2 [4] f U<|Wx U2<|⟨?_,U⟩;congr 1;rcases E4 a l with⟨h1,h2⟩|⟨i,x,h1,h2,h3,_⟩
 .rw[h1,List.any_eq_false.2 (λy hy=>by rw[h2 y hy];decide)];rfl
 rw[h1,Vl.2 ⟨x,aK h2,h3⟩];exact S4 om_
theorem mi (C:Mem)(a:Tabs C)(s:Str)(b:s.length<=999998):Gives cx.P 102 [ag s] C (.bool (!aS s)):=by
 refine Wy func102 6 U3 λw0=>U0 1 [0] U<|U1 1 U λR c=>WD (dD _ a.m_ s b) U7<|C6 2 [2] c U<|Wx U2 ?_;exact⟨by cases aS s <;> rfl,U⟩
def ep (n:Int)(l:List Str):Int:=if (l.length:Int)=n then ot (l.all aS) else 5
theorem pj (C:Mem)(e:Tabs C)(v:Value)(n:Int)(l:List Str)(a:Sl C 1 v (l.map kL))(b:∀s∈l,s.length<=999998):Gives cx.P 135 [v,i_ n] C (i_ (ep n l)):=by
 obtain⟨o,c0,rfl,f,p,_⟩:=id a;have q:=mx_
 simp only[ar]at a f⊢;refine Wy func135 13 U3 λw0=>U0 1 [0,1] U<|U0 5 [0,5] U<|G.cd (λh5=>?_) λh5=>?_
 .have g:¬ (l.length:Int)=n:=by simpa using h5
  exact U0 1 [4] U<|Wx U2<|⟨by unfold ep;rw[aF g],U⟩
 have d:(l.length:Int)=n:=by simpa using h5
 refine U1 1 U λR h=>WD (Ay _ _ l _ [] (λs=>!aS s) a.m_ U (λs i D j=>mi D (e.mono (Mem.le.trans mup j)) s (b s i))) U7<|C6 1 [10] h U<|G.cd (λc=>?_) λc=>?_
 .have k:l.all aS=false:=by
   obtain⟨s,h1,h2⟩:=Vl.1 (show(l.any λs=>!aS s)=true from c);exact Vi.2 ⟨s,h1,by simpa using h2⟩
  exact U0 1 [4] U<|Wx U2<|⟨by unfold ep;rw[aL d,k];rfl,U⟩
 have m:l.all aS=true:=by
  have h1:=List.any_eq_false.1 (show(l.any λs=>!aS s)=false from c);exact S3.2 λs b=>by simpa using h1 s b
 exact U0 1 [4] U<|Wx U2<|⟨by unfold ep;rw[aL d,m];rfl,U⟩
def RowsT (C:Mem)(v:Value)(rows:List (List Str × Str)):Prop:=∃vs:List Value,vs.length=rows.length/\(∀(i:Nat)(w:Value)(r:List Str × Str),vs[i]?=some w->rows[i]?=some r->Sl C 1 w (r.1.map kL))/\Sl C 2 v (List.zipWith (λw (r:List Str × Str)=>[w,ag r.2]) vs rows)
theorem RowsT.mono {C D:Mem}{v:Value}{a:List (List Str × Str)}(h:RowsT C v a)(b:C.le D):RowsT D v a:=by
 obtain⟨vs,h1,h2,h3⟩:=h;exact⟨vs,h1,λi w r c hr=>(h2 i w r c hr).mono b,h3.mono b⟩
theorem RowsT.m_ {C D:Mem}{v:Value}(h:RowsT C v rows)(a:C.le D:=by exact mup):RowsT D v rows:=RowsT.mono h a
theorem pL {w:Value}{r:List Str × Str}(a:vs[i]?=some w)(b:rows[i]?=some r):(List.zipWith (λw (r:List Str × Str)=>[w,ag r.2]) vs rows)[i]?=some [w,ag r.2]:=by
 rw[List.getElem?_zipWith,a,b]
theorem jS (h:vs.length=rows.length):(List.zipWith (λw (r:List Str × Str)=>[w,ag r.2]) vs rows).length=rows.length:=by simp[h]
def Hd (n:Int)(r:List Str × Str):Int:=if ep n r.1≠0 then ep n r.1 else ot (aS r.2)
def uL (n:Int):List (List Str × Str)->Int
|[]=>0
|r::l=>if Hd n r≠0 then Hd n r else uL n l
def D9 (n:Int)(rows:List (List Str × Str))(obj:List Str):Int:=if n<0∨60<n then 3 else if 300<rows.length then 4 else if ep n obj≠0 then ep n obj else uL n rows
def JM (rows:List (List Str × Str)):Prop:=∀r∈rows,(∀s∈r.1,s.length<=999998)/\r.2.length<=999998
theorem ml (C:Mem)(p:Tabs C)(n:Int)(E F:Value)(a:List (List Str × Str))(c:List Str)(M:RowsT C E a)(q:Sl C 1 F (c.map kL))(H:JM a)(N:∀s∈c,s.length<=999998) :
  Gives cx.P 73 [.agg ⟨[i_ n,E,F]⟩] C (i_ (D9 n a c)):=by
 obtain⟨vs,O,Q,t⟩:=M;obtain⟨S,c0,rfl,T,ae,_⟩:=id t;obtain⟨A1,c1,rfl,V,af,_⟩:=id q;have ag:=mx_
 simp only[jS O,ar]at t q T V⊢;refine Wy func73 48 U3 λw0=>Wu λR b=>WH U6 λW=>C6 1 [1] b U<|G.freeze 0 U λ_ _ d=>U1 1 U λR b=>Ws (bkT d 1) U8<|Wv 3 U<|WU U6 (λ_=>PtrTo.blockT (Mem.get d mup) _ 1) U3<|Wt U6<|WX U8<|C6 1 [1,7] b U<|G.cd (λu=>?_) λu=>?_
 .have f:n<0∨60<n:=by
   simp only[UG,SS]at u;omega
  exact U0 1 [2] U<|Wx U2<|⟨by unfold D9;rw[aL f],U⟩
 have f:¬ (n<0∨60<n):=by
  simp only[Up,Tk]at u;omega
 refine U1 1 U λR b=>Ws (bkT d 1) U8<|C6 3 [1,16] b U<|G.cd (λv=>?_) λv=>?_
 .have g:300<a.length:=by
   have:=aT v;omega
  exact U0 1 [2] U<|Wx U2<|⟨by unfold D9;rw[aF f,aL g],U⟩
 have g:¬ 300<a.length:=by
  have:=SJ v;omega
 refine U1 1 U λR b=>Ws (bkT d 1) U8<|Wt U6<|Ws (bkT d 1) U8<|WD (pj _ p.m_ _ n c q.m_ N) U7<|C6 1 [1,3] b U<|U0 2 [1,3,27] U<|G.cd (λx=>?_) λx=>?_
 .have y:ep n c≠0:=by simpa using x
  exact U0 2 [2] U<|Wx U2<|⟨by unfold D9;rw[aF f,aF g,aL y],U⟩
 have y:¬ ep n c≠0:=by simpa using x
 have z:D9 n a c=uL n a:=by unfold D9;rw[aF f,aF g,aF y]
 refine U1 1 U λR b=>Ws (bkT d 1) U8<|C6 2 [1,30,31,32] b U<|G.loop (λfr C' X Y=>∃(i:Nat),(i<=a.length/\uL n a=uL n (a.drop i))/\fr=[(1,[],p_ W),(30,[],.slice S a.length c0),(31,[],i_ a.length),(32,[],i_ i)]/\X=[]/\Y=a.length-i) (hn_ [1,30,31,32] U) ⟨0,⟨SM _,U⟩,U,U,U⟩ (λfr ah ai m _ Z=>?_);obtain⟨i,⟨hi,e⟩,rfl,rfl,rfl⟩:=Z;refine U0 1 [1,30,31,32,33] U<|G.cd (λA=>?_) λA=>?_
 .have h:i<a.length:=by
   have:=aT A;omega
  obtain⟨r,k⟩:∃r,a[i]?=some r:=⟨a[i],aj h⟩;obtain⟨w,I⟩:∃w,vs[i]?=some w:=⟨vs[i]'om_,aj _⟩;have J:=aK k;have K:=Q i w r I k;obtain⟨Aw,cw,rfl,_⟩:=id K;have aa:a.drop i=r::a.drop (i+1):=Tg h |>.trans (by rw[(R0.1 k).2]);rw[aa]at e;simp only[uL]at e;refine Wu λR b=>WG t.m_ U10 om_ (pL I k) fl_ λak ab=>Ws ab U8<|WI U5 λb5=>WB (j:=0) U12<|Ww [1,5,30,31,32] b U<|G.freeze 0 U λ_ _ L=>U1 1 U λR b=>Ws (bkT L 1) U8<|Wt U6<|Ws (bkT d 1) U8<|WD (pj _ p.m_ _ n r.1 K.m_ (H r J).1) U7<|C6 1 [1,5,6,30,31,32] b U<|U0 2 [1,5,6,30,31,32,42] U<|G.cd (λB=>?_) λB=>?_
  .have l:ep n r.1≠0:=by simpa using B
   have o:Hd n r=ep n r.1:=by unfold Hd;rw[aL l]
   exact U0 2 [2] U<|Wx U2<|⟨by rw[z,e,o,aL l],U⟩
  have l:¬ ep n r.1≠0:=by simpa using B
  have o:Hd n r=ot (aS r.2):=by unfold Hd;rw[aF l]
  refine U1 1 U λR b=>Ws (bkT L 1) U8<|WD (mi _ p.m_ r.2 (H r J).2) U7<|Ww [1,30,31,32,46] b U<|G.cd (λD=>?_) λD=>?_
  .have ac:aS r.2=false:=by simpa using D
   exact U0 1 [2] U<|Wx U2<|⟨by rw[z,e,o,ac];rfl,U⟩
  have ad:aS r.2=true:=by simpa using D
  refine Wu λR b=>Wz _ U U6<|C6 1 [1,30,31,32] b U<|WF (m':=a.length-(i+1)) om_ mup (hn_ [1,30,31,32] U) ⟨i+1,⟨by omega,by rw[e,o,ad];rfl⟩,U,U,U⟩
 have h:i=a.length:=by
  have:=SJ A;omega
 exact U0 1 [2] U<|Wx U2<|⟨by rw[z,e,h,TZ];rfl,U⟩
theorem fU {a b:Rat}(c:QB k a)(d:QB m b):QB (k+m) (a*b):=by
 rw[fb];refine gA (Nat.mul_ne_zero a.den_nz b.den_nz) ?_ ?_
 .rw[T8,UV];exact Ub c.1 d.1
 rw[UV];exact Ub c.2 d.2
theorem AA {a b:Rat}(c:QB k a)(d:QB m b):QB (k+m+1) (a+b):=by
 rw[fc];have e:B9 ^ (k+m+1)=B9 ^ k*B9 ^ m*B9:=by rw[T3,UV]
 have f:(a.num*b.den).natAbs<B9 ^ k*B9 ^ m:=by rw[T8,Tu];exact Ub c.1 d.2
 have g:(b.num*a.den).natAbs<B9 ^ k*B9 ^ m:=by rw[T8,Tu,Tt];exact Ub c.2 d.1
 have h:a.den*b.den<B9 ^ k*B9 ^ m:=Ub c.2 d.2;have i:2*(B9 ^ k*B9 ^ m)<=B9 ^ k*B9 ^ m*B9:=by
  rw[Tt];exact Ua _ dc_
 refine gA (Nat.mul_ne_zero a.den_nz b.den_nz) ?_ ?_
 .rw[e];have:=Vh (a.num*b.den) (b.num*a.den);omega
 rw[e];omega
def wH (rs:List (List Rat × Rat))(ds:List Rat)(j n:Nat):Rat:=Lp.sumN (λk=>ds.getD k 0*(rs.getD k ([],0)).1.getD j 0) n
def BE (rs:List (List Rat × Rat))(ds:List Rat)(n:Nat):Rat:=Lp.sumN (λk=>ds.getD k 0*(rs.getD k ([],0)).2) n
def dw (r:List Rat × Rat):List Str × Str:=(r.1.map qtx,qtx r.2)
structure RowsQ (n:Nat)(rs:List (List Rat × Rat)):Prop where
 l:∀r∈rs,r.1.length=n
 q:∀r∈rs,(∀x∈r.1,QB 23 x)/\QB 23 r.2
 m:rs.length<=150
theorem tO {l:List Rat}(h:∀x∈l,QB 23 x):QB 23 (l.getD j 0):=by
 rw[al];cases e:l[j]? with
|none=>exact⟨by decide,by decide⟩
|some x=>exact h x (aK e)
theorem Bd {n:Nat}{b:List (List Rat × Rat)}{c:List Rat}(d:RowsQ n b)(f:∀x∈c,QB 23 x)(j:Nat):∀i,QB (48*(i+1)) (wH b c j i)
|0=>(show QB 1 (0:Rat) from⟨by decide,by decide⟩).le om_
|i+1=>by
  have h1:=Bd d f j i;have h2:QB 23 ((b.getD i ([],0)).1.getD j 0):=by
   refine tO λx a=>?_;rw[al]at a;cases e:b[i]? with
  |none=>rw[e]at a;simp at a
  |some r=>rw[e]at a;exact(d.q r (aK e)).1 x a
  exact(AA h1 (fU (tO (j:=i) f) h2)).le om_
theorem BD {n:Nat}{a:List (List Rat × Rat)}{b:List Rat}(c:RowsQ n a)(d:∀x∈b,QB 23 x):∀i,QB (48*(i+1)) (BE a b i)
|0=>(show QB 1 (0:Rat) from⟨by decide,by decide⟩).le om_
|i+1=>by
  have h1:=BD c d i;have h2:QB 23 (a.getD i ([],0)).2:=by
   rw[al];cases e:a[i]? with
  |none=>exact⟨by decide,by decide⟩
  |some r=>exact(c.q r (aK e)).2
  exact(AA h1 (fU (tO (j:=i) d) h2)).le om_
def xk (m:Nat)(d:List Str)(ds:List Rat):Int:=if ep m d≠0 then ep m d else if ds.any (λq=>decide (q<0)) then 3 else 0
theorem OR (C:Mem)(q:Rat)(a:(qtx q).length<=1000000):Gives cx.P 155 [ag (qtx q)] C (.bool (decide (q<0))):=by
 exact Wy func155 6 U3 λw0=>U0 1 [0] U<|U1 1 U λR b=>WD (fE _ q a) U7<|C6 2 [2] b U<|Wx U2<|⟨by rw[<- vk],U⟩
theorem Sm (h:QB 23 q):(qtx q).length<=1000000:=SV (aV h dc_) dc_
open Classical in
theorem JH (C:Mem)(v:Value)(a:List Rat)(b:Sl C 1 v (a.map aP))(c:∀x∈a,QB 23 x) :
  Gives cx.P 33 [v,.func (.func 155) #[] #[]] C (.bool (a.any λq=>decide (q<0))):=by
 have h:=Ay C v (a.map qtx) 155 [] (λs=>decide (∃q:Rat,s=qtx q/\q<0)) (by rw[<- fy];exact b) rfl (λs hs D f=>by
  obtain⟨q,d,rfl⟩:=SL.1 hs;have e:decide (∃p:Rat,qtx q=qtx p/\p<0)=decide (q<0):=by
   rw[Tx];exact⟨λ⟨p,h1,h2⟩=>by rw[gx h1];exact h2,λh2=>⟨q,U,h2⟩⟩
  rw[e];exact OR D q (Sm (c q d)))
 have e:(a.map qtx).any (λs=>decide (∃q:Rat,s=qtx q/\q<0))=a.any λq=>decide (q<0):=by
  rw[List.any_map];congr 1;funext q;show decide (∃p:Rat,qtx q=qtx p/\p<0)=decide (q<0);rw[Tx];exact⟨λ⟨p,h1,h2⟩=>by rw[gx h1];exact h2,λh2=>⟨q,U,h2⟩⟩
 rw[e]at h;exact h
def wG (n:Nat)(rs:List (List Rat × Rat))(ds:List Rat)(i j:Nat):List Rat:=(List.range n).map λj2=>if j2<j then wH rs ds j2 (i+1) else wH rs ds j2 i
theorem eN (n:Nat)(a:List (List Rat × Rat))(b:List Rat)(i j:Nat):(wG n a b i j).length=n:=by simp[wG]
theorem lk {a:Nat}(h:a<n):(wG n rs ds i j)[a]?=some (if a<j then wH rs ds a (i+1) else wH rs ds a i):=by
 unfold wG;rw[SI,Tl h];rfl
theorem Lj (h:j<n):(wG n rs ds i j).set j (wH rs ds j (i+1))=wG n rs ds i (j+1):=by
 refine List.ext_getElem? λk=>?_;rw[List.getElem?_set,eN];by_cases a:k<n
 .rw[lk a,lk a];by_cases e:j=k
  .subst e;rw[aL rfl,aL a,aL om_]
  rw[aF e];by_cases h1:k<j
  .rw[aL h1,aL om_]
  rw[aF h1,aF om_]
 rw[SR (by rw[eN];omega),SR (by rw[eN];omega)];split
 .exact absurd om_ a
 rfl
theorem H0 (n:Nat)(b:List (List Rat × Rat))(c:List Rat)(i:Nat):wG n b c i n=wG n b c (i+1) 0:=by
 refine List.ext_getElem? λk=>?_;by_cases a:k<n
 .rw[lk a,lk a,aL a,aF om_]
 rw[SR (by rw[eN];omega),SR (by rw[eN];omega)]
theorem Lk (n:Nat)(b:List (List Rat × Rat))(c:List Rat):List.replicate n (ag [48])=((wG n b c 0 0).map aP).flatten:=by
 have e:wG n b c 0 0=List.replicate n 0:=by
  refine List.ext_getElem? λk=>?_;by_cases a:k<n
  .rw[lk a,T4,aL a,aF om_];rfl
  rw[SR (by rw[eN];omega),T4,aF a]
 rw[e,Vr,show aP 0=[ag [48]] by unfold aP;rw[qtx_zero]];clear e;induction n with
|zero=>rfl
|succ n d=>rw[TN,TN,TV,<- d];rfl
theorem bH:∀q:Rat,(aP q).length=1:=λ_=>rfl
theorem K0 (C:Mem)(p:Tabs C)(n:Nat)(rv ov dv:Value)(a:List (List Rat × Rat))(d:List Str)(b:List Rat)(K:RowsT C rv (a.map dw))(e:RowsQ n a)(hn:n<=1000)(z:Sl C 1 dv (d.map kL))(an:∀s∈d,s.length<=999998)
  (ao:d.all aS=true->d=b.map qtx/\∀x∈b,QB 23 x) :
  Pur cx.P 93 [.agg ⟨[i_ n,rv,ov]⟩,.agg ⟨[dv]⟩] C λu D=>∃fv bs,u=.tuple #[fv,ag bs,i_ (xk a.length d b)]/\(xk a.length d b=0->Sl D 1 fv ((wG n a b a.length 0).map aP)/\bs=qtx (BE a b a.length)):=by
 obtain⟨vs,ac,ap,A⟩:=K;obtain⟨A0,c0,rfl,aq,aQ,_⟩:=id A;obtain⟨L,M,rfl,au,aR,_⟩:=id z;have aU:=mx_
 have aV:=e.m;simp only[jS ac,ar]at A z aq au ac⊢;refine Wy func93 72 U3 λw0=>Wu λR c=>WH U6 λb2=>WH U6 λb3=>C6 3 [2,3] c U<|G.freeze 1 U λ_ _ B=>G.freeze 0 U λ_ _ E=>U1 1 U λR c=>Ws (bkT E 1) U8<|Wt U6<|Ws (bkT B 1) U8<|Wt U6<|WD (pj _ p.m_ _ (a.length:Nat) d z.m_ an) U7<|C6 1 [2,3,7] c U<|U0 2 [2,3,7,19] U<|G.cd (λN=>?_) λN=>?_
 .have o:ep (a.length:Nat) d≠0:=by simpa using N
  have f:xk a.length d b=ep (a.length:Nat) d:=by unfold xk;rw[aL o]
  refine U0 4 [4,5,6] U<|WE (G.dropAll (Xj U4 ?_));exact⟨U,.slice none 0 0,[],by rw[f];rfl,λh=>absurd (f.symm.trans h) o⟩
 have o:¬ ep (a.length:Nat) d≠0:=by simpa using N
 have g:ep (a.length:Nat) d=0:=by simpa using o
 have O:d.length=a.length:=by
  unfold ep at g;split at g
  .omega
  cases g
 have av:d.all aS=true:=by
  unfold ep at g;rw[aL om_]at g;rcases eP (d.all aS) with⟨h1,h2⟩|⟨h1,h2⟩
  .exact h2
  rw[h1]at g;cases g
 obtain⟨ad,F⟩:=ao av;have aW:b.length=a.length:=by rw[<- O,ad,ar]
 have ae:Sl C 1 (.slice L a.length M) (b.map aP):=by rw[fy,<- ad,<- O];exact z
 rw[O]at E;refine U1 1 U λR c=>Ws (bkT E 1) U8<|WD (JH _ _ b ae.m_ F) U7<|Ww [2,3,23] c U<|G.cd (λQ=>?_) λQ=>?_
 .have f:xk a.length d b=3:=by unfold xk;rw[aF o,aL Q]
  refine U0 3 [4,5,6] U<|WE (G.dropAll (Xj U4 ?_));exact⟨U,.slice none 0 0,[],by rw[f];rfl,λh=>absurd (f.symm.trans h) dc_⟩
 have f:xk a.length d b=0:=by unfold xk;rw[aF o,aF (by rw[Q];decide)]
 refine WQ [(2,3)] U λR c=>Wt U6<|Ws (bkT B 1) U8<|D.call (gY _ n om_) U (.inr dc_) U6 (SQ _) fl_ (λaX _ aY _ aw=>?_);obtain⟨bz,rfl,rfl⟩:=aw;refine C6 2 [2,3,4,5] c U<|U1 1 U λR c=>Ws (bkT E 1) U8<|C6 2 [2,4,5,28,29,30] c U<|WK (L':=[.arr (s_ bz n n) 32 1 n ((wG n a b 0 0).map aP).flatten]) (by rw[Lk n a b];rfl)<|G.loop (λfr C' t S=>∃(i:Nat)(T:Str),(i<=a.length/\T=qtx (BE a b i))/\fr=[(2,[],p_ b2),(4,[],s_ bz n n),(5,[],ag T),(28,[],.slice L a.length M),(29,[],i_ a.length),(30,[],i_ i)]/\t=[.arr (s_ bz n n) 32 1 n ((wG n a b i 0).map aP).flatten]/\S=a.length-i) (hn_ [2,4,5,28,29,30] U) ⟨0,[48],⟨SM _,qtx_zero.symm⟩,U,U,U⟩ (λfr aZ a0 m _ V=>?_);obtain⟨i,T,⟨hi,af⟩,rfl,rfl,rfl⟩:=V;refine U0 1 [2,4,5,28,29,30,31] U<|G.cd (λW=>?_) λW=>?_
 .subst af;have X:i<a.length:=by
   have:=aT W;omega
  obtain⟨r,Y⟩:∃r,a[i]?=some r:=⟨a[i],aj X⟩;have Z:(a.map dw)[i]?=some (dw r):=by rw[SI,Y];rfl
  obtain⟨w,H⟩:∃w,vs[i]?=some w:=⟨vs[i]'om_,aj _⟩;obtain⟨k,hk⟩:∃k,b[i]?=some k:=⟨b[i]'om_,aj om_⟩;have I:=aK Y;have ax:=ap i w _ H Z;have aa:Sl C 1 w (r.1.map aP):=by rw[fy];exact ax
  obtain⟨Aw,cw,rfl,_⟩:=id aa;have ay:=e.l r I;rw[ar,ay]at aa H;have J:QB 23 k:=F k (aK hk);have ai:b.getD i 0=k:=by rw[al,hk];rfl
  have ak:a.getD i ([],0)=r:=by rw[al,Y];rfl
  have az:=BD e F i;have aA:BE a b (i+1)=BE a b i+k*r.2:=by
   unfold BE;simp only[Lp.sumN];rw[ai,ak]
  refine U1 1 U λR c=>WG ae.m_ U10 om_ (dL hk) fl_ λa1 aB=>Ws aB U8<|C6 2 [2,4,5,8,9,28,29,30] c U<|U1 3 U λR c=>Ws (bkT B 1) U8<|Wt U6<|WG A.m_ U10 om_ (pL H Z) fl_ λa2 aC=>Xv aC U10 fl_ λa3 aD=>Ws aD U8<|WC (cX _ p.m_ k r.2 23 dc_ dc_ J (e.q r I).2) U7 fl_<|WC (fS _ p.m_ (BE a b i) (k*r.2) (48*(i+1)) om_ om_ az ((fU J (e.q r I).2).le om_)) U7 fl_<|C6 1 [2,4,5,8,9,28,29,30] c U ?_;rw[<- aA];refine U1 1 U λR c=>Ws (bkT B 1) U8<|Wt U6<|WG A.m_ U10 om_ (pL H Z) fl_ λa4 aE=>Xv aE U10 fl_ λa5 aG=>Ws aG U8<|C6 2 [2,4,5,9,28,29,30,50,51,52] c U<|G.loop (λfr C' t S=>∃(j:Nat),(j<=n)/\fr=[(2,[],p_ b2),(4,[],s_ bz n n),(5,[],ag (qtx (BE a b (i+1)))),(9,[],ag (qtx k)),(28,[],.slice L a.length M),(29,[],i_ a.length),(30,[],i_ i),(50,[],.slice Aw n cw),(51,[],i_ n),(52,[],i_ j)]/\t=[.arr (s_ bz n n) 32 1 n ((wG n a b i j).map aP).flatten]/\S=n-j) (hn_ [2,4,5,9,28,29,30,50,51,52] U) ⟨0,SM _,U,U,U⟩ (λfr a6 a7 m _ V=>?_);obtain⟨j,hj,rfl,rfl,rfl⟩:=V;refine U0 1 [2,4,5,9,28,29,30,50,51,52,53] U<|G.cd (λab=>?_) λab=>?_
  .have v:j<n:=by
    have:=aT ab;omega
   obtain⟨x,hx⟩:∃x,r.1[j]?=some x:=⟨r.1[j]'om_,aj om_⟩;have am:QB 23 x:=(e.q r I).1 x (aK hx);have aH:r.1.getD j 0=x:=by rw[al,hx];rfl
   have aI:=Bd e F j i;have aJ:wH a b j (i+1)=wH a b j i+k*x:=by
    unfold wH;simp only[Lp.sumN];rw[ai,ak,aH]
   have aM:(wG n a b i j)[j]?=some (wH a b j i):=by rw[lk v,aF om_]
   refine U1 1 U λR c=>WG aa.m_ U10 om_ (dL hx) fl_ λa8 aN=>Ws aN U8<|C6 2 [2,4,5,9,10,11,28,29,30,50,51,52] c U<|WM [0,1,2,3,4,5,6,7,8,9,10,11] [(8,1),(9,1)] U kr_ λR hB c=>Wv 4 U<|WV (j*1) U10 w_ U2<|Xa ah U6 (λ_=>(by rw[da bH aM];rfl)) U2<|Wv 2 U<|WN (λ_=>(cX _ p.m_ k x 23 dc_ dc_ J am)) U9<|WN (λ_=>(fS _ p.m_ (wH a b j i) (k*x) (48*(i+1)) om_ om_ aI ((fU J am).le om_))) U9<|WV (j*1) U10 w_ U2<|WZ (j:=0) U11 (by show j*1+1<=_;rw[bK bH,eN];omega)<|Ww [2,4,5,9,28,29,30,50,51,52] c U<|Wu λR c=>Wz _ U U6<|C6 1 [2,4,5,9,28,29,30,50,51,52] c U<|WK (L':=[.arr (s_ bz n n) 32 1 n ((wG n a b i (j+1)).map aP).flatten]) (by rw[<- Lj v,aJ,<- bE bH _ (by rw[eN];exact v)];rfl)<|WF (m':=n-(j+1)) om_ mup (hn_ [2,4,5,9,28,29,30,50,51,52] U) ⟨j+1,om_,U,U,U⟩
  have v:j=n:=by
   have:=SJ ab;omega
  refine Wu λR c=>Wz _ U U6<|C6 1 [2,4,5,28,29,30] c U ?_;rw[v,H0];refine WF (m':=a.length-(i+1)) om_ mup (hn_ [2,4,5,28,29,30] U) ⟨i+1,_,⟨by omega,U⟩,U,U,U⟩
 subst af;have X:i=a.length:=by
  have:=SJ W;omega
 subst X;refine U0 5 [4,5,6] U<|G.freezeArr 0 ((wG n a b a.length 0).map aP) rfl rfl (by intro r K;obtain⟨y,_,rfl⟩:=SL.1 K;rfl) (by rw[ar,eN]) λCg hg aO=>WE (G.dropAll (Xj U4 ?_));exact⟨U,_,_,by rw[f],λ_=>⟨aO,U⟩⟩
end Go.Proofs.YtfjcldheldflbaaGreatDoor
