/- Laws that the proofs of this seat share, part 10. -/
import Derived.Test.YtllimhhofkcgpaaGreatDoorG9
import Derived.Test.YtllimhhofkcgpaaGreatDoorShelf
import Derived.Test.YtllimhhofkcgpaaGreatDoorCards
import Derived.Test.YtllimhhofkcgpaaGreatDoorTie
import Derived.Stop.LaidErr
import Derived.Lib.LaidTab
import Derived.Carry
import Derived.Deep.Strs
import Derived.Laws.IdiomArrays
set_option maxHeartbeats 4000000
namespace Go.Proofs.YtllimhhofkcgpaaGreatDoor
open Go Go.Jog
set_option maxRecDepth 100000

def dotV (f x:List Rat):Nat->Rat
 | 0=>0
 | n+1=>dotV f x n+f.getD n 0*x.getD n 0
structure DotOk (r:RowQ)(x:List Rat):Prop where
 f:∀ q∈r.f,QB 22 q
 b:QB 22 r.b
 len:r.f.length=x.length
 s:∀ n,QB 2000 (dotV r.f x n)


def sqP:List (Int × Int):=[(0,0),(4,0),(4,4),(0,4)]
def shP:Nat->List (Int × Int)
 | 0=>sqP
 | 1=>sqP
 | 2=>sqP++[(2,1)]
 | 3=>[(0,0),(6,0),(0,4)]
 | 4=>[(0,0),(2,0),(4,0),(0,2),(2,2),(4,2)]
 | 5=>[(1,4),(5,3),(4,0),(0,0)]
 | 6=>sqP++[(2,0)]
 | _=>[(0,0),(6,0),(0,6),(2,2)]
def shT:Nat->List Tri
 | 0=>[(0,1,2),(0,2,3)]
 | 1=>[(0,1,3),(1,2,3)]
 | 2=>[(0,1,4),(1,2,4),(2,3,4),(3,0,4)]
 | 3=>[(2,0,1)]
 | 4=>[(0,1,4),(0,4,3),(1,2,5),(1,5,4)]
 | 5=>[(3,2,1),(3,1,0)]
 | 6=>[(0,4,3),(4,2,3),(4,1,2)]
 | _=>[(0,1,3),(1,2,3),(2,0,3)]
def encII (p:Int × Int):List Value:=[.int .i64 p.1,.int .i64 p.2]
def ShIn (u:Value)(D:Mem)(m:Nat):Prop:=∃ pv tv,u=.tuple #[pv,tv]/\Sl D 2 pv ((shP m).map encII)/\Sl D 3 tv ((shT m).map encT)
theorem shape12_fn (C:Mem)(kd:Nat)(_hk:kd<256):Pur cx.P 43 [.int .u8 kd] C fun u D=>ShIn u D (kd % 8):=by
 have hm8:kd % 8<8:=Nat.mod_lt _ (by decide)
 obtain ⟨m,hm⟩:∃ m,kd % 8=m:=⟨_,rfl⟩
 refine Fn.it kr_ Tryz.func43 86 fun w0=>?_
 refine G.z1 2 0 ?_
 refine G.rg fun R hR=>?_
 refine D.ak ([.int .i64 0,.int .i64 0]) ?_
 refine D.ak ([.int .i64 4,.int .i64 0]) ?_
 refine D.ak ([.int .i64 4,.int .i64 4]) ?_
 refine D.ak ([.int .i64 0,.int .i64 4]) ?_
 refine D.aQ [[.int .i64 0,.int .i64 0],[.int .i64 4,.int .i64 0],[.int .i64 4,.int .i64 4],[.int .i64 0,.int .i64 4]] rfl rfl rfl rfl rfl rfl rfl rfl rfl rfl rfl rfl fl_ (fun b9 C9 hle9 hs9=>?_)
 refine D.q2 1 0 4 hR ?_
 refine G.rp 1 fun R hR=>?_
 refine D.df (kd) (8) rfl rfl rfl rfl rfl rfl om_ rfl rfl ?_
 refine D.e2 4 11 hR ?_
 refine G.z3 2 4 11 12 ?_
 refine G.cd (fun h12=>?_) fun h12=>?_
 ·have hX:kd % 8=0:=by
   have:=bA h12
   omega
  refine G.rp 1 fun R hR=>?_
  refine D.ak ([.int .i64 0,.int .i64 1,.int .i64 2]) ?_
  refine D.ak ([.int .i64 0,.int .i64 2,.int .i64 3]) ?_
  refine D.ah [[.int .i64 0,.int .i64 1,.int .i64 2],[.int .i64 0,.int .i64 2,.int .i64 3]] (fun p17 C17 hle17 hs17=>?_)
  refine D.q2 2 2 3 hR ?_
  refine G.az (G.dropAll (G.aK rfl rfl rfl ?_))
  exact ⟨rfl,by rw [hX];exact ⟨_,_,rfl,hs9.mono mup,hs17.mono mup⟩⟩
 ·have hX0:kd % 8≠0:=by
   intro e
   rw [e] at h12
   exact absurd h12 (by decide)
  refine G.z3 2 4 11 18 ?_
  refine G.cd (fun h18=>?_) fun h18=>?_
  ·have hX:kd % 8=1:=by
    have:=bA h18
    omega
   refine G.rp 1 fun R hR=>?_
   refine D.ak ([.int .i64 0,.int .i64 1,.int .i64 3]) ?_
   refine D.ak ([.int .i64 1,.int .i64 2,.int .i64 3]) ?_
   refine D.ah [[.int .i64 0,.int .i64 1,.int .i64 3],[.int .i64 1,.int .i64 2,.int .i64 3]] (fun p23 C23 hle23 hs23=>?_)
   refine D.q2 2 2 3 hR ?_
   refine G.az (G.dropAll (G.aK rfl rfl rfl ?_))
   exact ⟨rfl,by rw [hX];exact ⟨_,_,rfl,hs9.mono mup,hs23.mono mup⟩⟩
  ·have hX1:kd % 8≠1:=by
    intro e
    rw [e] at h18
    exact absurd h18 (by decide)
   refine G.z3 2 4 11 24 ?_
   refine G.cd (fun h24=>?_) fun h24=>?_
   ·have hX:kd % 8=2:=by
     have:=bA h24
     omega
    refine G.rp 1 fun R hR=>?_
    refine D.ak ([.int .i64 2,.int .i64 1]) ?_
    refine D.ah [[.int .i64 2,.int .i64 1]] (fun p28 C28 hle28 hs28=>?_)
    refine D.appendC rfl rfl rfl rfl rfl rfl rfl rfl rfl rfl (hs9.mono mup) (hs28.mono mup) (.inr (by decide)) (by simp only [List.length_cons,List.length_nil,maxLen];omega) (by decide) fl_ (fun v29 C29 hle29 hs29=>?_)
    refine D.ak ([.int .i64 0,.int .i64 1,.int .i64 4]) ?_
    refine D.ak ([.int .i64 1,.int .i64 2,.int .i64 4]) ?_
    refine D.ak ([.int .i64 2,.int .i64 3,.int .i64 4]) ?_
    refine D.ak ([.int .i64 3,.int .i64 0,.int .i64 4]) ?_
    refine D.ah [[.int .i64 0,.int .i64 1,.int .i64 4],[.int .i64 1,.int .i64 2,.int .i64 4],[.int .i64 2,.int .i64 3,.int .i64 4],[.int .i64 3,.int .i64 0,.int .i64 4]] (fun p34 C34 hle34 hs34=>?_)
    refine D.q2 2 2 3 hR ?_
    refine G.az (G.dropAll (G.aK rfl rfl rfl ?_))
    exact ⟨rfl,by rw [hX];exact ⟨_,_,rfl,hs29.mono mup,hs34.mono mup⟩⟩
   ·have hX2:kd % 8≠2:=by
     intro e
     rw [e] at h24
     exact absurd h24 (by decide)
    refine G.z3 2 4 11 35 ?_
    refine G.cd (fun h35=>?_) fun h35=>?_
    ·have hX:kd % 8=3:=by
      have:=bA h35
      omega
     refine G.rg fun R hR=>?_
     refine D.ak ([.int .i64 0,.int .i64 0]) ?_
     refine D.ak ([.int .i64 6,.int .i64 0]) ?_
     refine D.ak ([.int .i64 0,.int .i64 4]) ?_
     refine D.ah [[.int .i64 0,.int .i64 0],[.int .i64 6,.int .i64 0],[.int .i64 0,.int .i64 4]] (fun p40 C40 hle40 hs40=>?_)
     refine D.ak ([.int .i64 2,.int .i64 0,.int .i64 1]) ?_
     refine D.ah [[.int .i64 2,.int .i64 0,.int .i64 1]] (fun p42 C42 hle42 hs42=>?_)
     refine D.q2 2 2 3 hR ?_
     refine G.az (G.dropAll (G.aK rfl rfl rfl ?_))
     exact ⟨rfl,by rw [hX];exact ⟨_,_,rfl,hs40.mono mup,hs42.mono mup⟩⟩
    ·have hX3:kd % 8≠3:=by
      intro e
      rw [e] at h35
      exact absurd h35 (by decide)
     refine G.z3 2 4 11 43 ?_
     refine G.cd (fun h43=>?_) fun h43=>?_
     ·have hX:kd % 8=4:=by
       have:=bA h43
       omega
      refine G.rg fun R hR=>?_
      refine D.ak ([.int .i64 0,.int .i64 0]) ?_
      refine D.ak ([.int .i64 2,.int .i64 0]) ?_
      refine D.ak ([.int .i64 4,.int .i64 0]) ?_
      refine D.ak ([.int .i64 0,.int .i64 2]) ?_
      refine D.ak ([.int .i64 2,.int .i64 2]) ?_
      refine D.ak ([.int .i64 4,.int .i64 2]) ?_
      refine D.ah [[.int .i64 0,.int .i64 0],[.int .i64 2,.int .i64 0],[.int .i64 4,.int .i64 0],[.int .i64 0,.int .i64 2],[.int .i64 2,.int .i64 2],[.int .i64 4,.int .i64 2]] (fun p51 C51 hle51 hs51=>?_)
      refine D.ak ([.int .i64 0,.int .i64 1,.int .i64 4]) ?_
      refine D.ak ([.int .i64 0,.int .i64 4,.int .i64 3]) ?_
      refine D.ak ([.int .i64 1,.int .i64 2,.int .i64 5]) ?_
      refine D.ak ([.int .i64 1,.int .i64 5,.int .i64 4]) ?_
      refine D.ah [[.int .i64 0,.int .i64 1,.int .i64 4],[.int .i64 0,.int .i64 4,.int .i64 3],[.int .i64 1,.int .i64 2,.int .i64 5],[.int .i64 1,.int .i64 5,.int .i64 4]] (fun p56 C56 hle56 hs56=>?_)
      refine D.q2 2 2 3 hR ?_
      refine G.az (G.dropAll (G.aK rfl rfl rfl ?_))
      exact ⟨rfl,by rw [hX];exact ⟨_,_,rfl,hs51.mono mup,hs56.mono mup⟩⟩
     ·have hX4:kd % 8≠4:=by
       intro e
       rw [e] at h43
       exact absurd h43 (by decide)
      refine G.z3 2 4 11 57 ?_
      refine G.cd (fun h57=>?_) fun h57=>?_
      ·have hX:kd % 8=5:=by
        have:=bA h57
        omega
       refine G.rg fun R hR=>?_
       refine D.ak ([.int .i64 1,.int .i64 4]) ?_
       refine D.ak ([.int .i64 5,.int .i64 3]) ?_
       refine D.ak ([.int .i64 4,.int .i64 0]) ?_
       refine D.ak ([.int .i64 0,.int .i64 0]) ?_
       refine D.ah [[.int .i64 1,.int .i64 4],[.int .i64 5,.int .i64 3],[.int .i64 4,.int .i64 0],[.int .i64 0,.int .i64 0]] (fun p63 C63 hle63 hs63=>?_)
       refine D.ak ([.int .i64 3,.int .i64 2,.int .i64 1]) ?_
       refine D.ak ([.int .i64 3,.int .i64 1,.int .i64 0]) ?_
       refine D.ah [[.int .i64 3,.int .i64 2,.int .i64 1],[.int .i64 3,.int .i64 1,.int .i64 0]] (fun p66 C66 hle66 hs66=>?_)
       refine D.q2 2 2 3 hR ?_
       refine G.az (G.dropAll (G.aK rfl rfl rfl ?_))
       exact ⟨rfl,by rw [hX];exact ⟨_,_,rfl,hs63.mono mup,hs66.mono mup⟩⟩
      ·have hX5:kd % 8≠5:=by
        intro e
        rw [e] at h57
        exact absurd h57 (by decide)
       refine G.z2 2 4 67 ?_
       refine G.cd (fun h67=>?_) fun h67=>?_
       ·have hX:kd % 8=6:=by
         have:=bA h67
         omega
        refine G.rp 1 fun R hR=>?_
        refine D.ak ([.int .i64 2,.int .i64 0]) ?_
        refine D.ah [[.int .i64 2,.int .i64 0]] (fun p71 C71 hle71 hs71=>?_)
        refine D.appendC rfl rfl rfl rfl rfl rfl rfl rfl rfl rfl (hs9.mono mup) (hs71.mono mup) (.inr (by decide)) (by simp only [List.length_cons,List.length_nil,maxLen];omega) (by decide) fl_ (fun v72 C72 hle72 hs72=>?_)
        refine D.ak ([.int .i64 0,.int .i64 4,.int .i64 3]) ?_
        refine D.ak ([.int .i64 4,.int .i64 2,.int .i64 3]) ?_
        refine D.ak ([.int .i64 4,.int .i64 1,.int .i64 2]) ?_
        refine D.ah [[.int .i64 0,.int .i64 4,.int .i64 3],[.int .i64 4,.int .i64 2,.int .i64 3],[.int .i64 4,.int .i64 1,.int .i64 2]] (fun p76 C76 hle76 hs76=>?_)
        refine D.q2 2 2 3 hR ?_
        refine G.az (G.dropAll (G.aK rfl rfl rfl ?_))
        exact ⟨rfl,by rw [hX];exact ⟨_,_,rfl,hs72.mono mup,hs76.mono mup⟩⟩
       ·have hX6:kd % 8≠6:=by
         intro e
         rw [e] at h67
         exact absurd h67 (by decide)
        refine G.rg fun R hR=>?_
        refine D.ak ([.int .i64 0,.int .i64 0]) ?_
        refine D.ak ([.int .i64 6,.int .i64 0]) ?_
        refine D.ak ([.int .i64 0,.int .i64 6]) ?_
        refine D.ak ([.int .i64 2,.int .i64 2]) ?_
        refine D.ah [[.int .i64 0,.int .i64 0],[.int .i64 6,.int .i64 0],[.int .i64 0,.int .i64 6],[.int .i64 2,.int .i64 2]] (fun p81 C81 hle81 hs81=>?_)
        refine D.ak ([.int .i64 0,.int .i64 1,.int .i64 3]) ?_
        refine D.ak ([.int .i64 1,.int .i64 2,.int .i64 3]) ?_
        refine D.ak ([.int .i64 2,.int .i64 0,.int .i64 3]) ?_
        refine D.ah [[.int .i64 0,.int .i64 1,.int .i64 3],[.int .i64 1,.int .i64 2,.int .i64 3],[.int .i64 2,.int .i64 0,.int .i64 3]] (fun p85 C85 hle85 hs85=>?_)
        refine D.q2 2 2 3 hR ?_
        refine G.az (G.dropAll (G.aK rfl rfl rfl ?_))
        exact ⟨rfl,by rw [show kd % 8=7 by omega];exact ⟨_,_,rfl,hs81.mono mup,hs85.mono mup⟩⟩

theorem wrap_i8 {n:Int}(h1:-128<=n)(h2:n<128):IntKind.i8.wrap n=n:=by
 simp [IntKind.wrap,IntKind.bits,IntKind.signed]
 omega
theorem shP_bd:∀ m:Nat,∀ p∈shP m,0<=p.1/\p.1<=6/\0<=p.2/\p.2<=6
 | 0=>by decide
 | 1=>by decide
 | 2=>by decide
 | 3=>by decide
 | 4=>by decide
 | 5=>by decide
 | 6=>by decide
 | _+7=>by
  show ∀ p∈([(0,0),(6,0),(0,6),(2,2)]:List (Int × Int)),0<=p.1/\p.1<=6/\0<=p.2/\p.2<=6
  decide
theorem shP_len:∀ m:Nat,(shP m).length<=6
 | 0=>by decide
 | 1=>by decide
 | 2=>by decide
 | 3=>by decide
 | 4=>by decide
 | 5=>by decide
 | 6=>by decide
 | _+7=>by
  show ([(0,0),(6,0),(0,6),(2,2)]:List (Int × Int)).length<=6
  decide
def ptsK (m:Nat)(a b:Int)(h:Bool):List Pt:=(shP m).map fun p=>ci a b h p.1 p.2 1
theorem ptsK_len (m:Nat)(a b:Int)(h:Bool):(ptsK m a b h).length<=6:=by rw [ptsK,List.length_map];exact shP_len m
theorem divS_qb {z w:Int}(hw:w≠0)(hz:z.natAbs<1000000000)(hwl:w.natAbs<1000000000):QB 1 (divS z w):=by
 unfold divS
 refine mk_bound om_ ?_ ?_
 ·show _<B9 ^ 1
  split
  ·rw [Int.natAbs_neg];exact hz
  ·exact hz
 ·exact hwl
theorem place_qp {a b:Int}{h:Bool}{x y n:Int}(hn:0<n)(hn4:n<=4)(hx:-128<=x/\x<=127)(hy:-128<=y/\y<=127):QP 1 (ci a b h x y n):=by
 have ha:=tmod8 a
 have hb:=tmod8 b
 have hh:cU h=1∨cU h=2:=by cases h <;> simp [cU]
 have hprod:∀ z:Int, -8<z->z<8->-32<z*n/\z*n<32:=fun z h1 h2=>by
  rcases (by omega:n=1∨n=2∨n=3∨n=4) with e | e | e | e <;> subst e <;> omega
 have hpa:=hprod _ ha.1 ha.2
 have hpb:=hprod _ hb.1 hb.2
 have hd:0<cU h*n/\cU h*n<=8:=by rcases hh with e | e <;> rw [e] <;> omega
 exact ⟨divS_qb om_ om_ om_,divS_qb om_ om_ om_⟩
theorem make12_fn (C:Mem)(hT:Tabs C)(kd:Nat)(a b:Int)(h:Bool)(hk:kd<256):Pur cx.P 20 [sheetV kd a b h] C fun u D=>MeshIn D u (ptsK (kd % 8) a b h) (shT (kd % 8)):=by
 have hbd:=shP_bd (kd % 8)
 have hlen:=shP_len (kd % 8)
 refine Fn.it kr_ Tryz.func20 42 fun w0=>?_
 refine G.rg fun R hR=>?_
 refine D.aB (fun b1=>?_)
 refine D.aj (fun b2=>?_)
 refine D.e2 1 2 hR ?_
 refine G.freeze 1 rfl (fun C1 hle1 hb1=>?_)
 refine G.rp 1 fun R hR=>?_
 refine D.aa (bkT hb1 1) ?_
 refine D.aX (shape12_fn _ kd hk) (fun v10 C10 hle10 hq10=>?_)
 obtain ⟨pv,tv,rfl,hpv,htv⟩:=hq10
 obtain ⟨Ap,cp,rfl,hcp1,hcp2,_⟩:=id hpv
 obtain ⟨At,ct,rfl,hct1,hct2,_⟩:=id htv
 simp only [List.length_map] at hpv htv hcp1 ⊢
 refine D.q4 5 1 2 3 4 hR ?_
 refine G.rp 1 fun R hR=>?_
 refine D.ak [.slice none 0 0,.slice At (shT (kd % 8)).length ct] ?_
 refine D.aj (fun b5=>?_)
 refine D.ag (j:=0) ?_
 refine D.e4 1 2 3 5 hR ?_
 refine G.z5 1 1 2 3 5 6 ?_
 refine G.nilArr 34 2 ?_
 refine G.perm (L':=[.obj b5 (.cells ⟨[.slice none 0 0,.slice At (shT (kd % 8)).length ct]⟩ 43 (0,0)),.arr (.slice none 0 0) 34 2 0 [],.obj b2 (.cells ⟨[.slice none 0 0,.slice none 0 0]⟩ 43 (0,0))]) (List.Perm.swap _ _ _) ?_
 refine G.loop (fun fr C' L' μ=>∃ (i:Nat)(w:Value),(i<=(shP (kd % 8)).length)/\fr=[(1,[],.pointer (some ⟨b1,0,none⟩)),(2,[],.pointer (some ⟨b2,0,none⟩)),(3,[],.slice Ap (shP (kd % 8)).length cp),(5,[],.pointer (some ⟨b5,0,none⟩)),(6,[],.int .i64 i)]/\L'=[.obj b5 (.cells ⟨[w,.slice At (shT (kd % 8)).length ct]⟩ 43 (0,0)),.arr w 34 2 ((ptsK (kd % 8) a b h).take i).length (((ptsK (kd % 8) a b h).take i).map encP).flatten,.obj b2 (.cells ⟨[.slice none 0 0,.slice none 0 0]⟩ 43 (0,0))]/\μ=(shP (kd % 8)).length-i) (h_5 1 2 3 5 6) ⟨0,.slice none 0 0,Nat.zero_le _,rfl,rfl,rfl⟩ (fun fr C0' L0' m hle0 hI=>?_)
 obtain ⟨i,w,hi,rfl,rfl,rfl⟩:=hI
 refine G.z6 4 1 2 3 5 6 18 ?_
 refine G.cd (fun h18=>?_) fun h18=>?_
 ·have hil:i<(shP (kd % 8)).length:=by
   have:=of_decide_eq_true h18
   omega
  obtain ⟨p,hp⟩:∃ p,(shP (kd % 8))[i]?=some p:=⟨(shP (kd % 8))[i],List.getElem?_eq_getElem hil⟩
  obtain ⟨hx1,hx2,hy1,hy2⟩:=hbd p (List.mem_of_getElem? hp)
  have hpk:(ptsK (kd % 8) a b h)[i]?=some (ci a b h p.1 p.2 1):=by unfold ptsK;rw [List.getElem?_map,hp];rfl
  have htk:(ptsK (kd % 8) a b h).take (i+1)=(ptsK (kd % 8) a b h).take i++[ci a b h p.1 p.2 1]:=by rw [List.take_add_one,hpk];rfl
  have htl:((ptsK (kd % 8) a b h).take i).length<=6:=by rw [List.length_take];have:=ptsK_len (kd % 8) a b h;omega
  refine G.aH [0,1,2,3,4,5,6,7,8,9,10,11,12,13,14,15,16,17,18,19,20] [(16,1),(8,0),(14,0)] rfl kr_ (fun R hB hR=>?_)
  refine D.ac ?_
  refine D.ae (.head _) ?_
  refine D.aa (bkT hb1 4) ?_
  refine D.ps 2 ?_
  refine D.al (hpv.mono mup) rfl rfl rfl rfl rfl rfl rfl rfl rfl rfl om_ (bt hp) fl_ (fun p26 hp26=>?_)
  refine D.indexA rfl rfl rfl rfl rfl rfl rfl rfl rfl (fun _=>hp26) (fun _=>⟨by omega,om_⟩) fl_ rfl (fun p27 hp270=>?_)
  have hp27:=hp270 trivial
  refine D.aa hp27 ?_
  refine D.eL (c:=p.1) rfl rfl rfl rfl rfl rfl rfl rfl (wrap_i8 om_ om_) rfl rfl ?_
  refine D.ps 2 ?_
  refine D.al (hpv.mono mup) rfl rfl rfl rfl rfl rfl rfl rfl rfl rfl om_ (bt hp) fl_ (fun p32 hp32=>?_)
  refine D.indexA rfl rfl rfl rfl rfl rfl rfl rfl rfl (fun _=>hp32) (fun _=>⟨by omega,om_⟩) fl_ rfl (fun p33 hp330=>?_)
  have hp33:=hp330 trivial
  refine D.aa hp33 ?_
  refine D.eL (c:=p.2) rfl rfl rfl rfl rfl rfl rfl rfl (wrap_i8 om_ om_) rfl rfl ?_
  refine D.ak [.int .i8 p.1,.int .i8 p.2] ?_
  refine D.aC (fun _=>(place_fn _ (hT.mono mup) kd a b h p.1 p.2 1 (by decide) (by decide) ⟨by omega,by omega⟩ ⟨by omega,by omega⟩)) rfl rfl rfl rfl rfl rfl rfl rfl rfl ?_
  refine D.ah [encP (ci a b h p.1 p.2 1)] (fun p38 C38 hle38 hs38=>?_)
  refine D.aS (j:=1) rfl rfl rfl rfl rfl rfl rfl rfl rfl rfl rfl (hs38.mono mup) rfl (by simp only [List.length_singleton,maxLen];omega) (by simp only [List.length_singleton];omega) fl_ (fun A39 n39 c39=>?_)
  refine D.ac ?_
  refine D.ag (j:=1) ?_
  refine D.e5 1 2 3 5 6 hR ?_
  refine G.rp 1 fun R hR=>?_
  refine D.am _ ?_
  refine D.q5 1 1 2 3 5 6 hR ?_
  refine G.aY (L':=[.obj b5 (.cells ⟨[.slice A39 n39 c39,.slice At (shT (kd % 8)).length ct]⟩ 43 (0,0)),.arr (.slice A39 n39 c39) 34 2 ((ptsK (kd % 8) a b h).take (i+1)).length (((ptsK (kd % 8) a b h).take (i+1)).map encP).flatten,.obj b2 (.cells ⟨[.slice none 0 0,.slice none 0 0]⟩ 43 (0,0))]) (by rw [htk,List.map_append,List.flatten_append,List.length_append];rfl) ?_
  refine G.ax (m':=(shP (kd % 8)).length-(i+1)) om_ mup (h_5 1 2 3 5 6) ⟨i+1,_,om_,rfl,rfl,rfl⟩
 ·have hil:i=(shP (kd % 8)).length:=by
   have:=of_decide_eq_false h18
   omega
  have hfull:(ptsK (kd % 8) a b h).take i=ptsK (kd % 8) a b h:=List.take_of_length_le (by rw [hil,ptsK,List.length_map];exact Nat.le_refl _)
  rw [hfull]
  refine G.freezeArr 1 ((ptsK (kd % 8) a b h).map encP) rfl rfl (by intro r hr;obtain ⟨y,_,rfl⟩:=List.mem_map.1 hr;rfl) (by rw [List.length_map]) (fun Cg hg hsl3=>?_)
  obtain ⟨Aw,cw,rfl,_⟩:=id hsl3
  refine G.rg fun R hR=>?_
  refine D.ae (.head _) ?_
  refine D.ag (j:=1) ?_
  refine D.e1 2 hR ?_
  refine G.az (G.di (.head _) rfl rfl rfl rfl ?_)
  exact ⟨rfl,_,_,rfl,hsl3,htv.mono mup⟩

structure Hts where
 h0:Int
 h1:Int
 h2:Int
 h3:Int
 h4:Int
 h5:Int
 half:Bool
def htsL (H:Hts):List Int:=[H.h0,H.h1,H.h2,H.h3,H.h4,H.h5]
def htsC (H:Hts):List Value:=[.int .i8 H.h0,.int .i8 H.h1,.int .i8 H.h2,.int .i8 H.h3,.int .i8 H.h4,.int .i8 H.h5,.bool H.half]
def HtsR (H:Hts):Prop:=∀ z∈htsL H, -128<=z/\z<=127
def fsK (n:Nat)(H:Hts):List Rat:=(List.range n).map fun i=>divS (((htsL H).getD (i % 6) 0).tmod 20) (cU H.half)
theorem tmod20 (a:Int):-20<a.tmod 20/\a.tmod 20<20:=by
 have h:(a.tmod 20).natAbs=a.natAbs % 20:=Int.natAbs_tmod a 20
 omega
theorem halfZ_or (h:Bool):cU h=1∨cU h=2:=by cases h <;> simp [cU]
theorem fsK_len (n:Nat)(H:Hts):(fsK n H).length=n:=by simp [fsK]
theorem fsK_qb (n:Nat)(H:Hts):∀ q∈fsK n H,QB 1 q:=by
 intro q hq
 unfold fsK at hq
 obtain ⟨i,_,rfl⟩:=List.mem_map.1 hq
 have h1:=tmod20 ((htsL H).getD (i % 6) 0)
 have h2:=halfZ_or H.half
 exact divS_qb om_ om_ om_
theorem htsC_at (H:Hts)(j:Nat)(hj:j<6):((htsC H).drop j).take 1=[.int .i8 ((htsL H).getD j 0)]:=by
 rcases (by omega:j=0∨j=1∨j=2∨j=3∨j=4∨j=5) with rfl | rfl | rfl | rfl | rfl | rfl <;> rfl
theorem make13_fn (C:Mem)(hT:Tabs C)(v1 v2:Value)(n:Nat)(A1:Option Addr)(c1:Nat)(H:Hts)(hv:v1=.slice A1 n c1)(hn:n<=400)(hH:HtsR H):Pur cx.P 21 [.agg ⟨[v1,v2]⟩,.agg ⟨htsC H⟩] C fun u D=>Sl D 1 u ((fsK n H).map encQ):=by
 subst hv
 obtain ⟨h0,h1,h2,h3,h4,h5,hf⟩:=H
 have hmx:maxLen<=9223372036854775807:=by simp [maxLen]
 refine Fn.it kr_ Tryz.func21 31 fun w0=>?_
 refine G.rg fun R hR=>?_
 refine D.aB (fun b2=>?_)
 refine D.aB (fun b3=>?_)
 refine D.q2 1 2 3 hR ?_;clear hR R
 refine G.freeze 1 rfl (fun C2 hle2 hb2=>?_)
 refine G.freeze 0 rfl (fun C3 hle3 hb3=>?_)
 refine G.rg fun R hR=>?_
 refine D.bK [] rfl rfl rfl rfl rfl rfl rfl rfl rfl rfl rfl rfl fl_ (fun b8=>?_)
 refine D.q3 1 2 3 5 hR ?_;clear hR R
 refine G.z4 1 2 3 5 6 ?_
 refine G.rp 1 fun R hR=>?_
 refine D.aa (bkT hb3 1) ?_
 refine D.e5 2 3 5 6 10 hR ?_;clear hR R
 refine G.cut (fun fr C' L' μ=>(True)/\fr=[(2,[],.pointer (some ⟨b2,0,none⟩)),(3,[],.pointer (some ⟨b3,0,none⟩)),(5,[],.slice (some ⟨b8,0,none⟩) 0 0),(6,[],.int .i64 (cU hf))]/\L'=[.arr (.slice (some ⟨b8,0,none⟩) 0 0) 32 1 0 []]) ?_ (fun fr C10 L10 μ hle10 hI=>?_)
 ·refine G.cd (fun h10=>?_) fun h10=>?_
  ·have h1:hf=true:=h10
   subst h1
   refine G.z4 1 2 3 5 6 ?_
   refine G.aw 0 (Mem.le.refl _) (h_4 2 3 5 6) ⟨trivial,rfl,rfl⟩
  ·have h1:hf=false:=h10
   subst h1
   refine G.aw 0 (Mem.le.refl _) (h_4 2 3 5 6) ⟨trivial,rfl,rfl⟩
 ·obtain ⟨_,rfl,rfl⟩:=hI
  refine G.z5 1 2 3 5 6 7 ?_
  refine G.loop (fun fr C' L' μ=>∃ (i:Nat)(w:Value),(i<=n)/\fr=[(2,[],.pointer (some ⟨b2,0,none⟩)),(3,[],.pointer (some ⟨b3,0,none⟩)),(5,[],w),(6,[],.int .i64 (cU hf)),(7,[],.int .i64 i)]/\L'=[.arr w 32 1 ((fsK n ⟨h0,h1,h2,h3,h4,h5,hf⟩).take i).length (((fsK n ⟨h0,h1,h2,h3,h4,h5,hf⟩).take i).map encQ).flatten]/\μ=n-i) (h_5 2 3 5 6 7) ⟨0,_,Nat.zero_le _,rfl,rfl,rfl⟩ (fun fr C0' L0' m hle0 hI=>?_)
  obtain ⟨i,w,hi,rfl,rfl,rfl⟩:=hI
  refine G.rp 2 fun R hR=>?_
  refine D.aa (bkT hb2 1) ?_
  refine D.q6 2 2 3 5 6 7 15 hR ?_;clear hR R
  refine G.cd (fun h15=>?_) fun h15=>?_
  ·have hil:i<n:=by
    have:=of_decide_eq_true h15
    omega
   have hi6:i % 6<6:=Nat.mod_lt _ (by decide)
   obtain ⟨z,hz⟩:∃ z,(htsL ⟨h0,h1,h2,h3,h4,h5,hf⟩).getD (i % 6) 0=z:=⟨_,rfl⟩
   have hat:=htsC_at ⟨h0,h1,h2,h3,h4,h5,hf⟩ (i % 6) hi6
   rw [hz] at hat
   have hzm:z∈htsL ⟨h0,h1,h2,h3,h4,h5,hf⟩:=by
    rw [<- hz,List.getD_eq_getElem?_getD,List.getElem?_eq_getElem (show i % 6<(htsL ⟨h0,h1,h2,h3,h4,h5,hf⟩).length from hi6),Option.getD_some]
    exact List.getElem_mem _
   have hzb:=hH z hzm
   have h20:=tmod20 z
   have hhf:=halfZ_or hf
   have htk:(fsK n ⟨h0,h1,h2,h3,h4,h5,hf⟩).take (i+1)=(fsK n ⟨h0,h1,h2,h3,h4,h5,hf⟩).take i++[divS (z.tmod 20) (cU hf)]:=by
    rw [List.take_add_one,show (fsK n ⟨h0,h1,h2,h3,h4,h5,hf⟩)[i]?=some (divS (z.tmod 20) (cU hf)) by unfold fsK;rw [List.getElem?_map,List.getElem?_range hil,<- hz];rfl]
    rfl
   have htl:((fsK n ⟨h0,h1,h2,h3,h4,h5,hf⟩).take i).length<=400:=by rw [List.length_take,fsK_len];omega
   refine G.rp 2 fun R hR=>?_
   refine D.df (i) (6) rfl rfl rfl rfl rfl rfl om_ rfl rfl ?_
   refine D.ac ?_
   refine D.ar ((i % 6)) rfl rfl rfl rfl rfl rfl rfl rfl rfl (fun _=>⟨by omega,by omega,(by show i % 6=0+(i % 6)*1;omega)⟩) rfl rfl ?_
   refine D.eO (PtrTo.blockT (Mem.get hb3 mup) (i % 6) 1) rfl rfl rfl rfl rfl rfl (show bS _ (((htsC ⟨h0,h1,h2,h3,h4,h5,hf⟩).drop (i % 6)).take 1)=some (.int .i8 z) from by rw [hat];rfl) rfl ?_
   refine D.cR (c:=z) rfl rfl rfl rfl rfl rfl rfl rfl (wrap_i64 om_ om_) fl_ ?_
   refine D.eQ (z.tmod 20) rfl rfl rfl rfl rfl rfl (by decide) rfl rfl rfl ?_
   refine D.ac ?_
   refine D.ai (of2_fn _ (hT.mono mup) (z.tmod 20) (cU hf) om_ om_ om_) rfl rfl rfl rfl rfl rfl rfl fl_ ?_
   refine D.ah [encQ (divS (z.tmod 20) (cU hf))] (fun p28 C28 hle28 hs28=>?_)
   refine D.append (j:=0) rfl rfl rfl rfl rfl rfl rfl rfl rfl rfl rfl hs28 rfl (by simp only [List.length_singleton,maxLen];omega) (by simp only [List.length_singleton];omega) fl_ (fun v29=>?_)
   refine D.q5 1 2 3 5 6 7 hR ?_;clear hR R
   refine G.rp 1 fun R hR=>?_
   refine D.am _ ?_
   refine D.q5 1 2 3 5 6 7 hR ?_;clear hR R
   refine G.aY (L':=[.arr v29 32 1 ((fsK n ⟨h0,h1,h2,h3,h4,h5,hf⟩).take (i+1)).length (((fsK n ⟨h0,h1,h2,h3,h4,h5,hf⟩).take (i+1)).map encQ).flatten]) (by rw [htk,List.map_append,List.flatten_append,List.length_append];rfl) ?_
   refine G.ax (m':=n-(i+1)) om_ mup (h_5 2 3 5 6 7) ⟨i+1,v29,om_,rfl,rfl,rfl⟩
  ·have hil:i=n:=by
    have:=of_decide_eq_false h15
    omega
   rw [show (fsK n ⟨h0,h1,h2,h3,h4,h5,hf⟩).take i=fsK n ⟨h0,h1,h2,h3,h4,h5,hf⟩ from List.take_of_length_le (by rw [hil,fsK_len];exact Nat.le_refl _)]
   refine G.z1 2 4 ?_
   refine G.freezeArr 0 ((fsK n ⟨h0,h1,h2,h3,h4,h5,hf⟩).map encQ) rfl rfl (by intro r hr;obtain ⟨y,_,rfl⟩:=List.mem_map.1 hr;rfl) (by rw [List.length_map]) (fun Cg hg hsl3=>?_)
   refine G.rf ?_
   exact ⟨rfl,hsl3⟩

structure Sgt where
 kind:Nat
 px:Int
 py:Int
 u0:Nat
 u1:Nat
 depth:Nat
 n0:Int
 n1:Int
 n2:Int
def sgtC (s:Sgt):List Value:=[.int .u8 s.kind,.int .i8 s.px,.int .i8 s.py,.int .u8 s.u0,.int .u8 s.u1,.int .u8 s.depth,.int .i8 s.n0,.int .i8 s.n1,.int .i8 s.n2]
structure SgtR (s:Sgt):Prop where
 kind:s.kind<256
 px:-128<=s.px/\s.px<=127
 py:-128<=s.py/\s.py<=127
 u0:s.u0<256
 u1:s.u1<256
 depth:s.depth<256
 n0:-128<=s.n0/\s.n0<=127
 n1:-128<=s.n1/\s.n1<=127
 n2:-128<=s.n2/\s.n2<=127
structure Sht where
 kd:Nat
 a:Int
 b:Int
 h:Bool
def planC (S:Sht)(H:Hts)(sv:Value):List Value:=[.int .u8 S.kd,.int .i8 S.a,.int .i8 S.b,.bool S.h,.int .i8 H.h0,.int .i8 H.h1,.int .i8 H.h2,.int .i8 H.h3,.int .i8 H.h4,.int .i8 H.h5,.bool H.half,sv]
def labU (i:Nat):Str:=[UInt8.ofNat (65+i)]
def ptAt (S:Sht)(s:Sgt):Pt :=
 if locL (ptsK (S.kd % 8) S.a S.b S.h) (shT (S.kd % 8)) (ci S.a S.b S.h s.px s.py 2)≠[] then ci S.a S.b S.h s.px s.py 2
 else (ptsK (S.kd % 8) S.a S.b S.h).getD (s.depth % (ptsK (S.kd % 8) S.a S.b S.h).length) (0,0)
def lastN (z:Int):Int:=if z.tmod 5=0 then 1 else z.tmod 5
def loU (s:Sgt):Nat:=if s.u0 % 3=s.u1 % 3 then 0 else s.u0 % 3
def upU (s:Sgt):Nat:=if s.u0 % 3=s.u1 % 3 then 1+s.u1 % 3 % 2 else s.u1 % 3
def obsK (S:Sht)(s:Sgt)(i:Nat):Obs :=
 if s.kind % 3=0 then ⟨1,[111,UInt8.ofNat (49+i)],qtx (ptAt S s).1,qtx (ptAt S s).2,[],labU (s.u1 % 3),[],[],[],[]⟩
 else if s.kind % 3=1 then ⟨2,[111,UInt8.ofNat (49+i)],qtx (ptAt S s).1,qtx (ptAt S s).2,qtx (divS (s.depth % 12:Nat) 2),labU (max (loU s) (upU s)),labU (min (loU s) (upU s)),[],[],[]⟩
 else ⟨3,[111,UInt8.ofNat (49+i)],qtx (ptAt S s).1,qtx (ptAt S s).2,[],labU (max (loU s) (upU s)),labU (min (loU s) (upU s)),qtx ((s.n0.tmod 5:Int):Rat),qtx ((s.n1.tmod 5:Int):Rat),qtx ((lastN s.n2:Int):Rat)⟩
theorem wrap_u8 {n:Int}(h1:0<=n)(h2:n<256):IntKind.u8.wrap n=n:=by
 simp only [IntKind.wrap,IntKind.bits,IntKind.signed]
 simp
 omega
theorem name_bytes (i:Nat)(hi:i<6):([[.int .u8 111],[.int .u8 (49+(i:Int))]]:List (List Value))=(([111,UInt8.ofNat (49+i)]:Str).map fun b=>[.int .u8 b.toNat]):=by
 rcases (by omega:i=0∨i=1∨i=2∨i=3∨i=4∨i=5) with rfl | rfl | rfl | rfl | rfl | rfl <;> rfl
theorem lab_at (j:Nat)(hj:j<3):(([strV [65],strV [66],strV [67]]:List Value).drop j).take 1=[strV (labU j)]:=by
 rcases (by omega:j=0∨j=1∨j=2) with rfl | rfl | rfl <;> rfl
theorem shP_pos:∀ m:Nat,0<(shP m).length
 | 0=>by decide
 | 1=>by decide
 | 2=>by decide
 | 3=>by decide
 | 4=>by decide
 | 5=>by decide
 | 6=>by decide
 | _+7=>by
  show 0<([(0,0),(6,0),(0,6),(2,2)]:List (Int × Int)).length
  decide
theorem tmod5 (a:Int):-5<a.tmod 5/\a.tmod 5<5:=by
 have h:(a.tmod 5).natAbs=a.natAbs % 5:=Int.natAbs_tmod a 5
 omega
theorem lo_le (s:Sgt):loU s<=2:=by unfold loU;split <;> omega
theorem up_le (s:Sgt):upU s<=2:=by unfold upU;split <;> omega
theorem qp1_ok {p:Pt}(h:QP 1 p):QP 23 p/\PtR p:=⟨⟨h.1.le (by decide),h.2.le (by decide)⟩,ba (h.1.le (by decide)),ba (h.2.le (by decide))⟩
theorem observation_fn (C:Mem)(hT:Tabs C)(S:Sht)(s:Sgt)(H:Hts)(sv:Value)(i:Nat)(hi:i<6)(hk:S.kd<256)(hs:SgtR s)(hG:Good (ptsK (S.kd % 8) S.a S.b S.h) (shT (S.kd % 8))) :
  Pur cx.P 22 [.agg ⟨planC S H sv⟩,.agg ⟨sgtC s⟩,.int .i64 i] C fun u _D=>u=.agg ⟨encO (obsK S s i)⟩:=by
 have hr1:=hs.kind
 have hr2:=hs.u0
 have hr3:=hs.u1
 have hr4:=hs.depth
 have hn0:=tmod5 s.n0
 have hn1:=tmod5 s.n1
 have hn2:=tmod5 s.n2
 have hlo:=lo_le s
 have hup:=up_le s
 have hq1:QP 1 (ci S.a S.b S.h s.px s.py 2):=place_qp (by decide) (by decide) hs.px hs.py
 obtain ⟨hq23,hqr⟩:=qp1_ok hq1
 obtain ⟨lo,hloe⟩:∃ n,loU s=n:=⟨_,rfl⟩
 obtain ⟨up,hupe⟩:∃ n,upU s=n:=⟨_,rfl⟩
 obtain ⟨p,hpe⟩:∃ p,ptAt S s=p:=⟨_,rfl⟩
 obtain ⟨lz,hlz⟩:∃ z,lastN s.n2=z:=⟨_,rfl⟩
 have hlzb:-5<lz/\lz<5:=by rw [<- hlz];unfold lastN;split <;> omega
 rw [hloe] at hlo
 rw [hupe] at hup
 have hpos:0<(ptsK (S.kd % 8) S.a S.b S.h).length:=by rw [ptsK,List.length_map];exact shP_pos _
 have hle6:=ptsK_len (S.kd % 8) S.a S.b S.h
 refine Fn.it kr_ Tryz.func22 129 fun w0=>?_
 refine G.rg fun R hR=>?_
 refine D.aB (fun b3=>?_)
 refine D.aB (fun b4=>?_)
 refine D.aj (fun b6=>?_)
 refine D.e4 2 3 4 6 hR ?_
 refine G.freeze 2 rfl (fun C1 hle1 hb1=>?_)
 refine G.freeze 1 rfl (fun C2 hle2 hb2=>?_)
 refine G.rp 1 fun R hR=>?_
 refine D.aa (bkT hb1 4) ?_
 refine D.aX (make12_fn _ (hT.mono mup) S.kd S.a S.b S.h hk) (fun v17 C17 hle17 hq17=>?_)
 obtain ⟨v1,v2,rfl,hm1,hm2⟩:=id hq17.ex
 obtain ⟨A1,c1,rfl,hc1,hc2,_⟩:=id hm1
 obtain ⟨A2,c2,rfl,_,_,_⟩:=id hm2
 simp only [List.length_map] at hm1 hc1 hq17 ⊢
 refine D.aj (fun b7=>?_)
 refine D.ag (j:=0) ?_
 refine D.e5 2 3 4 6 7 hR ?_
 refine G.freeze 0 rfl (fun C3 hle3 hb3=>?_)
 refine G.cut (fun fr C' L' μ=>∃ (b8:Nat),(True)/\fr=[(4,[],.pointer (some ⟨b4,0,none⟩)),(6,[],.pointer (some ⟨b6,0,none⟩)),(7,[],.pointer (some ⟨b7,0,none⟩)),(8,[],.pointer (some ⟨b8,0,none⟩))]/\L'=[.obj b8 (.cells ⟨[.int .i64 (1+((s.kind % 3:Nat):Int)),strV [111,UInt8.ofNat (49+i)],strV (qtx (ci S.a S.b S.h s.px s.py 2).1),strV (qtx (ci S.a S.b S.h s.px s.py 2).2),strV [],strV [],strV [],strV [],strV [],strV []]⟩ 38 (0,0)),.obj b6 (.cells ⟨[.int .i64 0,strV [],strV [],strV [],strV [],strV [],strV [],strV [],strV [],strV []]⟩ 38 (0,0))]) ?_ (fun fr Cr2 Lr2 μ hler2 hI=>?_)
 ·refine G.cX (.cut [0,1,2,3,4,5,6,7,10,11,12,13,14] (.alt 8 (.cut [] (.alt 9 (.fin [15,16,17]) (.alt 16 (.fin [9,15,17]) .stop))) (.alt 16 (.fin [8,9,15,17]) .stop))) [(14,1),(3,0),(6,0)] rfl rfl kr_ (fun R hB hR hH=>?_)
  refine D.ac ?_
  refine D.aa (bkT hb2 1) ?_
  refine D.df (s.kind) (3) rfl rfl rfl rfl rfl rfl om_ rfl rfl ?_
  refine D.eL (c:=((s.kind % 3:Nat):Int)) rfl rfl rfl rfl rfl rfl rfl rfl (wrap_i64 om_ om_) rfl rfl ?_
  refine D.am _ ?_
  refine D.ac ?_
  refine D.eL (c:=(i:Int)) rfl rfl rfl rfl rfl rfl rfl rfl (wrap_u8 om_ om_) rfl rfl ?_
  refine D.int ((49+(i:Int))) rfl rfl rfl rfl (wrap_u8 om_ om_) rfl rfl ?_
  refine D.ac ?_
  refine D.aa (bkT hb1 4) ?_
  refine D.ac ?_
  refine D.aa (bkT hb2 2) ?_
  refine D.aC (fun _=>(place_fn _ (hT.mono mup) S.kd S.a S.b S.h s.px s.py 2 (by decide) (by decide) hs.px hs.py)) rfl rfl rfl rfl rfl rfl rfl rfl rfl ?_
  refine D.bJ hH rfl ⟨?_, ?_,trivial⟩
  ·refine D.ah [[.int .u8 111],[.int .u8 (49+(i:Int))]] (fun p26 C26 hle26 hs26=>?_)
   refine D.bJ hH rfl ⟨?_, ?_,trivial⟩
   ·refine D.strOf (show Sl _ 1 _ (([111,UInt8.ofNat (49+i)]:Str).map fun b=>[.int .u8 b.toNat]) from by rw [<- name_bytes i hi];exact hs26.mono mup) rfl rfl rfl rfl rfl rfl rfl rfl rfl rfl rfl fl_ ?_
    refine D.ak [.int .i64 (1+((s.kind % 3:Nat):Int)),strV [111,UInt8.ofNat (49+i)],strV (qtx (ci S.a S.b S.h s.px s.py 2).1),strV (qtx (ci S.a S.b S.h s.px s.py 2).2),strV [],strV [],strV [],strV [],strV [],strV []] ?_
    refine D.aj (fun b8=>?_)
    refine D.ag (j:=0) ?_
    refine D.e4 4 6 7 8 hR ?_
    exact G.aw 0 mup (h_4 4 6 7 8) ⟨b8,trivial,rfl,rfl⟩
   ·refine D.aj (fun b8=>?_)
    refine D.strOf (show Sl _ 1 _ (([111,UInt8.ofNat (49+i)]:Str).map fun b=>[.int .u8 b.toNat]) from by rw [<- name_bytes i hi];exact hs26.mono mup) rfl rfl rfl rfl rfl rfl rfl rfl rfl rfl rfl fl_ ?_
    refine D.ak [.int .i64 (1+((s.kind % 3:Nat):Int)),strV [111,UInt8.ofNat (49+i)],strV (qtx (ci S.a S.b S.h s.px s.py 2).1),strV (qtx (ci S.a S.b S.h s.px s.py 2).2),strV [],strV [],strV [],strV [],strV [],strV []] ?_
    refine D.ag (j:=0) ?_
    refine D.e4 4 6 7 8 hR ?_
    exact G.aw 0 mup (h_4 4 6 7 8) ⟨b8,trivial,rfl,rfl⟩
  ·refine D.aj (fun b8=>?_)
   refine D.ah [[.int .u8 111],[.int .u8 (49+(i:Int))]] (fun p26 C26 hle26 hs26=>?_)
   refine D.strOf (show Sl _ 1 _ (([111,UInt8.ofNat (49+i)]:Str).map fun b=>[.int .u8 b.toNat]) from by rw [<- name_bytes i hi];exact hs26.mono mup) rfl rfl rfl rfl rfl rfl rfl rfl rfl rfl rfl fl_ ?_
   refine D.ak [.int .i64 (1+((s.kind % 3:Nat):Int)),strV [111,UInt8.ofNat (49+i)],strV (qtx (ci S.a S.b S.h s.px s.py 2).1),strV (qtx (ci S.a S.b S.h s.px s.py 2).2),strV [],strV [],strV [],strV [],strV [],strV []] ?_
   refine D.ag (j:=0) ?_
   refine D.e4 4 6 7 8 hR ?_
   exact G.aw 0 mup (h_4 4 6 7 8) ⟨b8,trivial,rfl,rfl⟩
 obtain ⟨b8,_,rfl,rfl⟩:=hI
 refine G.rg fun R hR=>?_
 refine D.aa (bkT hb3 2) ?_
 refine D.ac ?_
 refine D.ae (.head _) ?_
 refine D.af (contains_fn _ (hT.mono mup) _ _ _ (ci S.a S.b S.h s.px s.py 2) (hq17.mono mup) hG hq23 hqr) ?_
 refine D.q5 5 4 6 7 8 9 hR ?_
 refine G.z5 2 4 6 7 8 42 ?_
 refine G.cut (fun fr C' L' μ=>(True)/\fr=[(4,[],.pointer (some ⟨b4,0,none⟩)),(6,[],.pointer (some ⟨b6,0,none⟩)),(8,[],.pointer (some ⟨b8,0,none⟩))]/\L'=[.obj b8 (.cells ⟨[.int .i64 (1+((s.kind % 3:Nat):Int)),strV [111,UInt8.ofNat (49+i)],strV (qtx p.1),strV (qtx p.2),strV [],strV [],strV [],strV [],strV [],strV []]⟩ 38 (0,0)),.obj b6 (.cells ⟨[.int .i64 0,strV [],strV [],strV [],strV [],strV [],strV [],strV [],strV [],strV []]⟩ 38 (0,0))]) ?_ (fun fr C42 L42 μ hle42 hI=>?_)
 ·refine G.cd (fun h42=>?_) fun h42=>?_
  ·have hno:locL (ptsK (S.kd % 8) S.a S.b S.h) (shT (S.kd % 8)) (ci S.a S.b S.h s.px s.py 2)=[]:=by simpa using h42
   have hil:s.depth % (ptsK (S.kd % 8) S.a S.b S.h).length<(ptsK (S.kd % 8) S.a S.b S.h).length:=Nat.mod_lt _ hpos
   have hpp:p=(ptsK (S.kd % 8) S.a S.b S.h)[s.depth % (ptsK (S.kd % 8) S.a S.b S.h).length]:=by
    rw [<- hpe,ptAt,if_neg (by rw [hno];simp),List.getD_eq_getElem?_getD,List.getElem?_eq_getElem hil,Option.getD_some]
   have hp:(ptsK (S.kd % 8) S.a S.b S.h)[s.depth % (ptsK (S.kd % 8) S.a S.b S.h).length]?=some p:=by rw [hpp];exact List.getElem?_eq_getElem hil
   refine G.aH [0,1,2,3,4,5,6,7,8,9,10,11,12] [(4,0)] rfl kr_ (fun R hB hR=>?_)
   refine D.ac ?_
   refine D.aa (bkT hb3 1) ?_
   refine D.ac ?_
   refine D.aa (bkT hb2 1) ?_
   refine D.eL (c:=(s.depth:Int)) rfl rfl rfl rfl rfl rfl rfl rfl (wrap_i64 om_ om_) rfl rfl ?_
   refine D.ac ?_
   refine D.aa (bkT hb3 1) ?_
   refine D.ac ?_
   refine D.df (s.depth) ((ptsK (S.kd % 8) S.a S.b S.h).length) rfl rfl rfl rfl rfl rfl hpos rfl rfl ?_
   refine D.al (hm1.mono mup) rfl rfl rfl rfl rfl rfl rfl rfl rfl rfl om_ (bt hp) fl_ (fun p52 hp52=>?_)
   refine D.aa hp52 ?_
   refine D.ac ?_
   refine D.ag (j:=0) ?_
   refine D.e3 4 6 8 hR ?_
   refine G.aw 0 (Mem.le.refl _) (h_3 4 6 8) ⟨trivial,rfl,rfl⟩
  ·have hyes:locL (ptsK (S.kd % 8) S.a S.b S.h) (shT (S.kd % 8)) (ci S.a S.b S.h s.px s.py 2)≠[]:=by simpa using h42
   have hpp:p=ci S.a S.b S.h s.px s.py 2:=by rw [<- hpe,ptAt,if_pos hyes]
   subst hpp
   refine G.aw 0 (Mem.le.refl _) (h_3 4 6 8) ⟨trivial,rfl,rfl⟩
 ·obtain ⟨_,rfl,rfl⟩:=hI
  refine G.rg fun R hR=>?_
  refine D.ak ([strV [65],strV [66],strV [67]]) ?_
  refine D.aj (fun b11=>?_)
  refine D.ag (j:=0) ?_
  refine D.e4 4 6 8 11 hR ?_
  refine G.freeze 0 rfl (fun C5 hle5 hb5=>?_)
  refine G.aH [0,1,2,3,4,5,6,7,8,9,10,11] [(4,0),(9,0)] rfl kr_ (fun R hB hR=>?_)
  refine D.ac ?_
  refine D.ar (3) rfl rfl rfl rfl rfl rfl rfl rfl rfl (fun _=>⟨by decide,by decide,rfl⟩) rfl rfl ?_
  refine D.aa (bkT hb2 1) ?_
  refine D.df (s.u0) (3) rfl rfl rfl rfl rfl rfl om_ rfl rfl ?_
  refine D.eL (c:=((s.u0 % 3:Nat):Int)) rfl rfl rfl rfl rfl rfl rfl rfl (wrap_i64 om_ om_) rfl rfl ?_
  refine D.ac ?_
  refine D.ar (4) rfl rfl rfl rfl rfl rfl rfl rfl rfl (fun _=>⟨by decide,by decide,rfl⟩) rfl rfl ?_
  refine D.aa (bkT hb2 1) ?_
  refine D.df (s.u1) (3) rfl rfl rfl rfl rfl rfl om_ rfl rfl ?_
  refine D.eL (c:=((s.u1 % 3:Nat):Int)) rfl rfl rfl rfl rfl rfl rfl rfl (wrap_i64 om_ om_) rfl rfl ?_
  refine D.q6 2 4 6 8 11 12 13 hR ?_
  refine G.rp 1 fun R hR=>?_
  refine D.ae (.head _) ?_
  refine D.q7 1 4 6 8 11 12 13 68 hR ?_
  refine G.cd (fun h68=>?_) fun h68=>?_
  ·have hk0:s.kind % 3=0:=by
    have:=bA h68
    omega
   refine G.rp 1 fun R hR=>?_
   refine D.ar ((s.u1 % 3)) rfl rfl rfl rfl rfl rfl rfl rfl rfl (fun _=>⟨by omega,by omega,(by show s.u1 % 3=0+(s.u1 % 3)*1;omega)⟩) rfl rfl ?_
   refine D.eO (PtrTo.blockT (Mem.get hb5 mup) (s.u1 % 3) 1) rfl rfl rfl rfl rfl rfl (show bS _ ((([strV [65],strV [66],strV [67]]:List Value).drop (s.u1 % 3)).take 1)=some (strV (labU (s.u1 % 3))) from by rw [lab_at _ om_];rfl) rfl ?_
   refine D.ac ?_
   refine D.ag (j:=0) ?_
   refine D.e2 6 8 hR ?_
   refine G.rg fun R hR=>?_
   refine D.ae (.head _) ?_
   refine D.ag (j:=1) ?_
   refine D.e1 6 hR ?_
   refine G.az (G.di (.head _) rfl rfl rfl rfl ?_)
   exact ⟨rfl,by unfold obsK;rw [if_pos hk0,hpe,hk0];rfl⟩
  ·have hk0:¬ s.kind % 3=0:=by
    intro e
    rw [e] at h68
    exact absurd h68 (by decide)
   refine G.z7 3 4 6 8 11 12 13 76 ?_
   refine G.cut (fun fr C' L' μ=>(True)/\fr=[(4,[],.pointer (some ⟨b4,0,none⟩)),(6,[],.pointer (some ⟨b6,0,none⟩)),(8,[],.pointer (some ⟨b8,0,none⟩)),(11,[],.pointer (some ⟨b11,0,none⟩)),(12,[],.int .i64 (lo:Nat)),(13,[],.int .i64 (up:Nat))]/\L'=[.obj b8 (.cells ⟨[.int .i64 (1+((s.kind % 3:Nat):Int)),strV [111,UInt8.ofNat (49+i)],strV (qtx p.1),strV (qtx p.2),strV [],strV [],strV [],strV [],strV [],strV []]⟩ 38 (0,0)),.obj b6 (.cells ⟨[.int .i64 0,strV [],strV [],strV [],strV [],strV [],strV [],strV [],strV [],strV []]⟩ 38 (0,0))]) ?_ (fun fr C76 L76 μ hle76 hI=>?_)
   ·refine G.cd (fun h76=>?_) fun h76=>?_
    ·have hee:s.u0 % 3=s.u1 % 3:=by
      have:=bA h76
      omega
     have hlo':lo=0:=by rw [<- hloe,loU,if_pos hee]
     have hup':up=1+s.u1 % 3 % 2:=by rw [<- hupe,upU,if_pos hee]
     subst hlo'
     subst hup'
     refine G.rp 1 fun R hR=>?_
     refine D.df ((s.u1 % 3)) (2) rfl rfl rfl rfl rfl rfl om_ rfl rfl ?_
     refine D.am _ ?_
     refine D.q6 2 4 6 8 11 12 13 hR ?_
     refine G.aw 0 (Mem.le.refl _) (h_6 4 6 8 11 12 13) ⟨trivial,rfl,rfl⟩
    ·have hee:¬ s.u0 % 3=s.u1 % 3:=by
      intro e
      rw [e,beq_self_eq_true] at h76
      exact absurd h76 (by decide)
     have hlo':lo=s.u0 % 3:=by rw [<- hloe,loU,if_neg hee]
     have hup':up=s.u1 % 3:=by rw [<- hupe,upU,if_neg hee]
     subst hlo'
     subst hup'
     refine G.aw 0 (Mem.le.refl _) (h_6 4 6 8 11 12 13) ⟨trivial,rfl,rfl⟩
   ·obtain ⟨_,rfl,rfl⟩:=hI
    refine G.cut (fun fr C' L' μ=>(True)/\fr=[(4,[],.pointer (some ⟨b4,0,none⟩)),(6,[],.pointer (some ⟨b6,0,none⟩)),(8,[],.pointer (some ⟨b8,0,none⟩))]/\L'=[.obj b8 (.cells ⟨[.int .i64 (1+((s.kind % 3:Nat):Int)),strV [111,UInt8.ofNat (49+i)],strV (qtx p.1),strV (qtx p.2),strV [],strV (labU (max lo up)),strV (labU (min lo up)),strV [],strV [],strV []]⟩ 38 (0,0)),.obj b6 (.cells ⟨[.int .i64 0,strV [],strV [],strV [],strV [],strV [],strV [],strV [],strV [],strV []]⟩ 38 (0,0))]) ?_ (fun fr Cr13 Lr13 μ hler13 hI=>?_)
    ·refine G.cX (.cut [0,1,2,3,4,5,6,7,8,10] (.alt 9 (.fin [11,12,13]) (.alt 11 (.fin [9,12,13]) .stop))) [] rfl rfl kr_ (fun R hB hR hH=>?_)
     refine D.ps 2 ?_
     refine D.max (((max lo up:Nat):Int)) rfl rfl rfl rfl rfl rfl om_ rfl rfl ?_
     refine D.ar ((max lo up)) rfl rfl rfl rfl rfl rfl rfl rfl rfl (fun _=>⟨by omega,by omega,(by show max lo up=0+(max lo up)*1;omega)⟩) rfl rfl ?_
     refine D.eO (PtrTo.blockT (Mem.get hb5 mup) (max lo up) 1) rfl rfl rfl rfl rfl rfl (show bS _ ((([strV [65],strV [66],strV [67]]:List Value).drop (max lo up)).take 1)=some (strV (labU (max lo up))) from by rw [lab_at _ om_];rfl) rfl ?_
     refine D.ps 2 ?_
     refine D.min (((min lo up:Nat):Int)) rfl rfl rfl rfl rfl rfl om_ rfl rfl ?_
     refine D.ar ((min lo up)) rfl rfl rfl rfl rfl rfl rfl rfl rfl (fun _=>⟨by omega,by omega,(by show min lo up=0+(min lo up)*1;omega)⟩) rfl rfl ?_
     refine D.ac ?_
     refine D.bJ hH rfl ⟨?_, ?_,trivial⟩
     ·refine D.eO (PtrTo.blockT (Mem.get hb5 mup) (min lo up) 1) rfl rfl rfl rfl rfl rfl (show bS _ ((([strV [65],strV [66],strV [67]]:List Value).drop (min lo up)).take 1)=some (strV (labU (min lo up))) from by rw [lab_at _ om_];rfl) rfl ?_
      refine D.ag (j:=0) ?_
      refine D.ac ?_
      refine D.ag (j:=0) ?_
      refine D.e3 4 6 8 hR ?_
      exact G.aw 0 mup (h_3 4 6 8) ⟨trivial,rfl,rfl⟩
     ·refine D.ag (j:=0) ?_
      refine D.eO (PtrTo.blockT (Mem.get hb5 mup) (min lo up) 1) rfl rfl rfl rfl rfl rfl (show bS _ ((([strV [65],strV [66],strV [67]]:List Value).drop (min lo up)).take 1)=some (strV (labU (min lo up))) from by rw [lab_at _ om_];rfl) rfl ?_
      refine D.ac ?_
      refine D.ag (j:=0) ?_
      refine D.e3 4 6 8 hR ?_
      exact G.aw 0 mup (h_3 4 6 8) ⟨trivial,rfl,rfl⟩
    obtain ⟨_,rfl,rfl⟩:=hI
    refine G.rp 1 fun R hR=>?_
    refine D.ae (.head _) ?_
    refine D.q4 1 4 6 8 94 hR ?_
    refine G.cd (fun h94=>?_) fun h94=>?_
    ·have hk1:s.kind % 3=1:=by
      have:=bA h94
      omega
     refine G.rp 1 fun R hR=>?_
     refine D.aa (bkT hb2 1) ?_
     refine D.df (s.depth) (12) rfl rfl rfl rfl rfl rfl om_ rfl rfl ?_
     refine D.cR (c:=((s.depth % 12:Nat):Int)) rfl rfl rfl rfl rfl rfl rfl rfl (wrap_i64 om_ om_) fl_ ?_
     refine D.ai (rof_fn _ (hT.mono mup) ((s.depth % 12:Nat):Int) 2 om_ om_ om_) rfl rfl rfl rfl rfl rfl rfl fl_ ?_
     refine D.ps 4 ?_
     refine D.ag (j:=0) ?_
     refine D.e2 6 8 hR ?_
     refine G.rg fun R hR=>?_
     refine D.ae (.head _) ?_
     refine D.ag (j:=1) ?_
     refine D.e1 6 hR ?_
     refine G.az (G.di (.head _) rfl rfl rfl rfl ?_)
     exact ⟨rfl,by unfold obsK;rw [if_neg hk0,if_pos hk1,hpe,hloe,hupe,hk1];rfl⟩
    ·have hk1:¬ s.kind % 3=1:=by
      intro e
      rw [e] at h94
      exact absurd h94 (by decide)
     have hk2:s.kind % 3=2:=by omega
     refine G.rp 1 fun R hR=>?_
     refine D.ar (8) rfl rfl rfl rfl rfl rfl rfl rfl rfl (fun _=>⟨by decide,by decide,rfl⟩) rfl rfl ?_
     refine D.aa (bkT hb2 1) ?_
     refine D.eQ (s.n2.tmod 5) rfl rfl rfl rfl rfl rfl (by decide) rfl rfl rfl ?_
     refine D.cR (c:=(s.n2.tmod 5)) rfl rfl rfl rfl rfl rfl rfl rfl (wrap_i64 om_ om_) fl_ ?_
     refine D.q4 1 4 6 8 14 hR ?_
     refine G.z5 2 4 6 8 14 111 ?_
     refine G.cut (fun fr C' L' μ=>(True)/\fr=[(4,[],.pointer (some ⟨b4,0,none⟩)),(6,[],.pointer (some ⟨b6,0,none⟩)),(8,[],.pointer (some ⟨b8,0,none⟩)),(14,[],.int .i64 lz)]/\L'=[.obj b8 (.cells ⟨[.int .i64 (1+((s.kind % 3:Nat):Int)),strV [111,UInt8.ofNat (49+i)],strV (qtx p.1),strV (qtx p.2),strV [],strV (labU (max lo up)),strV (labU (min lo up)),strV [],strV [],strV []]⟩ 38 (0,0)),.obj b6 (.cells ⟨[.int .i64 0,strV [],strV [],strV [],strV [],strV [],strV [],strV [],strV [],strV []]⟩ 38 (0,0))]) ?_ (fun fr C111 L111 μ hle111 hI=>?_)
     ·refine G.cd (fun h111=>?_) fun h111=>?_
      ·have hz0:s.n2.tmod 5=0:=bA h111
       have hlz':lz=1:=by rw [<- hlz,lastN,if_pos hz0]
       subst hlz'
       refine G.z4 1 4 6 8 14 ?_
       refine G.aw 0 (Mem.le.refl _) (h_4 4 6 8 14) ⟨trivial,rfl,rfl⟩
      ·have hz0:¬ s.n2.tmod 5=0:=by
        intro e
        rw [e] at h111
        exact absurd h111 (by decide)
       have hlz':lz=s.n2.tmod 5:=by rw [<- hlz,lastN,if_neg hz0]
       subst hlz'
       refine G.aw 0 (Mem.le.refl _) (h_4 4 6 8 14) ⟨trivial,rfl,rfl⟩
     ·obtain ⟨_,rfl,rfl⟩:=hI
      refine G.aH [0,1,2,3,4,5,6,7,8,9,10,11,12,13,14,15,16] [(5,1),(11,1),(13,1),(4,0),(10,0)] rfl kr_ (fun R hB hR=>?_)
      refine D.ac ?_
      refine D.ar (6) rfl rfl rfl rfl rfl rfl rfl rfl rfl (fun _=>⟨by decide,by decide,rfl⟩) rfl rfl ?_
      refine D.aa (bkT hb2 1) ?_
      refine D.eQ (s.n0.tmod 5) rfl rfl rfl rfl rfl rfl (by decide) rfl rfl rfl ?_
      refine D.eL (c:=(s.n0.tmod 5)) rfl rfl rfl rfl rfl rfl rfl rfl (wrap_i64 om_ om_) rfl rfl ?_
      refine D.aC (fun _=>(whole_fn _ (hT.mono mup) (s.n0.tmod 5) om_)) rfl rfl rfl rfl rfl rfl rfl rfl rfl ?_
      refine D.ac ?_
      refine D.ar (7) rfl rfl rfl rfl rfl rfl rfl rfl rfl (fun _=>⟨by decide,by decide,rfl⟩) rfl rfl ?_
      refine D.aa (bkT hb2 1) ?_
      refine D.eQ (s.n1.tmod 5) rfl rfl rfl rfl rfl rfl (by decide) rfl rfl rfl ?_
      refine D.eL (c:=(s.n1.tmod 5)) rfl rfl rfl rfl rfl rfl rfl rfl (wrap_i64 om_ om_) rfl rfl ?_
      refine D.aC (fun _=>(whole_fn _ (hT.mono mup) (s.n1.tmod 5) om_)) rfl rfl rfl rfl rfl rfl rfl rfl rfl ?_
      refine D.ac ?_
      refine D.aC (fun _=>(whole_fn _ (hT.mono mup) lz om_)) rfl rfl rfl rfl rfl rfl rfl rfl rfl ?_
      refine D.ak [strV (qtx ((s.n0.tmod 5:Int):Rat)),strV (qtx ((s.n1.tmod 5:Int):Rat)),strV (qtx ((lz:Int):Rat))] ?_
      refine D.ac ?_
      refine D.ag (j:=0) ?_
      refine D.e2 6 8 hR ?_
      refine G.rg fun R hR=>?_
      refine D.ae (.head _) ?_
      refine D.ag (j:=1) ?_
      refine D.e1 6 hR ?_
      refine G.az (G.di (.head _) rfl rfl rfl rfl ?_)
      exact ⟨rfl,by unfold obsK;rw [if_neg hk0,if_neg hk1,hpe,hloe,hupe,hlz,hk2];rfl⟩

def noSgt:Sgt:=⟨0,0,0,0,0,0,0,0,0⟩
def colK:List Lay:=[⟨[65],0,none⟩,⟨[66],0,some 5⟩,⟨[67],1,none⟩]
theorem qtx_five:qtx 5=[53]:=by
 show qtx ((5:Int):Rat)=_
 rw [qtx_int]
 decide +kernel
theorem colK_enc:colK.map encL=[[strV [65],strV [48],strV []],[strV [66],strV [48],strV [53]],[strV [67],strV [49],strV []]]:=by
 simp only [colK,List.map,encL,optS,qtx_zero,eo,qtx_five]
def obsL (S:Sht)(l:List Sgt):List Obs:=(List.range (min l.length 6)).map fun i=>obsK S (l.getD i noSgt) i
def a7 (S:Sht)(H:Hts)(l:List Sgt):Bk:=⟨ptsK (S.kd % 8) S.a S.b S.h,shT (S.kd % 8),(fsK (ptsK (S.kd % 8) S.a S.b S.h).length H).map qtx,colK,obsL S l⟩
theorem obsL_len (S:Sht)(l:List Sgt):(obsL S l).length=min l.length 6:=by simp [obsL]
theorem obsL_at (S:Sht){l:List Sgt}{i:Nat}{s:Sgt}(h:l[i]?=some s)(hi:i<6):(obsL S l)[i]?=some (obsK S s i):=by
 have h1:=(List.getElem?_eq_some_iff.1 h).1
 rw [obsL,List.getElem?_map,List.getElem?_range om_]
 show some (obsK S (l.getD i noSgt) i)=_
 rw [List.getD_eq_getElem?_getD,h]
 rfl
theorem make24_fn (C:Mem)(hT:Tabs C)(S:Sht)(H:Hts)(sv:Value)(l:List Sgt)(hk:S.kd<256)(hHr:HtsR H)(hsv:Sl C 9 sv (l.map sgtC))(hs:∀ s∈l,SgtR s)(hG:Good (ptsK (S.kd % 8) S.a S.b S.h) (shT (S.kd % 8))) :
  Pur cx.P 5 [.agg ⟨planC S H sv⟩] C fun u D=>BookIn D u (a7 S H l):=by
 obtain ⟨As,cs,rfl,hs1,hs2,_⟩:=id hsv
 have hmx:maxLen<=9223372036854775807:=by simp [maxLen]
 simp only [List.length_map] at hsv hs1 ⊢
 have hle6:=ptsK_len (S.kd % 8) S.a S.b S.h
 refine Fn.it kr_ Tryz.func5 44 fun w0=>?_
 refine G.rg fun R hR=>?_
 refine D.aB (fun b1=>?_)
 refine D.aj (fun b2=>?_)
 refine D.e2 1 2 hR ?_
 refine G.freeze 1 rfl (fun C1 hle1 hb1=>?_)
 refine G.rp 1 fun R hR=>?_
 refine D.aa (bkT hb1 4) ?_
 refine D.aX (make12_fn _ (hT.mono mup) S.kd S.a S.b S.h hk) (fun v8 C8 hle8 hq8=>?_)
 obtain ⟨v1,v2,rfl,hm1,hm2⟩:=id hq8.ex
 obtain ⟨A1,c1,rfl,hc1,hc2,_⟩:=id hm1
 obtain ⟨A2,c2,rfl,_,_,_⟩:=id hm2
 simp only [List.length_map] at hm1 hm2 hc1 hq8 ⊢
 refine D.aj (fun b3=>?_)
 refine D.ag (j:=0) ?_
 refine D.e3 1 2 3 hR ?_
 refine G.freeze 0 rfl (fun C3 hle3 hb3=>?_)
 refine G.cut (fun fr C' L' μ=>∃ (A3:Option Addr)(c3:Nat)(p17:Value)(b4:Nat),(Sl C' 1 (.slice A3 (fsK (ptsK (S.kd % 8) S.a S.b S.h).length H).length c3) ((fsK (ptsK (S.kd % 8) S.a S.b S.h).length H).map encQ)/\Sl C' 3 p17 [[strV [65],strV [48],strV []],[strV [66],strV [48],strV [53]],[strV [67],strV [49],strV []]])/\fr=[(1,[],.pointer (some ⟨b1,0,none⟩)),(2,[],.pointer (some ⟨b2,0,none⟩)),(4,[],.pointer (some ⟨b4,0,none⟩))]/\L'=[.obj b4 (.cells ⟨[.slice A1 (ptsK (S.kd % 8) S.a S.b S.h).length c1,.slice A2 (shT (S.kd % 8)).length c2,.slice A3 (fsK (ptsK (S.kd % 8) S.a S.b S.h).length H).length c3,p17,.slice none 0 0]⟩ 49 (0,0)),.obj b2 (.cells ⟨[.slice none 0 0,.slice none 0 0,.slice none 0 0,.slice none 0 0,.slice none 0 0]⟩ 49 (0,0))]) ?_ (fun fr Cr2 Lr2 μ hler2 hI=>?_)
 ·refine G.cX (.cut [0,1,2,3,5,6,7] (.alt 4 (.cut [] (.alt 8 (.fin [9,10,11]) (.alt 10 (.fin [8,9,11]) .stop))) (.alt 8 (.cut [] (.alt 4 (.fin [9,10,11]) (.alt 10 (.fin [4,9,11]) .stop))) (.alt 10 (.cut [] (.alt 4 (.fin [8,9,11]) (.alt 8 (.fin [4,9,11]) .stop))) .stop)))) [] rfl rfl kr_ (fun R hB hR hH=>?_)
  refine D.aa (bkT hb3 2) ?_
  refine D.aa (bkT hb3 2) ?_
  refine D.ac ?_
  refine D.aa (bkT hb1 7) ?_
  refine D.ak ([strV [65],strV [48],strV []]) ?_
  refine D.ak ([strV [66],strV [48],strV [53]]) ?_
  refine D.ak ([strV [67],strV [49],strV []]) ?_
  refine D.bJ hH rfl ⟨?_, ?_, ?_,trivial⟩
  ·refine D.aP (make13_fn _ (hT.mono mup) _ _ (ptsK (S.kd % 8) S.a S.b S.h).length A1 c1 H rfl om_ hHr) rfl rfl rfl rfl rfl rfl rfl fl_ (fun v13 C13 hle13 hq13=>?_)
   refine D.bJ hH rfl ⟨?_, ?_,trivial⟩
   ·refine D.aQ [[strV [65],strV [48],strV []],[strV [66],strV [48],strV [53]],[strV [67],strV [49],strV []]] rfl rfl rfl rfl rfl rfl rfl rfl rfl rfl rfl rfl fl_ (fun b17 C17 hle17 hs17=>?_)
    obtain ⟨A3,c3,rfl,_,_,_⟩:=id hq13
    simp only [List.length_map] at hq13 ⊢
    refine D.ak [.slice A1 (ptsK (S.kd % 8) S.a S.b S.h).length c1,.slice A2 (shT (S.kd % 8)).length c2,.slice A3 (fsK (ptsK (S.kd % 8) S.a S.b S.h).length H).length c3,.slice (some ⟨b17,0,none⟩) 3 3,.slice none 0 0] ?_
    refine D.aj (fun b4=>?_)
    refine D.ag (j:=0) ?_
    refine D.e3 1 2 4 hR ?_
    exact G.aw 0 mup (h_3 1 2 4) ⟨A3,c3,_,b4,⟨hq13.mono mup,hs17.mono mup⟩,rfl,rfl⟩
   ·refine D.aj (fun b4=>?_)
    refine D.aQ [[strV [65],strV [48],strV []],[strV [66],strV [48],strV [53]],[strV [67],strV [49],strV []]] rfl rfl rfl rfl rfl rfl rfl rfl rfl rfl rfl rfl fl_ (fun b17 C17 hle17 hs17=>?_)
    obtain ⟨A3,c3,rfl,_,_,_⟩:=id hq13
    simp only [List.length_map] at hq13 ⊢
    refine D.ak [.slice A1 (ptsK (S.kd % 8) S.a S.b S.h).length c1,.slice A2 (shT (S.kd % 8)).length c2,.slice A3 (fsK (ptsK (S.kd % 8) S.a S.b S.h).length H).length c3,.slice (some ⟨b17,0,none⟩) 3 3,.slice none 0 0] ?_
    refine D.ag (j:=0) ?_
    refine D.e3 1 2 4 hR ?_
    exact G.aw 0 mup (h_3 1 2 4) ⟨A3,c3,_,b4,⟨hq13.mono mup,hs17.mono mup⟩,rfl,rfl⟩
  ·refine D.aQ [[strV [65],strV [48],strV []],[strV [66],strV [48],strV [53]],[strV [67],strV [49],strV []]] rfl rfl rfl rfl rfl rfl rfl rfl rfl rfl rfl rfl fl_ (fun b17 C17 hle17 hs17=>?_)
   refine D.bJ hH rfl ⟨?_, ?_,trivial⟩
   ·refine D.aP (make13_fn _ (hT.mono mup) _ _ (ptsK (S.kd % 8) S.a S.b S.h).length A1 c1 H rfl om_ hHr) rfl rfl rfl rfl rfl rfl rfl fl_ (fun v13 C13 hle13 hq13=>?_)
    obtain ⟨A3,c3,rfl,_,_,_⟩:=id hq13
    simp only [List.length_map] at hq13 ⊢
    refine D.ak [.slice A1 (ptsK (S.kd % 8) S.a S.b S.h).length c1,.slice A2 (shT (S.kd % 8)).length c2,.slice A3 (fsK (ptsK (S.kd % 8) S.a S.b S.h).length H).length c3,.slice (some ⟨b17,0,none⟩) 3 3,.slice none 0 0] ?_
    refine D.aj (fun b4=>?_)
    refine D.ag (j:=0) ?_
    refine D.e3 1 2 4 hR ?_
    exact G.aw 0 mup (h_3 1 2 4) ⟨A3,c3,_,b4,⟨hq13.mono mup,hs17.mono mup⟩,rfl,rfl⟩
   ·refine D.aj (fun b4=>?_)
    refine D.aP (make13_fn _ (hT.mono mup) _ _ (ptsK (S.kd % 8) S.a S.b S.h).length A1 c1 H rfl om_ hHr) rfl rfl rfl rfl rfl rfl rfl fl_ (fun v13 C13 hle13 hq13=>?_)
    obtain ⟨A3,c3,rfl,_,_,_⟩:=id hq13
    simp only [List.length_map] at hq13 ⊢
    refine D.ak [.slice A1 (ptsK (S.kd % 8) S.a S.b S.h).length c1,.slice A2 (shT (S.kd % 8)).length c2,.slice A3 (fsK (ptsK (S.kd % 8) S.a S.b S.h).length H).length c3,.slice (some ⟨b17,0,none⟩) 3 3,.slice none 0 0] ?_
    refine D.ag (j:=0) ?_
    refine D.e3 1 2 4 hR ?_
    exact G.aw 0 mup (h_3 1 2 4) ⟨A3,c3,_,b4,⟨hq13.mono mup,hs17.mono mup⟩,rfl,rfl⟩
  ·refine D.aj (fun b4=>?_)
   refine D.bJ hH rfl ⟨?_, ?_,trivial⟩
   ·refine D.aP (make13_fn _ (hT.mono mup) _ _ (ptsK (S.kd % 8) S.a S.b S.h).length A1 c1 H rfl om_ hHr) rfl rfl rfl rfl rfl rfl rfl fl_ (fun v13 C13 hle13 hq13=>?_)
    refine D.aQ [[strV [65],strV [48],strV []],[strV [66],strV [48],strV [53]],[strV [67],strV [49],strV []]] rfl rfl rfl rfl rfl rfl rfl rfl rfl rfl rfl rfl fl_ (fun b17 C17 hle17 hs17=>?_)
    obtain ⟨A3,c3,rfl,_,_,_⟩:=id hq13
    simp only [List.length_map] at hq13 ⊢
    refine D.ak [.slice A1 (ptsK (S.kd % 8) S.a S.b S.h).length c1,.slice A2 (shT (S.kd % 8)).length c2,.slice A3 (fsK (ptsK (S.kd % 8) S.a S.b S.h).length H).length c3,.slice (some ⟨b17,0,none⟩) 3 3,.slice none 0 0] ?_
    refine D.ag (j:=0) ?_
    refine D.e3 1 2 4 hR ?_
    exact G.aw 0 mup (h_3 1 2 4) ⟨A3,c3,_,b4,⟨hq13.mono mup,hs17.mono mup⟩,rfl,rfl⟩
   ·refine D.aQ [[strV [65],strV [48],strV []],[strV [66],strV [48],strV [53]],[strV [67],strV [49],strV []]] rfl rfl rfl rfl rfl rfl rfl rfl rfl rfl rfl rfl fl_ (fun b17 C17 hle17 hs17=>?_)
    refine D.aP (make13_fn _ (hT.mono mup) _ _ (ptsK (S.kd % 8) S.a S.b S.h).length A1 c1 H rfl om_ hHr) rfl rfl rfl rfl rfl rfl rfl fl_ (fun v13 C13 hle13 hq13=>?_)
    obtain ⟨A3,c3,rfl,_,_,_⟩:=id hq13
    simp only [List.length_map] at hq13 ⊢
    refine D.ak [.slice A1 (ptsK (S.kd % 8) S.a S.b S.h).length c1,.slice A2 (shT (S.kd % 8)).length c2,.slice A3 (fsK (ptsK (S.kd % 8) S.a S.b S.h).length H).length c3,.slice (some ⟨b17,0,none⟩) 3 3,.slice none 0 0] ?_
    refine D.ag (j:=0) ?_
    refine D.e3 1 2 4 hR ?_
    exact G.aw 0 mup (h_3 1 2 4) ⟨A3,c3,_,b4,⟨hq13.mono mup,hs17.mono mup⟩,rfl,rfl⟩
 obtain ⟨A3,c3,p17,b4,⟨hf3,hc17⟩,rfl,rfl⟩:=hI
 refine G.z4 1 1 2 4 5 ?_
 refine G.nilArr 38 10 ?_
 refine G.perm (L':=[.obj b4 (.cells ⟨[.slice A1 (ptsK (S.kd % 8) S.a S.b S.h).length c1,.slice A2 (shT (S.kd % 8)).length c2,.slice A3 (fsK (ptsK (S.kd % 8) S.a S.b S.h).length H).length c3,p17,.slice none 0 0]⟩ 49 (0,0)),.arr (.slice none 0 0) 38 10 0 [],.obj b2 (.cells ⟨[.slice none 0 0,.slice none 0 0,.slice none 0 0,.slice none 0 0,.slice none 0 0]⟩ 49 (0,0))]) (List.Perm.swap _ _ _) ?_
 refine G.loop (fun fr C' L' μ=>∃ (i:Nat)(w:Value),(i<=l.length/\i<=6)/\fr=[(1,[],.pointer (some ⟨b1,0,none⟩)),(2,[],.pointer (some ⟨b2,0,none⟩)),(4,[],.pointer (some ⟨b4,0,none⟩)),(5,[],.int .i64 i)]/\L'=[.obj b4 (.cells ⟨[.slice A1 (ptsK (S.kd % 8) S.a S.b S.h).length c1,.slice A2 (shT (S.kd % 8)).length c2,.slice A3 (fsK (ptsK (S.kd % 8) S.a S.b S.h).length H).length c3,p17,w]⟩ 49 (0,0)),.arr w 38 10 ((obsL S l).take i).length (((obsL S l).take i).map encO).flatten,.obj b2 (.cells ⟨[.slice none 0 0,.slice none 0 0,.slice none 0 0,.slice none 0 0,.slice none 0 0]⟩ 49 (0,0))]/\μ=6-i) (h_4 1 2 4 5) ⟨0,.slice none 0 0,⟨Nat.zero_le _,Nat.zero_le _⟩,rfl,rfl,rfl⟩ (fun fr C0' L0' m hle0 hI=>?_)
 obtain ⟨i,w,⟨hi,hi6⟩,rfl,rfl,rfl⟩:=hI
 refine G.rp 2 fun R hR=>?_
 refine D.aa (bkT hb1 1) ?_
 refine D.ps 5 ?_
 refine D.aq ?_
 refine D.e5 1 2 4 5 27 hR ?_
 refine G.cd (fun h27=>?_) fun h27=>?_
 ·have hil:i<l.length/\i<6:=by
   by_cases h1:((i:Nat):Int)<(l.length:Nat)
   ·rw [decide_eq_true h1] at h27
    have h2:=of_decide_eq_true h27
    omega
   ·rw [decide_eq_false h1] at h27
    exact absurd h27 (by simp)
  obtain ⟨s,hsi⟩:∃ s,l[i]?=some s:=⟨l[i]'hil.1,List.getElem?_eq_getElem hil.1⟩
  have htk:(obsL S l).take (i+1)=(obsL S l).take i++[obsK S s i]:=by rw [List.take_add_one,obsL_at S hsi hil.2];rfl
  have htl:((obsL S l).take i).length<=6:=by rw [List.length_take,obsL_len];omega
  refine G.aH [0,1,2,3,4,5,6,7,8,9,10,11,12,13] [] rfl kr_ (fun R hB hR=>?_)
  refine D.ac ?_
  refine D.ae (.head _) ?_
  refine D.aa (bkT hb1 12) ?_
  refine D.ac ?_
  refine D.aa (bkT hb1 1) ?_
  refine D.ac ?_
  refine D.al (hsv.mono mup) rfl rfl rfl rfl rfl rfl rfl rfl rfl rfl om_ (bt hsi) fl_ (fun p36 hp36=>?_)
  refine D.aa hp36 ?_
  refine D.ac ?_
  refine D.aX (observation_fn _ (hT.mono mup) S s H _ i hil.2 hk (hs s (List.mem_of_getElem? hsi)) hG) (fun v39 C39 hle39 hq39=>?_)
  subst hq39
  refine D.ah [encO (obsK S s i)] (fun p40 C40 hle40 hs40=>?_)
  refine D.aS (j:=1) rfl rfl rfl rfl rfl rfl rfl rfl rfl rfl rfl (hs40.mono mup) rfl (by simp only [List.length_singleton,maxLen];omega) (by simp only [List.length_singleton];omega) fl_ (fun A41 n41 c41=>?_)
  refine D.ac ?_
  refine D.ag (j:=1) ?_
  refine D.e4 1 2 4 5 hR ?_
  refine G.rp 1 fun R hR=>?_
  refine D.am _ ?_
  refine D.q4 1 1 2 4 5 hR ?_
  refine G.aY (L':=[.obj b4 (.cells ⟨[.slice A1 (ptsK (S.kd % 8) S.a S.b S.h).length c1,.slice A2 (shT (S.kd % 8)).length c2,.slice A3 (fsK (ptsK (S.kd % 8) S.a S.b S.h).length H).length c3,p17,.slice A41 n41 c41]⟩ 49 (0,0)),.arr (.slice A41 n41 c41) 38 10 ((obsL S l).take (i+1)).length (((obsL S l).take (i+1)).map encO).flatten,.obj b2 (.cells ⟨[.slice none 0 0,.slice none 0 0,.slice none 0 0,.slice none 0 0,.slice none 0 0]⟩ 49 (0,0))]) (by rw [htk,List.map_append,List.flatten_append,List.length_append];rfl) ?_
  refine G.ax (m':=6-(i+1)) om_ mup (h_4 1 2 4 5) ⟨i+1,_,⟨by omega,by omega⟩,rfl,rfl,rfl⟩
 ·have hil:i=min l.length 6:=by
   by_cases h1:((i:Nat):Int)<(l.length:Nat)
   ·rw [decide_eq_true h1] at h27
    have h2:=of_decide_eq_false h27
    omega
   ·omega
  have hfull:(obsL S l).take i=obsL S l:=List.take_of_length_le (by rw [hil,obsL_len];exact Nat.le_refl _)
  rw [hfull]
  refine G.freezeArr 1 ((obsL S l).map encO) rfl rfl (by intro r hr;obtain ⟨y,_,rfl⟩:=List.mem_map.1 hr;rfl) (by rw [List.length_map]) (fun Cg hg hsl3=>?_)
  obtain ⟨Aw,cw,rfl,_⟩:=id hsl3
  obtain ⟨Ap,cp,rfl,_⟩:=id hc17
  refine G.rg fun R hR=>?_
  refine D.ae (.head _) ?_
  refine D.ag (j:=1) ?_
  refine D.e1 2 hR ?_
  refine G.az (G.di (.head _) rfl rfl rfl rfl ?_)
  exact ⟨rfl,_,_,_,_,_,rfl,hm1.mono mup,hm2.mono mup,(by rw [a7,<- encQ_S1];exact hf3.mono mup),(by rw [a7,colK_enc];exact hc17.mono mup),hsl3⟩

def exO1:Obs:=⟨2,[99],qtx 3,qtx 0,[52],[66],[65],[],[],[]⟩
def exO2:Obs:=⟨3,[100],qtx 3,qtx 0,[],[66],[65],qtx (-1),qtx 0,qtx 2⟩
def exB:Bk:=⟨[(0,0),(6,0),(0,4)],[(0,1,2)],[[49,48],[49,48],[49,48]],[⟨[65],0,none⟩,⟨[66],0,none⟩],[exO1,exO2]⟩
theorem ex_col:exB.col.map encL=[[strV [65],strV [48],strV []],[strV [66],strV [48],strV []]]:=by
 simp only [exB,List.map,encL,optS,qtx_zero]
theorem example_fn (C:Mem)(hT:Tabs C):Pur cx.P 18 [] C fun u D=>BookIn D u exB:=by
 refine Fn.it kr_ Tryz.func18 19 fun w0=>?_
 refine G.rg fun R hR=>?_
 refine D.aj (fun b0=>?_)
 refine D.e1 0 hR ?_
 refine G.rg fun R hR=>?_
 refine D.ai (at_fn _ (hT.mono mup) 0 0 (by decide) (by decide)) rfl rfl rfl rfl rfl rfl rfl fl_ ?_
 refine D.ai (at_fn _ (hT.mono mup) 6 0 (by decide) (by decide)) rfl rfl rfl rfl rfl rfl rfl fl_ ?_
 refine D.ai (at_fn _ (hT.mono mup) 0 4 (by decide) (by decide)) rfl rfl rfl rfl rfl rfl rfl fl_ ?_
 refine D.aQ [encP (((0:Int):Rat),((0:Int):Rat)),encP (((6:Int):Rat),((0:Int):Rat)),encP (((0:Int):Rat),((4:Int):Rat))] rfl rfl rfl rfl rfl rfl rfl rfl rfl rfl rfl rfl fl_ (fun b4 C4 hle4 hs4=>?_)
 refine D.ak ([.int .i64 0,.int .i64 1,.int .i64 2]) ?_
 refine D.aQ [[.int .i64 0,.int .i64 1,.int .i64 2]] rfl rfl rfl rfl rfl rfl rfl rfl rfl rfl rfl rfl fl_ (fun b6 C6 hle6 hs6=>?_)
 refine D.ak [.slice (some ⟨b4,0,none⟩) 3 3,.slice (some ⟨b6,0,none⟩) 1 1] ?_
 refine D.aQ [[strV [49,48]],[strV [49,48]],[strV [49,48]]] rfl rfl rfl rfl rfl rfl rfl rfl rfl rfl rfl rfl fl_ (fun b8 C8 hle8 hs8=>?_)
 refine D.ak ([strV [65],strV [48],strV []]) ?_
 refine D.ak ([strV [66],strV [48],strV []]) ?_
 refine D.aQ [[strV [65],strV [48],strV []],[strV [66],strV [48],strV []]] rfl rfl rfl rfl rfl rfl rfl rfl rfl rfl rfl rfl fl_ (fun b11 C11 hle11 hs11=>?_)
 refine D.ai (at_fn _ (hT.mono mup) 3 0 (by decide) (by decide)) rfl rfl rfl rfl rfl rfl rfl fl_ ?_
 refine D.ak [.int .i64 2,strV [99],strV (qtx ((3:Int):Rat)),strV (qtx ((0:Int):Rat)),strV [52],strV [66],strV [65],strV [],strV [],strV []] ?_
 refine D.ai (at_fn _ (hT.mono mup) 3 0 (by decide) (by decide)) rfl rfl rfl rfl rfl rfl rfl fl_ ?_
 refine D.ai (vec_fn _ (hT.mono mup) (-1) 0 2 (by decide) (by decide) (by decide)) rfl rfl rfl rfl rfl rfl rfl fl_ ?_
 refine D.ak [.int .i64 3,strV [100],strV (qtx ((3:Int):Rat)),strV (qtx ((0:Int):Rat)),strV [],strV [66],strV [65],strV (qtx ((-1:Int):Rat)),strV (qtx ((0:Int):Rat)),strV (qtx ((2:Int):Rat))] ?_
 refine D.aQ [[.int .i64 2,strV [99],strV (qtx ((3:Int):Rat)),strV (qtx ((0:Int):Rat)),strV [52],strV [66],strV [65],strV [],strV [],strV []],[.int .i64 3,strV [100],strV (qtx ((3:Int):Rat)),strV (qtx ((0:Int):Rat)),strV [],strV [66],strV [65],strV (qtx ((-1:Int):Rat)),strV (qtx ((0:Int):Rat)),strV (qtx ((2:Int):Rat))]] rfl rfl rfl rfl rfl rfl rfl rfl rfl rfl rfl rfl fl_ (fun b17 C17 hle17 hs17=>?_)
 refine D.ak [.slice (some ⟨b4,0,none⟩) 3 3,.slice (some ⟨b6,0,none⟩) 1 1,.slice (some ⟨b8,0,none⟩) 3 3,.slice (some ⟨b11,0,none⟩) 2 2,.slice (some ⟨b17,0,none⟩) 2 2] ?_
 refine D.ag (j:=0) ?_
 refine D.e1 0 hR ?_
 refine G.az (G.di (.head _) rfl rfl rfl rfl ?_)
 exact ⟨rfl,_,_,_,_,_,rfl,hs4.mono mup,hs6.mono mup,hs8.mono mup,(by rw [ex_col];exact hs11.mono mup),hs17.mono mup⟩
theorem lcount_fn (C:Mem)(bv:Value)(B:Bk)(hB:BookIn C bv B)(hc:B.col.length<=1000)(hc0:B.col≠[])(hp:B.pts.length<=400):Gives cx.P 7 [bv] C (.int .i64 ((bs B*bp B:Nat):Int)):=by
 obtain ⟨v1,v2,tv,cv,ov,rfl,h1,h2,h3,h4,h5⟩:=id hB.ex
 obtain ⟨A1,c1,rfl,hq1,hq2,_⟩:=id h1
 obtain ⟨A4,c4,rfl,hq3,hq4,_⟩:=id h4
 have hcp:=List.length_pos_iff.2 hc0
 have hbs:bs B+1=B.col.length:=by unfold bs;omega
 simp only [List.length_map] at h1 h4 ⊢
 have hm:bs B*B.pts.length<=1000*400:=Nat.mul_le_mul om_ hp
 have hm1:((bs B:Nat):Int)*((B.pts.length:Nat):Int)<=400000:=by rw [<- Int.natCast_mul];omega
 have hm2:0<=((bs B:Nat):Int)*((B.pts.length:Nat):Int):=by rw [<- Int.natCast_mul];omega
 refine Fn.it kr_ Tryz.func7 12 fun w0=>?_
 refine G.rg fun R hR=>?_
 refine D.aB (fun b1=>?_)
 refine D.q1 1 1 hR ?_;clear hR R
 refine G.freeze 0 rfl (fun C1 hle1 hb1=>?_)
 refine G.rp 1 fun R hR=>?_
 refine D.aa (bkT hb1 1) ?_
 refine D.ac ?_
 refine D.cG (((bs B:Nat):Int)) rfl rfl rfl rfl om_ om_ om_ rfl rfl ?_
 refine D.ps 2 ?_
 refine D.aa (bkT hb1 1) ?_
 refine D.ac ?_
 refine D.am _ ?_
 refine D.q1 1 2 hR ?_;clear hR R
 refine G.rf ?_
 exact ⟨by rw [Int.natCast_mul];rfl,rfl⟩
theorem map_qtx_inj:∀ {l m:List Rat},l.map qtx=m.map qtx->l=m
 | [],[],_=>rfl
 | [],_::_,h=>by simp at h
 | _::_,[],h=>by simp at h
 | a::l,b::m,h=>by
  simp only [List.map_cons,List.cons.injEq] at h
  rw [qtx_eq h.1,map_qtx_inj h.2]
theorem map_qtx_dec (l m:List Rat):decide (l.map qtx=m.map qtx)=decide (l=m):=by
 rw [decide_eq_decide]
 exact ⟨map_qtx_inj,fun h=>by rw [h]⟩
theorem sameRow_fn (C:Mem)(f1 f2:Value)(l1 l2:List Rat)(b1 b2:Rat)(h1:Sl C 1 f1 (l1.map encQ))(h2:Sl C 1 f2 (l2.map encQ)) :
  Gives cx.P 19 [.agg ⟨[f1,strV (qtx b1)]⟩,.agg ⟨[f2,strV (qtx b2)]⟩] C (.bool (decide (l1=l2) && decide (b1=b2))):=by
 refine Fn.it kr_ Tryz.func19 17 fun w0=>?_
 refine G.rg fun R hR=>?_
 refine D.aB (fun b2=>?_)
 refine D.aB (fun b3=>?_)
 refine D.q2 1 2 3 hR ?_
 refine G.freeze 1 rfl (fun C1 hle1 hb1=>?_)
 refine G.freeze 0 rfl (fun C2 hle2 hb2=>?_)
 refine G.rp 1 fun R hR=>?_
 refine D.aa (bkT hb1 1) ?_
 refine D.ac ?_
 refine D.aa (bkT hb2 1) ?_
 refine D.ai (same13_fn _ _ _ (l1.map qtx) (l2.map qtx) (by rw [<- encQ_S1];exact h1.mono mup) (by rw [<- encQ_S1];exact h2.mono mup)) rfl rfl rfl rfl rfl rfl rfl fl_ ?_
 refine D.ps 2 ?_
 refine D.aU rfl rfl rfl rfl rfl rfl (fun _=>PtrTo.blockT (Mem.get hb1 mup) _ 1) rfl rfl rfl ?_
 refine D.ac ?_
 refine D.aU rfl rfl rfl rfl rfl rfl (fun _=>PtrTo.blockT (Mem.get hb2 mup) _ 1) rfl rfl rfl ?_
 refine D.ac ?_
 refine D.aq ?_
 refine D.q1 1 4 hR ?_
 refine G.rf ?_
 exact ⟨by rw [qtxEq,map_qtx_dec],rfl⟩

instance:DecidableEq RowQ:=fun a b=>decidable_of_iff (a.f=b.f/\a.b=b.b) (by cases a;cases b;simp)

instance (k:Nat) (q:Rat):Decidable (QB k q):=by unfold QB;infer_instance
instance (k:Nat) (p:Pt):Decidable (QP k p):=by unfold QP;infer_instance
instance (n:Nat) (t:Tri):Decidable (TriIn n t):=by unfold TriIn;infer_instance
theorem ex_good:Good exB.pts exB.tris :=
 ⟨⟨by decide +kernel,by decide +kernel,by decide +kernel,by decide +kernel,by decide +kernel,by decide,by decide⟩,by decide,by decide +kernel⟩
theorem ex_loc:locL exB.pts exB.tris (3,0)=[0]:=by decide +kernel
theorem qtx_nat5 {z:Int}{s:Str}(h:txt z=s):qtx ((z:Int):Rat)=s:=by rw [qtx_int,h]
theorem qtx_three:qtx 3=[51]:=qtx_nat5 (z:=3) (by decide +kernel)
theorem qtx_four:qtx 4=[52]:=qtx_nat5 (z:=4) (by decide +kernel)
theorem qtx_two:qtx 2=[50]:=qtx_nat5 (z:=2) (by decide +kernel)
theorem qtx_ten:qtx 10=[49,48]:=qtx_nat5 (z:=10) (by decide +kernel)
theorem qtx_mone:qtx (-1)=[45,49]:=qtx_nat5 (z:=-1) (by decide +kernel)
theorem ratOf_t (q:Rat){s:Str}(h:qtx q=s)(hq:QB 22 q):cm s=q:=by rw [<- h];exact ratOf_qtx (ba hq)
theorem ro4:cm [52]=4:=ratOf_t 4 qtx_four (by decide +kernel)
theorem ro3:cm [51]=3:=ratOf_t 3 qtx_three (by decide +kernel)
theorem ro2:cm [50]=2:=ratOf_t 2 qtx_two (by decide +kernel)
theorem ro0:cm [48]=0:=ratOf_t 0 qtx_zero (by decide +kernel)
theorem rom:cm [45,49]=-1:=ratOf_t (-1) qtx_mone (by decide +kernel)
theorem exO1_e:exO1=⟨2,[99],[51],[48],[52],[66],[65],[],[],[]⟩:=by rw [exO1,qtx_three,qtx_zero]
theorem exO2_e:exO2=⟨3,[100],[51],[48],[],[66],[65],[45,49],[48],[50]⟩:=by rw [exO2,qtx_three,qtx_zero,qtx_mone,qtx_two]
theorem ex_sh1:dh exO1=0:=by rw [exO1_e];decide +kernel
theorem ex_sh2:dh exO2=0:=by rw [exO2_e];decide +kernel
theorem ex_fld:fldZ exB.pts.length exB.terr=0:=by decide +kernel
theorem ex_pt1:ptO exO1=(3,0):=by rw [exO1_e];unfold ptO;rw [ro3,ro0]
theorem ex_pt2:ptO exO2=(3,0):=by rw [exO2_e];unfold ptO;rw [ro3,ro0]
theorem ex_ov1:overZ exB.pts exB.tris exB.col exO1=0:=by
 unfold overZ
 rw [if_neg (by rw [ex_sh1];decide),if_neg (by unfold conB;rw [ex_pt1,ex_loc];decide),if_neg (by rw [exO1_e];decide +kernel),if_neg (by rw [exO1_e];decide +kernel),if_neg (by rw [exO1_e];unfold depB;rw [ro4];decide +kernel),if_neg (by rw [exO1_e];decide +kernel)]
theorem ex_ov2:overZ exB.pts exB.tris exB.col exO2=0:=by
 unfold overZ
 rw [if_neg (by rw [ex_sh2];decide),if_neg (by unfold conB;rw [ex_pt2,ex_loc];decide),if_neg (by rw [exO2_e];decide +kernel),if_neg (by rw [exO2_e];decide +kernel),if_neg (by rw [exO2_e];unfold depB;decide),if_neg (by rw [exO2_e];decide +kernel)]
def exFs:List Rat:=[10,10,10]
theorem ex_terr:Terr exB exFs:=⟨by simp [exB,exFs,qtx_ten],rfl,by decide +kernel⟩
theorem ex_on:onQ exB.pts exFs (0,1,2) (3,0)=10:=by decide +kernel
theorem ex_val:valV exB.pts exB.tris exFs (3,0)=.tuple #[strV (qtx 10),.int .i64 0]:=by
 unfold valV
 rw [ex_loc]
 show numV (onQ exB.pts exFs (0,1,2) (3,0))=_
 rw [ex_on]
 unfold numV
 rw [if_pos (ba (by decide +kernel))]
theorem ex_at1:ObsAt exO1 (3,0):=⟨rfl,rfl,by decide +kernel,⟨ba (by decide +kernel),ba (by decide +kernel)⟩,fun _=>by decide +kernel⟩
theorem ex_at2:ObsAt exO2 (3,0):=⟨rfl,rfl,by decide +kernel,⟨ba (by decide +kernel),ba (by decide +kernel)⟩,fun h=>absurd h (by decide)⟩
theorem wgt_mod (pts:List Pt)(t:Tri)(p:Pt)(j:Nat):wgt pts t p j=wgt pts t p (j % 3):=by
 unfold wgt
 rw [show (j+1) % 3=(j % 3+1) % 3 by omega,show (j+2) % 3=(j % 3+2) % 3 by omega]
theorem triN_min (t:Tri)(j:Nat):triN t j=triN t (min j 2):=by
 unfold triN
 rcases (by omega:j=0∨j=1∨2<=j) with h | h | h
 ·subst h;rfl
 ·subst h;rfl
 ·rw [Nat.min_eq_right h,if_neg om_,if_neg om_];rfl
theorem ex_w:∀ j,QB 22 (wgt exB.pts (0,1,2) (3,0) j):=by
 intro j
 rw [wgt_mod]
 rcases (by omega:j % 3=0∨j % 3=1∨j % 3=2) with h | h | h <;> rw [h] <;> decide +kernel
theorem ex_sl:∀ j,QP 22 (slf exB.pts (0,1,2) j):=by
 intro j
 unfold slf
 rw [triN_min]
 rcases (by omega:min j 2=0∨min j 2=1∨min j 2=2) with h | h | h <;> rw [h] <;> decide +kernel
def exR1:List RowQ:=[⟨[1/2,1/2,0],6⟩,⟨[-1/2, -1/2,0], -6⟩]
def exR2:List RowQ:=[⟨[-1/6,1/6,0],1/2⟩,⟨[1/6, -1/6,0], -1/2⟩,⟨[-1/4,0,1/4],0⟩,⟨[1/4,0, -1/4],0⟩]
theorem ex_rows1:rowsO exB exO1 (3,0) (0,1,2) 10=exR1:=by
 unfold rowsO hgtQ
 rw [exO1_e,ro4]
 decide +kernel
theorem ex_rows2:rowsO exB exO2 (3,0) (0,1,2) 10=exR2:=by
 unfold rowsO eastQ northQ
 rw [exO2_e,rom,ro2,ro0]
 decide +kernel
theorem ex_obr:∀ o∈exB.obs,ObsR o:=by
 intro o ho
 simp only [exB,List.mem_cons,List.not_mem_nil,or_false] at ho
 rcases ho with rfl | rfl
 ·rw [exO1_e];exact ⟨by decide,by decide,by decide,by decide,by decide,by decide,by decide,by decide,by decide⟩
 ·rw [exO2_e];exact ⟨by decide,by decide,by decide,by decide,by decide,by decide,by decide,by decide,by decide⟩
theorem ex_br:BookR exB:=by
 refine ⟨by decide, ?_,by decide,ex_obr⟩
 intro x hx
 simp only [exB,List.mem_cons,List.not_mem_nil,or_false] at hx
 rcases hx with rfl | rfl
 ·exact ⟨by decide +kernel,fun q h=>by simp at h,by decide⟩
 ·exact ⟨by decide +kernel,fun q h=>by simp at h,by decide⟩
theorem ex_colz:colZ exB.col=0:=by decide +kernel
theorem ex_bz:bookZ exB=0:=by
 have h1:obsF exB 1=0:=by
  have h0:obsF exB 0=0:=rfl
  show (if obsF exB 0≠0 then obsF exB 0 else obZ exB (exB.obs.take 0) (exB.obs.getD 0 noObs))=0
  rw [if_neg (by rw [h0];decide)]
  show obZ exB [] exO1=0
  unfold obZ
  rw [if_neg (by rw [ex_ov1];decide),if_neg (by decide)]
 have h2:obsF exB 2=0:=by
  show (if obsF exB 1≠0 then obsF exB 1 else obZ exB (exB.obs.take 1) (exB.obs.getD 1 noObs))=0
  rw [if_neg (by rw [h1];decide)]
  show obZ exB [exO1] exO2=0
  unfold obZ
  rw [if_neg (by rw [ex_ov2];decide),if_neg (by decide)]
 unfold bookZ
 rw [if_neg (by rw [ex_fld];decide),if_neg (by rw [ex_colz];decide),if_neg (by decide)]
 exact h2
def exRO (i:Nat):List RowQ:=if i=0 then exR1 else exR2
theorem ex_fine1:Fine exB exFs exO1 (3,0) 0 (0,1,2) 10 :=
 ⟨ex_at1,⟨[],ex_loc⟩,rfl,ex_val,by decide +kernel,by unfold hgtQ;rw [exO1_e,ro4];decide +kernel,ex_w,by rw [exO1_e];decide +kernel,ex_sl,fun _ h=>absurd rfl h,by
  rw [ex_rows1]
  unfold RowR
  decide +kernel⟩
theorem ex_fine2:Fine exB exFs exO2 (3,0) 0 (0,1,2) 10 :=
 ⟨ex_at2,⟨[],ex_loc⟩,rfl,ex_val,by decide +kernel,by unfold hgtQ;rw [if_neg (by decide)];decide +kernel,ex_w,by rw [exO2_e];decide +kernel,ex_sl,fun _ _=>by
  rw [exO2_e,rom,ro2,ro0]
  decide +kernel,by
  rw [ex_rows2]
  unfold RowR
  decide +kernel⟩
theorem ex_rich:Rich exB exFs exRO:=by
 refine ⟨ex_good,ex_br,ex_bz,ex_terr,by decide,fun i o ho=>?_⟩
 rcases (by have h:=(List.getElem?_eq_some_iff.1 ho).1;have h2:exB.obs.length=2:=rfl;omega:i=0∨i=1) with rfl | rfl
 ·simp only [exB,List.getElem?_cons_zero,Option.some.injEq] at ho
  subst ho
  exact ⟨_,_,_,_,ex_fine1,ex_rows1.symm⟩
 ·simp only [exB,List.getElem?_cons_succ,List.getElem?_cons_zero,Option.some.injEq] at ho
  subst ho
  exact ⟨_,_,_,_,ex_fine2,ex_rows2.symm⟩

theorem ek (C:Mem)(f1 f2:Value)(l:List Rat)(b:Rat)(s:Str)(rs:List (List Value))(h1:Sl C 1 f1 (l.map encQ))(h2:Sl C 1 f2 rs)(hr:l.map encQ=rs)(hs:qtx b=s) :
  Gives cx.P 19 [.agg ⟨[f1,strV (qtx b)]⟩,.agg ⟨[f2,strV s]⟩] C (.bool true):=by
 have h:=sameRow_fn C f1 f2 l l b b h1 (by rw [hr];exact h2)
 rw [decide_eq_true rfl,decide_eq_true rfl,hs] at h
 rw [hs]
 exact h
theorem q12:qtx (1/2)=[49,47,50]:=by decide +kernel
theorem qm12:qtx (-1/2)=[45,49,47,50]:=by decide +kernel
theorem q16:qtx (1/6)=[49,47,54]:=by decide +kernel
theorem qm16:qtx (-1/6)=[45,49,47,54]:=by decide +kernel
theorem q14:qtx (1/4)=[49,47,52]:=by decide +kernel
theorem qm14:qtx (-1/4)=[45,49,47,52]:=by decide +kernel
theorem q6:qtx 6=[54]:=by decide +kernel
theorem qm6:qtx (-6)=[45,54]:=by decide +kernel
theorem ex_count (C:Mem)(hT:Tabs C)(bv:Value)(hB:BookIn C bv exB):Gives cx.P 8 [bv] C (.tuple #[.int .i64 3,.int .i64 0]) :=
 count_fn C bv exB 0 (ex_rich.bookz hT hB)
theorem ex_of0 (C:Mem)(hT:Tabs C)(bv:Value)(hB:BookIn C bv exB):Pur cx.P 12 [bv,.int .i64 0] C fun u D=>∃ v,u=.tuple #[v,.int .i64 0]/\RowsIn D v exR1:=by
 have h:=of_rows C hT bv exB exFs exRO hB ex_rich 0
 rw [if_neg (by decide),if_neg (by decide)] at h
 exact h
theorem ex_of1 (C:Mem)(hT:Tabs C)(bv:Value)(hB:BookIn C bv exB):Pur cx.P 12 [bv,.int .i64 1] C fun u D=>∃ v,u=.tuple #[v,.int .i64 0]/\RowsIn D v exR2:=by
 have h:=of_rows C hT bv exB exFs exRO hB ex_rich 1
 rw [if_neg (by decide),if_neg (by decide)] at h
 exact h
theorem known_fn (C:Mem)(hT:Tabs C):Gives cx.P 4 [] C (.bool true):=by
 refine Fn.it kr_ Tryz.func4 78 fun w0=>?_
 refine G.rp 1 fun R hR=>?_
 refine D.done [] trivial (hR _ _ _ rfl ?_)
 refine G.rg fun R hR=>?_
 refine D.aX (example_fn _ (hT.mono mup)) (fun v8 C8 hle8 hq8=>?_)
 obtain ⟨v1,v2,tv,cv,ov,rfl,g1,g2,g3,g4,g5⟩:=id hq8.ex
 obtain ⟨B1,d1,rfl,_⟩:=id g1
 obtain ⟨B2,d2,rfl,_⟩:=id g2
 obtain ⟨B3,d3,rfl,_⟩:=id g3
 obtain ⟨B4,d4,rfl,_⟩:=id g4
 obtain ⟨B5,d5,rfl,_⟩:=id g5
 refine D.aj (fun b1=>?_)
 refine D.ag (j:=0) ?_
 refine D.e1 1 hR ?_
 refine G.freeze 0 rfl (fun C3 hle3 hb3=>?_)
 refine G.rg fun R hR=>?_
 refine D.aa (bkT hb3 5) ?_
 refine D.af (ex_count _ (hT.mono mup) _ (hq8.mono mup)) ?_
 refine D.q3 5 1 2 3 hR ?_
 refine G.rg fun R hR=>?_
 refine D.aa (bkT hb3 5) ?_
 refine D.aX (ex_of0 _ (hT.mono mup) _ (hq8.mono mup)) (fun v16 C16 hle16 hq16=>?_)
 obtain ⟨rv1,rfl,vs1,hok1,hsv1⟩:=hq16
 refine D.q5 5 1 2 3 4 5 hR ?_
 refine G.rg fun R hR=>?_
 refine D.aa (bkT hb3 5) ?_
 refine D.aX (ex_of1 _ (hT.mono mup) _ (hq8.mono mup)) (fun v21 C21 hle21 hq21=>?_)
 obtain ⟨rv2,rfl,vs2,hok2,hsv2⟩:=hq21
 refine D.q6 5 2 3 4 5 6 7 hR ?_
 skip
 obtain ⟨E1,e1,rfl,_⟩:=id hsv1
 obtain ⟨E2,e2,rfl,_⟩:=id hsv2
 simp only [dO hok1.1,dO hok2.1] at hsv1 hsv2 ⊢
 refine G.rp 5 fun R hR=>?_
 refine D.aF rfl rfl rfl rfl rfl rfl rfl rfl ?_
 refine D.ps 3 ?_
 refine D.aF rfl rfl rfl rfl rfl rfl rfl rfl ?_
 refine D.ps 4 ?_
 refine D.aF rfl rfl rfl rfl rfl rfl rfl rfl ?_
 refine D.ps 3 ?_
 refine D.aF rfl rfl rfl rfl rfl rfl rfl rfl ?_
 refine D.ps 4 ?_
 refine D.aF rfl rfl rfl rfl rfl rfl rfl rfl ?_
 refine D.e3 4 6 47 hR ?_
 refine G.cd (fun h47=>?_) fun h47=>?_
 ·exact absurd h47 (by decide)
 ·obtain ⟨a0,a1,rfl⟩:∃ a b,vs1=[a,b]:=by
   have h:=hok1.1
   match vs1,h with
   | [a,b],_=>exact ⟨a,b,rfl⟩
  obtain ⟨c0,c1,c2,c3,rfl⟩:∃ a b c d,vs2=[a,b,c,d]:=by
   have h:=hok2.1
   match vs2,h with
   | [a,b,c,d],_=>exact ⟨a,b,c,d,rfl⟩
  have ha0:=hok1.2 0 a0 _ rfl rfl
  have ha1:=hok1.2 1 a1 _ rfl rfl
  have hc0:=hok2.2 0 c0 _ rfl rfl
  have hc3:=hok2.2 3 c3 _ rfl rfl
  refine G.rp 1 fun R hR=>?_
  refine D.al (hsv1.mono mup) rfl rfl rfl rfl rfl rfl rfl rfl rfl rfl om_ rfl fl_ (fun p49 hp49=>?_)
  refine D.aa hp49 ?_
  refine D.aQ [[strV [49,47,50]],[strV [49,47,50]],[strV [48]]] rfl rfl rfl rfl rfl rfl rfl rfl rfl rfl rfl rfl fl_ (fun b51 C51 hle51 hs51=>?_)
  refine D.ak [.slice (some ⟨b51,0,none⟩) 3 3,strV [54]] ?_
  refine D.ai (ek _ _ _ _ _ _ _ (ha0.mono mup) (hs51.mono mup) (by simp only [List.map,encQ,q12,qtx_zero]) q6) rfl rfl rfl rfl rfl rfl rfl fl_ ?_
  refine D.ps 2 ?_
  refine D.index rfl rfl rfl rfl rfl rfl rfl rfl rfl rfl (fun hg=>⟨hsv1.mono mup,by omega,rfl⟩) fl_ rfl (fun p56 hp56=>?_)
  refine D.aU rfl rfl rfl rfl rfl rfl hp56 rfl rfl rfl ?_
  refine D.aQ [[strV [45,49,47,50]],[strV [45,49,47,50]],[strV [48]]] rfl rfl rfl rfl rfl rfl rfl rfl rfl rfl rfl rfl fl_ (fun b58 C58 hle58 hs58=>?_)
  refine D.ak [.slice (some ⟨b58,0,none⟩) 3 3,strV [45,54]] ?_
  refine D.aC (fun _=>(ek _ _ _ _ _ _ _ (ha1.mono mup) (hs58.mono mup) (by simp only [List.map,encQ,qm12,qtx_zero]) qm6)) rfl rfl rfl rfl rfl rfl rfl rfl rfl ?_
  refine D.aq ?_
  refine D.ps 2 ?_
  refine D.index rfl rfl rfl rfl rfl rfl rfl rfl rfl rfl (fun hg=>⟨hsv2.mono mup,by omega,rfl⟩) fl_ rfl (fun p64 hp64=>?_)
  refine D.aU rfl rfl rfl rfl rfl rfl hp64 rfl rfl rfl ?_
  refine D.aQ [[strV [45,49,47,54]],[strV [49,47,54]],[strV [48]]] rfl rfl rfl rfl rfl rfl rfl rfl rfl rfl rfl rfl fl_ (fun b66 C66 hle66 hs66=>?_)
  refine D.ak [.slice (some ⟨b66,0,none⟩) 3 3,strV [49,47,50]] ?_
  refine D.aC (fun _=>(ek _ _ _ _ _ _ _ (hc0.mono mup) (hs66.mono mup) (by simp only [List.map,encQ,q16,qm16,qtx_zero]) q12)) rfl rfl rfl rfl rfl rfl rfl rfl rfl ?_
  refine D.aq ?_
  refine D.ps 2 ?_
  refine D.index rfl rfl rfl rfl rfl rfl rfl rfl rfl rfl (fun hg=>⟨hsv2.mono mup,by omega,rfl⟩) fl_ rfl (fun p72 hp72=>?_)
  refine D.aU rfl rfl rfl rfl rfl rfl hp72 rfl rfl rfl ?_
  refine D.aQ [[strV [49,47,52]],[strV [48]],[strV [45,49,47,52]]] rfl rfl rfl rfl rfl rfl rfl rfl rfl rfl rfl rfl fl_ (fun b74 C74 hle74 hs74=>?_)
  refine D.ak [.slice (some ⟨b74,0,none⟩) 3 3,strV [48]] ?_
  refine D.aC (fun _=>(ek _ _ _ _ _ _ _ (hc3.mono mup) (hs74.mono mup) (by simp only [List.map,encQ,q14,qm14,qtx_zero]) qtx_zero)) rfl rfl rfl rfl rfl rfl rfl rfl rfl ?_
  refine D.aq ?_
  refine D.q1 1 0 hR ?_
  refine G.rf ?_
  exact ⟨rfl,rfl⟩

def ptsZ (m:Nat)(u v:Int)(h:Bool):List Pt:=(shP m).map fun p=>(divS (p.1+u*1) (cU h*1),divS (p.2+v*1) (cU h*1))
theorem ptsK_Z (m:Nat)(a b:Int)(h:Bool):ptsK m a b h=ptsZ m (a.tmod 8) (b.tmod 8) h:=rfl
def goodB (pts:List Pt)(tris:List Tri):Bool :=
 pts.all (fun p=>decide (QP 1 p)) && (decide pts.Nodup && (tris.all (fun t=>decide (TriIn pts.length t)) && (tris.all (fun t=>decide (0<bB (pts.getD t.1 (0,0)) (pts.getD t.2.1 (0,0)) (pts.getD t.2.2 (0,0)))) && (decide (bC tris).Nodup && (wholeB pts tris && pts.all fun p=>decide (locL pts tris p≠[]))))))
theorem all0:∀ i<15,∀ j<15,∀ h:Bool,goodB (ptsZ 0 ((i:Nat)-7) ((j:Nat)-7) h) (shT 0)=true:=by decide +kernel

theorem qb_small (z:Int)(h:z.natAbs<100):QB 1 ((z:Int):Rat):=by
 refine ⟨?_, ?_⟩
 ·show z.natAbs<B9 ^ 1
  have:B9 ^ 1=1000000000:=by decide
  omega
 ·show 1<B9 ^ 1
  decide
theorem lastN_bd (z:Int):-5<lastN z/\lastN z<5:=by
 have:=tmod5 z
 unfold lastN
 split <;> omega
theorem dep_qb (n:Nat):QB 1 (divS ((n % 12:Nat):Int) 2):=divS_qb (by decide) om_ (by decide)

theorem all1:∀ i<15,∀ j<15,∀ h:Bool,goodB (ptsZ 1 ((i:Nat)-7) ((j:Nat)-7) h) (shT 1)=true:=by decide +kernel

theorem all2:∀ i<15,∀ j<15,∀ h:Bool,goodB (ptsZ 2 ((i:Nat)-7) ((j:Nat)-7) h) (shT 2)=true:=by decide +kernel

theorem all3:∀ i<15,∀ j<15,∀ h:Bool,goodB (ptsZ 3 ((i:Nat)-7) ((j:Nat)-7) h) (shT 3)=true:=by decide +kernel

theorem all4:∀ i<15,∀ j<15,∀ h:Bool,goodB (ptsZ 4 ((i:Nat)-7) ((j:Nat)-7) h) (shT 4)=true:=by decide +kernel

theorem all5:∀ i<15,∀ j<15,∀ h:Bool,goodB (ptsZ 5 ((i:Nat)-7) ((j:Nat)-7) h) (shT 5)=true:=by decide +kernel

theorem all6:∀ i<15,∀ j<15,∀ h:Bool,goodB (ptsZ 6 ((i:Nat)-7) ((j:Nat)-7) h) (shT 6)=true:=by decide +kernel

theorem all7:∀ i<15,∀ j<15,∀ h:Bool,goodB (ptsZ 7 ((i:Nat)-7) ((j:Nat)-7) h) (shT 7)=true:=by decide +kernel

theorem tmod8_nat (a:Int):∃ i:Nat,i<15/\a.tmod 8=(i:Int)-7:=by
 have h:=tmod8 a
 exact ⟨(a.tmod 8+7).toNat,by omega,by omega⟩
theorem shape_goodB (m:Nat)(hm:m<8)(a b:Int)(h:Bool):goodB (ptsK m a b h) (shT m)=true:=by
 obtain ⟨i,hi,hie⟩:=tmod8_nat a
 obtain ⟨j,hj,hje⟩:=tmod8_nat b
 rw [ptsK_Z,hie,hje]
 rcases (by omega:m=0∨m=1∨m=2∨m=3∨m=4∨m=5∨m=6∨m=7) with rfl | rfl | rfl | rfl | rfl | rfl | rfl | rfl
 ·exact all0 i hi j hj h
 ·exact all1 i hi j hj h
 ·exact all2 i hi j hj h
 ·exact all3 i hi j hj h
 ·exact all4 i hi j hj h
 ·exact all5 i hi j hj h
 ·exact all6 i hi j hj h
 ·exact all7 i hi j hj h
theorem shT_pos:∀ m:Nat,m<8->shT m≠[]/\(shT m).length<=800:=by decide
theorem good_of {pts:List Pt}{tris:List Tri}(h:goodB pts tris=true)(h0:tris≠[])(h1:tris.length<=800)(h2:pts.length<=400):Good pts tris/\∀ p∈pts,locL pts tris p≠[]:=by
 unfold goodB at h
 simp only [Bool.and_eq_true,List.all_eq_true,decide_eq_true_eq] at h
 obtain ⟨g1,g2,g3,g4,g5,g6,g7⟩:=h
 exact ⟨⟨⟨g1,g2,g3,g4,g5,h1,h2⟩,h0,g6⟩,g7⟩
theorem shape_good (m:Nat)(hm:m<8)(a b:Int)(h:Bool):Good (ptsK m a b h) (shT m)/\∀ p∈ptsK m a b h,locL (ptsK m a b h) (shT m) p≠[]:=by
 have hp:=ptsK_len m a b h
 obtain ⟨h0,h1⟩:=shT_pos m hm
 exact good_of (shape_goodB m hm a b h) h0 h1 om_
theorem ptAt_ok (S:Sht)(s:Sgt)(hs:SgtR s):QP 1 (ptAt S s)/\locL (ptsK (S.kd % 8) S.a S.b S.h) (shT (S.kd % 8)) (ptAt S s)≠[]:=by
 obtain ⟨hG,hL⟩:=shape_good (S.kd % 8) (Nat.mod_lt _ (by decide)) S.a S.b S.h
 have hpos:0<(ptsK (S.kd % 8) S.a S.b S.h).length:=by rw [ptsK,List.length_map];exact shP_pos _
 unfold ptAt
 split
 ·rename_i h
  exact ⟨place_qp (by decide) (by decide) hs.px hs.py,h⟩
 ·have hil:s.depth % (ptsK (S.kd % 8) S.a S.b S.h).length<(ptsK (S.kd % 8) S.a S.b S.h).length:=Nat.mod_lt _ hpos
  rw [List.getD_eq_getElem?_getD,List.getElem?_eq_getElem hil,Option.getD_some]
  exact ⟨hG.ok.q _ (List.getElem_mem _),hL _ (List.getElem_mem _)⟩
theorem eC {q:Rat}(h:QB 1 q):(qtx q).length<=9223372036854775807:=qtx_short (fs:=[q]) (k:=1) (by decide) (by intro y hy;rw [List.mem_singleton] at hy;rw [hy];exact h) _ (List.mem_singleton.2 rfl)
theorem obs_r (S:Sht)(s:Sgt)(i:Nat)(hs:SgtR s):ObsR (obsK S s i):=by
 have hq:=(ptAt_ok S s hs).1
 have hx:=eC hq.1
 have hy:=eC hq.2
 have hd:=eC (dep_qb s.depth)
 have h0:=tmod5 s.n0
 have h1:=tmod5 s.n1
 have h2:=lastN_bd s.n2
 have l0:=eC (qb_small (s.n0.tmod 5) om_)
 have l1:=eC (qb_small (s.n1.tmod 5) om_)
 have l2:=eC (qb_small (lastN s.n2) om_)
 unfold obsK
 split
 ·exact ⟨by simp,hx,hy,by simp,by simp [labU],by simp,by simp,by simp,by simp⟩
 ·split
  ·exact ⟨by simp,hx,hy,hd,by simp [labU],by simp [labU],by simp,by simp,by simp⟩
  ·exact ⟨by simp,hx,hy,by simp,by simp [labU],by simp [labU],l0,l1,l2⟩
theorem bookK_obs {S:Sht}{H:Hts}{l:List Sgt}{i:Nat}{o:Obs}(h:(a7 S H l).obs[i]?=some o):i<6/\∃ s,l[i]?=some s/\o=obsK S s i:=by
 have h1:=(List.getElem?_eq_some_iff.1 h).1
 have h2:i<(obsL S l).length:=h1
 rw [obsL_len] at h2
 have h3:=obsL_at S (List.getElem?_eq_getElem (show i<l.length by omega)) (show i<6 by omega)
 have h4:(obsL S l)[i]?=some o:=h
 rw [h3] at h4
 exact ⟨by omega,_,List.getElem?_eq_getElem om_,(Option.some.inj h4).symm⟩
theorem col_r:∀ x∈colK,LayR x:=by
 intro x hx
 simp only [colK,List.mem_cons,List.not_mem_nil,or_false] at hx
 rcases hx with rfl | rfl | rfl
 ·exact ⟨by decide +kernel,fun q h=>by simp at h,by decide⟩
 ·exact ⟨by decide +kernel,fun q h=>by simp at h;subst h;decide +kernel,by decide⟩
 ·exact ⟨by decide +kernel,fun q h=>by simp at h,by decide⟩
theorem bookK_r (S:Sht)(H:Hts)(l:List Sgt)(hs:∀ s∈l,SgtR s):BookR (a7 S H l):=by
 refine ⟨?_,col_r,(by show colK.length<=1000000;decide), ?_⟩
 ·intro s h
  obtain ⟨q,hq,rfl⟩:=List.mem_map.1 h
  exact eC (fsK_qb _ H q hq)
 ·intro o ho
  obtain ⟨i,hi⟩:=List.mem_iff_getElem?.1 ho
  obtain ⟨_,s,hsl,rfl⟩:=bookK_obs hi
  exact obs_r S s i (hs s (List.mem_of_getElem? hsl))
theorem bookK_bp (S:Sht)(H:Hts)(l:List Sgt):0<bp (a7 S H l)/\bp (a7 S H l)<=6:=by
 refine ⟨?_,ptsK_len _ _ _ _⟩
 show 0<(ptsK (S.kd % 8) S.a S.b S.h).length
 rw [ptsK,List.length_map]
 exact shP_pos _

def PlanIn (C:Mem)(pv:Value)(S:Sht)(H:Hts)(l:List Sgt):Prop:=∃ A c,pv=.agg ⟨planC S H (.slice A l.length c)⟩/\Sl C 9 (.slice A l.length c) (l.map sgtC)
structure PlanR (S:Sht)(H:Hts)(l:List Sgt):Prop where
 kd:S.kd<256
 h:HtsR H
 s:∀ s∈l,SgtR s
def varOut (s p:Nat)(a b:Int):Prop:=a<0∨(s:Int)<=a∨b<0∨(p:Int)<=b
instance (s p:Nat) (a b:Int):Decidable (varOut s p a b):=by unfold varOut;infer_instance
def plaOut (n:Nat)(x:Int):Prop:=x<0∨(n:Int)<=x
instance (n:Nat) (x:Int):Decidable (plaOut n x):=by unfold plaOut;infer_instance
open Go Go.Jog Go.ChangeShapes Go.WideShapes Go.ChangeAt Go.RowKit
set_option maxRecDepth 100000

theorem own:ownKnob Tryz.prog.godebug=none:=by kernel_rfl
section
variable {H:Type} {enc:TypeId × Value->H} {W:World} {spare:Nat->Bool} {held:Bool}
theorem u8_of {n:Nat}{c:Value}{y:DataW H × List MemPlace}(h:DataW.trod enc Tryz.prog W 0 spare held n 5 [c]=some y):∃ b:UInt8,c=.int .u8 b.toNat:=by
 obtain ⟨m,h1,_,h3⟩:=DataW.trod_int Tryz.underlying5 h
 simp only [List.cons.injEq,and_true] at h1
 subst h1
 have hb:0<=m/\m<256:=by
  simp [Lit.wf,IntKind.min,IntKind.max,IntKind.signed,IntKind.bits] at h3
  omega
 refine ⟨UInt8.ofNat m.toNat, ?_⟩
 congr 1
 simp only [UInt8.toNat_ofNat']
 omega
theorem u8n_of {n:Nat}{c:Value}{y:DataW H × List MemPlace}(h:DataW.trod enc Tryz.prog W 0 spare held n 5 [c]=some y):∃ m:Nat,c=.int .u8 m/\m<256:=by
 obtain ⟨b,rfl⟩:=u8_of h
 exact ⟨b.toNat,rfl,b.toNat_lt⟩
theorem i8_of {n:Nat}{c:Value}{y:DataW H × List MemPlace}(h:DataW.trod enc Tryz.prog W 0 spare held n 22 [c]=some y):∃ m:Int,c=.int .i8 m/\-128<=m/\m<=127:=by
 obtain ⟨m,h1,_,h3⟩:=DataW.trod_int Tryz.underlying22 h
 simp only [List.cons.injEq,and_true] at h1
 refine ⟨m,h1, ?_⟩
 simp [Lit.wf,IntKind.min,IntKind.max,IntKind.signed,IntKind.bits] at h3
 omega
theorem bool_of {n:Nat}{c:Value}{y:DataW H × List MemPlace}(h:DataW.trod enc Tryz.prog W 0 spare held n 4 [c]=some y):∃ b:Bool,c=.bool b:=by
 obtain ⟨b,h1,_⟩:=DataW.trod_bool Tryz.underlying4 h
 simp only [List.cons.injEq,and_true] at h1
 exact ⟨b,h1⟩
theorem arr_of {t e:TypeId}{k n:Nat}{cs:List Value}{y:DataW H × List MemPlace}(ht:Tryz.prog.underlying t=some (.array k e))(he:Tryz.prog.cellsOf e=1)(h:DataW.trod enc Tryz.prog W 0 spare held n t cs=some y) :
  ∃ m,∀ i,i<k->∃ z,DataW.trod enc Tryz.prog W 0 spare held m e ((cs.drop i).take 1)=some z:=by
 obtain ⟨xs,m,_,_,_,hx,hf⟩:=DataW.trod_array ht h
 refine ⟨m,fun i hi=>?_⟩
 have h1:=hf i hi
 rw [he,Nat.mul_one] at h1
 rw [h1,List.getElem?_eq_getElem om_]
 exact ⟨_,rfl⟩
theorem cells_u8:Tryz.prog.cellsOf 5=1:=by kernel_rfl
theorem cells_i8:Tryz.prog.cellsOf 22=1:=by kernel_rfl
theorem cells_bool:Tryz.prog.cellsOf 4=1:=by kernel_rfl
theorem cells_a2i:Tryz.prog.cellsOf 23=2:=by kernel_rfl
theorem cells_a2u:Tryz.prog.cellsOf 85=2:=by kernel_rfl
theorem cells_a3:Tryz.prog.cellsOf 86=3:=by kernel_rfl
theorem cells_a6:Tryz.prog.cellsOf 26=6:=by kernel_rfl
theorem sheet_of {n:Nat}{c0 c1 c2 c3:Value}{y:DataW H × List MemPlace}(h:DataW.trod enc Tryz.prog W 0 spare held n 25 [c0,c1,c2,c3]=some y):∃ S:Sht,[c0,c1,c2,c3]=([.int .u8 S.kd,.int .i8 S.a,.int .i8 S.b,.bool S.h]:List Value)/\S.kd<256:=by
 obtain ⟨y0,y1,y2,n',_,hl,h0,h1,h2⟩:=Go.Deep.trod_struct3 Tryz.underlying25 h
 simp only [cells_u8,cells_a2i,cells_bool] at h0 h1 h2
 obtain ⟨kd,rfl,hk⟩:=u8n_of h0
 obtain ⟨m,ha⟩:=arr_of Tryz.underlying23 cells_i8 h1
 obtain ⟨z0,e0⟩:=ha 0 (by decide)
 obtain ⟨z1,e1⟩:=ha 1 (by decide)
 obtain ⟨a,rfl,_⟩:=i8_of e0
 obtain ⟨b,rfl,_⟩:=i8_of e1
 obtain ⟨hh,rfl⟩:=bool_of h2
 exact ⟨⟨kd,a,b,hh⟩,rfl,hk⟩
theorem heights_of {n:Nat}{c0 c1 c2 c3 c4 c5 c6:Value}{y:DataW H × List MemPlace}(h:DataW.trod enc Tryz.prog W 0 spare held n 28 [c0,c1,c2,c3,c4,c5,c6]=some y):∃ G:Hts,[c0,c1,c2,c3,c4,c5,c6]=htsC G/\HtsR G:=by
 obtain ⟨y0,y1,n',_,hl,h0,h1⟩:=Go.ChangeShapes.trod_struct2 Tryz.underlying28 h
 simp only [cells_a6,cells_bool] at h0 h1
 obtain ⟨m,ha⟩:=arr_of Tryz.underlying26 cells_i8 h0
 obtain ⟨z0,e0⟩:=ha 0 (by decide)
 obtain ⟨z1,e1⟩:=ha 1 (by decide)
 obtain ⟨z2,e2⟩:=ha 2 (by decide)
 obtain ⟨z3,e3⟩:=ha 3 (by decide)
 obtain ⟨z4,e4⟩:=ha 4 (by decide)
 obtain ⟨z5,e5⟩:=ha 5 (by decide)
 obtain ⟨x0,rfl,g0⟩:=i8_of e0
 obtain ⟨x1,rfl,g1⟩:=i8_of e1
 obtain ⟨x2,rfl,g2⟩:=i8_of e2
 obtain ⟨x3,rfl,g3⟩:=i8_of e3
 obtain ⟨x4,rfl,g4⟩:=i8_of e4
 obtain ⟨x5,rfl,g5⟩:=i8_of e5
 obtain ⟨hh,rfl⟩:=bool_of h1
 refine ⟨⟨x0,x1,x2,x3,x4,x5,hh⟩,rfl, ?_⟩
 intro z hz
 simp only [htsL,List.mem_cons,List.not_mem_nil,or_false] at hz
 rcases hz with rfl | rfl | rfl | rfl | rfl | rfl <;> assumption
theorem trod_struct5 {P:Program}{t:TypeId}{f0 f1 f2 f3 f4:Field}{fuel:Nat}{cs:List Value}{x:DataW H × List MemPlace}(ht:P.underlying t=some (.struct #[f0,f1,f2,f3,f4]))(h:DataW.trod enc P W 0 spare held fuel t cs=some x) :
  ∃ y0 y1 y2 y3 y4 n,DataW.trod enc P W 0 spare held n f0.type ((cs.drop f0.offset).take (P.cellsOf f0.type))=some y0/\DataW.trod enc P W 0 spare held n f1.type ((cs.drop f1.offset).take (P.cellsOf f1.type))=some y1/\DataW.trod enc P W 0 spare held n f2.type ((cs.drop f2.offset).take (P.cellsOf f2.type))=some y2 /\
   DataW.trod enc P W 0 spare held n f3.type ((cs.drop f3.offset).take (P.cellsOf f3.type))=some y3/\DataW.trod enc P W 0 spare held n f4.type ((cs.drop f4.offset).take (P.cellsOf f4.type))=some y4:=by
 obtain ⟨xs,n,_,rfl,hl,hlen,hf⟩:=DataW.trod_struct ht h
 match xs,hlen with
 | [y0,y1,y2,y3,y4],_=>exact ⟨y0,y1,y2,y3,y4,n,by simpa using hf 0 f0 rfl,by simpa using hf 1 f1 rfl,by simpa using hf 2 f2 rfl,by simpa using hf 3 f3 rfl,by simpa using hf 4 f4 rfl⟩
theorem sight_of {n:Nat}{cs:List Value}{y:DataW H × List MemPlace}(hl:cs.length=9)(h:DataW.trod enc Tryz.prog W 0 spare held n 88 cs=some y):∃ s:{s:Sgt // SgtR s},cs=sgtC s.1:=by
 obtain ⟨y0,y1,y2,y3,y4,n',h0,h1,h2,h3,h4⟩:=trod_struct5 Tryz.underlying88 h
 match cs,hl with
 | [c0,c1,c2,c3,c4,c5,c6,c7,c8],_ =>
   simp only [cells_u8,cells_a2i,cells_a2u,cells_a3] at h0 h1 h2 h3 h4
   obtain ⟨kd,rfl,hk⟩:=u8n_of h0
   obtain ⟨m1,a1⟩:=arr_of Tryz.underlying23 cells_i8 h1
   obtain ⟨w0,e0⟩:=a1 0 (by decide)
   obtain ⟨w1,e1⟩:=a1 1 (by decide)
   obtain ⟨px,rfl,hpx⟩:=i8_of e0
   obtain ⟨py,rfl,hpy⟩:=i8_of e1
   obtain ⟨m2,a2⟩:=arr_of Tryz.underlying85 cells_u8 h2
   obtain ⟨w2,e2⟩:=a2 0 (by decide)
   obtain ⟨w3,e3⟩:=a2 1 (by decide)
   obtain ⟨u0,rfl,hu0⟩:=u8n_of e2
   obtain ⟨u1,rfl,hu1⟩:=u8n_of e3
   obtain ⟨d,rfl,hd⟩:=u8n_of h3
   obtain ⟨m4,a4⟩:=arr_of Tryz.underlying86 cells_i8 h4
   obtain ⟨w4,e4⟩:=a4 0 (by decide)
   obtain ⟨w5,e5⟩:=a4 1 (by decide)
   obtain ⟨w6,e6⟩:=a4 2 (by decide)
   obtain ⟨n0,rfl,hn0⟩:=i8_of e4
   obtain ⟨n1,rfl,hn1⟩:=i8_of e5
   obtain ⟨n2,rfl,hn2⟩:=i8_of e6
   exact ⟨⟨⟨kd,px,py,u0,u1,d,n0,n1,n2⟩,⟨hk,hpx,hpy,hu0,hu1,hd,hn0,hn1,hn2⟩⟩,rfl⟩
theorem sights_of {fuel:Nat}{v:Value}{x:DataW H × List MemPlace}(h:DataW.trod enc Tryz.prog W 0 spare held fuel 29 [v]=some x):∃ l:List Sgt,Sl (memOf W) 9 v (l.map sgtC)/\∀ s∈l,SgtR s:=by
 obtain ⟨l,hl⟩:=sl_of_arg (fun s:{s:Sgt // SgtR s}=>sgtC s.1) Tryz.underlying29 kr_ (by decide) (fun n cs y hl hy=>sight_of hl hy) h
 refine ⟨l.map (·.1),by rw [List.map_map];exact hl,fun s hs=>?_⟩
 obtain ⟨z,_,rfl⟩:=List.mem_map.1 hs
 exact z.2
theorem plan_of {n:Nat}{cs:List Value}{y:DataW H × List MemPlace}(h:DataW.trod enc Tryz.prog W 0 spare held n 31 cs=some y):∃ S G l,PlanIn (memOf W) (.agg ⟨cs⟩) S G l/\PlanR S G l:=by
 obtain ⟨y0,y1,y2,n',_,hl,h0,h1,h2⟩:=Go.Deep.trod_struct3 Tryz.underlying31 h
 have hc:Tryz.prog.cellsOf 31=12:=by kernel_rfl
 have h4:Tryz.prog.cellsOf 25=4:=by kernel_rfl
 have h7:Tryz.prog.cellsOf 28=7:=by kernel_rfl
 have hs:Tryz.prog.cellsOf 29=1:=by kernel_rfl
 rw [hc] at hl
 match cs,hl with
 | [c0,c1,c2,c3,c4,c5,c6,c7,c8,c9,c10,c11],_ =>
  simp only [h4,h7,hs] at h0 h1 h2
  obtain ⟨S,e0,hk⟩:=sheet_of h0
  obtain ⟨G,e1,hG⟩:=heights_of h1
  obtain ⟨l,hsl,hR⟩:=sights_of h2
  obtain ⟨A,c,rfl,_⟩:=id hsl
  simp only [List.cons.injEq,and_true] at e0
  obtain ⟨rfl,rfl,rfl,rfl⟩:=e0
  simp only [htsC,List.cons.injEq,and_true] at e1
  obtain ⟨rfl,rfl,rfl,rfl,rfl,rfl,rfl⟩:=e1
  simp only [List.length_map] at hsl ⊢
  exact ⟨S,G,l,⟨A,c,rfl,hsl⟩,hk,hG,hR⟩
end

def layCells (cs:Array Value):Obj->Obj
 | .cells _ t frozen=>.cells cs t frozen
 | o=>o
def db32Cells:Array Value:=(Lib.deBruijn32tab.map fun z:Nat=>Value.int .u8 (z:Int)).toArray
def db64Cells:Array Value:=(Lib.deBruijn64tab.map fun z:Nat=>Value.int .u8 (z:Int)).toArray
def pow10Cells:Array Value:=(Lib.pow10Tab.map fun z=>Value.int .u64 z).toArray
def rangeText:ByteArray:=⟨#[118,97,108,117,101,32,111,117,116,32,111,102,32,114,97,110,103,101]⟩
def syntaxText:ByteArray:=⟨#[105,110,118,97,108,105,100,32,115,121,110,116,97,120]⟩
noncomputable def low:Nat:=(World.holding Tryz.prog default ⟨#[],#[],[]⟩).heap.size
noncomputable def laidWorld (os:Os):World :=
 let w0:=World.holding Tryz.prog os ⟨#[.cells #[.string rangeText] 310,.cells #[.string syntaxText] 310],#[],[]⟩
 { w0 with heap:=((((w0.heap.modify 4 (layCells db32Cells)).modify 5 (layCells db64Cells)).modify 3 (layCells pow10Cells)).modify 2 (layCells #[.iface 308 (.pointer (some ⟨low,0,none⟩))])).modify 1 (layCells #[.iface 308 (.pointer (some ⟨low+1,0,none⟩))]) }
theorem tabs_of {W : World} (h : laidMet Tryz.prog [("math/bits.deBruijn32tab", Rows.laid_math_bits_deBruijn32tab), ("math/bits.deBruijn64tab", Rows.laid_math_bits_deBruijn64tab), ("internal/strconv.uint64pow10", Rows.laid_internal_strconv_uint64pow10), ("strconv.ErrRange", Rows.laid_strconv_ErrRange), ("strconv.ErrSyntax", Rows.laid_strconv_ErrSyntax)] W) : Tabs (memOf W) := by
 have h2:=h.tail.tail
 have e2:(Rows.laid_internal_strconv_uint64pow10:DataW Unit)=Lib.tabData .u64 Lib.pow10Tab:=by rfl
 rw [e2] at h2
 have t2:=Lib.tabIs_of_head (g:=3) (t:=305) (e:=238) (n:=20) kr_ kr_ Tryz.underlying305 Tryz.underlying238 kr_ kr_ h2
 exact ⟨VarC.ofWorld t2⟩
theorem laidOut':laidOutB Tryz.prog=true:=by kernel_rfl
section
variable {H:Type} {enc:TypeId × Value->H} {W:World} {spare:Nat->Bool} {held:Bool}
end
section
variable {H:Type} {enc:TypeId × Value->H} {W:World} {spare:Nat->Bool} {held:Bool}
theorem int_of {n:Nat}{c:Value}{y:DataW H × List MemPlace}(h:DataW.trod enc Tryz.prog W 0 spare held n 3 [c]=some y):∃ m:Int,c=.int .i64 m:=by
 obtain ⟨m,h1,_⟩:=DataW.trod_int Tryz.underlying3 h
 simp only [List.cons.injEq,and_true] at h1
 exact ⟨m,h1⟩
end
end Go.Proofs.YtllimhhofkcgpaaGreatDoor
