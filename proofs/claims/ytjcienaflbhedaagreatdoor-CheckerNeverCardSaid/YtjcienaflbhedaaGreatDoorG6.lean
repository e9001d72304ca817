/- Laws that the proofs of this seat share, part 6. -/
import Derived.Test.YtjcienaflbhedaaGreatDoorG5
import Derived.Test.YtjcienaflbhedaaGreatDoorShelf
import Derived.Test.YtjcienaflbhedaaGreatDoorCards
import Derived.Test.YtjcienaflbhedaaGreatDoorTie
import Derived.Stop.LaidErr
import Derived.Lib.LaidTab
import Derived.Carry
import Derived.Deep.Strs
namespace Go.Proofs.YtjcienaflbhedaaGreatDoor
open Go Go.Jog
set_option maxRecDepth 100000

end Go.Proofs.YtjcienaflbhedaaGreatDoor
namespace Go.Proofs.YtjcienaflbhedaaGreatDoor
open Go Go.Jog
set_option maxRecDepth 100000

def encI (x : Int) : List Value := [.int .i64 x]
end Go.Proofs.YtjcienaflbhedaaGreatDoor
namespace Go.Proofs.YtjcienaflbhedaaGreatDoor
open Go Go.Jog
set_option maxRecDepth 100000

structure Env1 (C : Mem) (a : Arc3) (d : List Int) (b8 b9 : Nat) : Prop where
  arc : C b8 = some (.cells ⟨Arc3.enc a⟩ 132 (0, 0))
  dist : ∃ dv, C b9 = some (.cells ⟨[dv]⟩ 32 (0, 0)) ∧ Sl C 1 dv (d.map encI)
theorem Env1.mono {C D : Mem} {a : Arc3} {d : List Int} {b8 b9 : Nat} (h : Env1 C a d b8 b9) (hl : C.le D) : Env1 D a d b8 b9 :=
  ⟨Mem.get h.arc hl, let ⟨dv, h1, h2⟩ := h.dist; ⟨dv, Mem.get h1 hl, h2.mono hl⟩⟩

end Go.Proofs.YtjcienaflbhedaaGreatDoor
namespace Go.Proofs.YtjcienaflbhedaaGreatDoor
open Go Go.Jog
set_option maxRecDepth 100000

/-- Arcs come in the order of their numbers. -/
def Ix (A : List Arc3) : Prop := A.Pairwise fun a b => a.i < b.i
theorem Ix.inj {A : List Arc3} (h : Ix A) : ∀ a ∈ A, ∀ b ∈ A, a.i = b.i → a = b := by
  induction A with
  | nil => intro a ha; cases ha
  | cons x A ih =>
    obtain ⟨h1, h2⟩ := List.pairwise_cons.1 h
    intro a ha b hb e
    rcases List.mem_cons.1 ha with e1 | ha1
    · rcases List.mem_cons.1 hb with e2 | hb1
      · rw [e1, e2]
      · have := h1 b hb1; rw [e1] at e; omega
    · rcases List.mem_cons.1 hb with e2 | hb1
      · have := h1 a ha1; rw [e2] at e; omega
      · exact ih h2 a ha1 b hb1 e
theorem Ix.le {A : List Arc3} (h : Ix A) {k : Nat} {a b : Arc3} (ha : A[k]? = some a) (hb : b ∈ A) (hn : b ∉ A.take k) : a.i ≤ b.i := by
  obtain ⟨j, hj⟩ := List.getElem?_of_mem hb
  have hkj : k ≤ j := Nat.le_of_not_lt (fun hlt => hn (List.mem_of_getElem? (i := j) (by rw [List.getElem?_take, if_pos hlt]; exact hj)))
  rcases Nat.lt_or_ge k j with h1 | h1
  · obtain ⟨a1, a2⟩ := List.getElem?_eq_some_iff.1 ha
    obtain ⟨b1, b2⟩ := List.getElem?_eq_some_iff.1 hj
    have := List.pairwise_iff_getElem.1 h k j a1 b1 h1
    rw [a2, b2] at this
    omega
  · have : k = j := by omega
    subst this
    rw [ha] at hj
    cases hj
    exact Nat.le_refl _
theorem Ix.nexts {A : List Arc3} (h : Ix A) (i : Nat) : Ix (nexts A i) := List.Pairwise.filter _ h
def LInv (A T : List Arc3) (least : Nat) : Prop :=
  (∀ a ∈ T, ∀ j, Walk A j a.up a.lo → 0 < least ∧ least ≤ j + 1) ∧ (least ≠ 0 → ∃ a ∈ A, ∃ j, Walk A j a.up a.lo ∧ j + 1 = least)
theorem LInv.start {A : List Arc3} : LInv A [] 0 := ⟨fun a ha => (by cases ha), fun h => absurd rfl h⟩
theorem LInv.put {A T : List Arc3} {least n : Nat} {a : Arc3} {d : List Int} (h : LInv A T least) (ha : a ∈ A) (hd : IsDist A a.lo n d) (hn : a.up < n) (hc : 0 ≤ dAt d a.up ∧ (least = 0 ∨ dAt d a.up + 1 < least)) :
    LInv A (T ++ [a]) ((dAt d a.up).toNat + 1) := by
  rcases hd.2 a.up hn with ⟨e, _⟩ | ⟨k, e, hw, hm⟩
  · omega
  · have ek : (dAt d a.up).toNat = k := by omega
    rw [ek]
    refine ⟨fun b hb j hj => ⟨by omega, ?_⟩, fun _ => ⟨a, ha, k, hw, rfl⟩⟩
    rcases List.mem_append.1 hb with hb | hb
    · have := h.1 b hb j hj; omega
    · rw [List.mem_singleton.1 hb] at hj
      have := hm j hj; omega
theorem LInv.keep {A T : List Arc3} {least n : Nat} {a : Arc3} {d : List Int} (h : LInv A T least) (hd : IsDist A a.lo n d) (hn : a.up < n) (hc : ¬ (0 ≤ dAt d a.up ∧ (least = 0 ∨ dAt d a.up + 1 < least))) : LInv A (T ++ [a]) least := by
  refine ⟨fun b hb j hj => ?_, h.2⟩
  rcases List.mem_append.1 hb with hb | hb
  · exact h.1 b hb j hj
  · rw [List.mem_singleton.1 hb] at hj
    rcases hd.2 a.up hn with ⟨_, hno⟩ | ⟨k, e, hw, hm⟩
    · exact absurd hj (hno _)
    · have := hm j hj; omega
theorem LInv.min {A : List Arc3} {least : Nat} (h : LInv A A least) : ∀ k w, 0 < k → Walk A k w w → 0 < least ∧ least ≤ k := fun k w hk hw => by
  obtain ⟨q, rfl⟩ : ∃ q, k = q + 1 := ⟨k - 1, by omega⟩
  obtain ⟨a, ha, hlo, hw⟩ := Walk.succ.1 hw
  subst hlo
  exact h.1 a ha q hw

end Go.Proofs.YtjcienaflbhedaaGreatDoor
namespace Go.Proofs.YtjcienaflbhedaaGreatDoor
open Go Go.Jog
set_option maxRecDepth 100000

structure GOk (N : List Str) (A : List Arc3) : Prop where
  below : Below N.length A
  ix : Ix A
  arcs : A.length ≤ 100000
  names : N.length ≤ 200000
  nums : ∀ a ∈ A, a.i ≤ 1000000
end Go.Proofs.YtjcienaflbhedaaGreatDoor
namespace Go.Proofs.YtjcienaflbhedaaGreatDoor
open Go Go.Jog
set_option maxRecDepth 100000

end Go.Proofs.YtjcienaflbhedaaGreatDoor
namespace Go.Proofs.YtjcienaflbhedaaGreatDoor
open Go Go.Jog
set_option maxRecDepth 100000

end Go.Proofs.YtjcienaflbhedaaGreatDoor
namespace Go.Proofs.YtjcienaflbhedaaGreatDoor
open Go Go.Jog
set_option maxRecDepth 100000

theorem hAt_set {l : List Nat} {u v x : Nat} (h : u < l.length) : hAt (l.set u x) v = if v = u then x else hAt l v := by
  unfold hAt
  simp only [List.getD_eq_getElem?_getD, List.getElem?_set]
  by_cases e : u = v
  · subst e; simp [h]
  · rw [if_neg e, if_neg (Ne.symm e)]
end Go.Proofs.YtjcienaflbhedaaGreatDoor
namespace Go.Proofs.YtjcienaflbhedaaGreatDoor
open Go Go.Jog
set_option maxRecDepth 100000

def upC (T : List Arc3) (u : Nat) : Nat := T.countP fun a => decide (a.up = u)
theorem upC_snoc {T : List Arc3} {a : Arc3} {u : Nat} : upC (T ++ [a]) u = upC T u + (if a.up = u then 1 else 0) := by
  unfold upC
  rw [List.countP_append, List.countP_cons, List.countP_nil, Nat.zero_add]
  simp
structure Inner (A : List Arc3) (n : Nat) (dn l2 : List Nat) (T : List Arc3) (cs l3 : List Nat) : Prop where
  cl : cs.length = n
  ct : ∀ u, u < n → hAt cs u + upC T u = cnt A dn u
  nd : l3.Nodup
  mem : ∀ u, u ∈ l3 ↔ u ∈ l2 ∨ (u < n ∧ hAt cs u = 0 ∧ 0 < cnt A dn u)
theorem Inner.start {A : List Arc3} {n : Nat} {dn l2 cs : List Nat} (hc : cs.length = n) (h : ∀ u, u < n → hAt cs u = cnt A dn u) (hn : l2.Nodup) : Inner A n dn l2 [] cs l2 :=
  ⟨hc, fun u hu => by rw [h u hu]; simp [upC], hn, fun u => ⟨.inl, fun h2 => h2.elim id (fun ⟨h3, h4, h5⟩ => by rw [h u h3] at h4; omega)⟩⟩
theorem Inner.pos {A : List Arc3} {n i k : Nat} {dn l2 cs l3 : List Nat} {a : Arc3} (h : Inner A n dn l2 ((nexts A i).take k) cs l3) (ha : (nexts A i)[k]? = some a) (hi : i ∉ dn) (hn : a.up < n) : 1 ≤ hAt cs a.up := by
  have h1 := h.ct a.up hn
  have h2 := cnt_snoc (A := A) (u := a.up) hi
  have h3 : upC ((nexts A i).take (k + 1)) a.up ≤ upC (nexts A i) a.up := (List.take_sublist _ _).countP_le
  rw [List.take_add_one, ha] at h3
  have h4 := upC_snoc (T := (nexts A i).take k) (a := a) (u := a.up)
  rw [if_pos rfl] at h4
  have h5 : upC ((nexts A i).take k ++ (some a).toList) a.up = upC ((nexts A i).take k) a.up + 1 := h4
  rw [h5] at h3
  have h6 : (nexts A i).countP (fun b => decide (b.up = a.up)) = upC (nexts A i) a.up := rfl
  omega
theorem Inner.step {A : List Arc3} {n : Nat} {dn l2 cs l3 l4 : List Nat} {T : List Arc3} {a : Arc3} (h : Inner A n dn l2 T cs l3) (hn : a.up < n) (hp : 1 ≤ hAt cs a.up) (hz : ∀ u ∈ l2, cnt A dn u = 0)
    (hl : (hAt cs a.up ≠ 1 ∧ l4 = l3) ∨ (hAt cs a.up = 1 ∧ l4.Perm (a.up :: l3))) : Inner A n dn l2 (T ++ [a]) (cs.set a.up (hAt cs a.up - 1)) l4 := by
  have hcl := h.cl
  have hset : ∀ u, hAt (cs.set a.up (hAt cs a.up - 1)) u = if u = a.up then hAt cs a.up - 1 else hAt cs u := fun u => hAt_set (by omega)
  have hca := h.ct a.up hn
  have hnl : a.up ∉ l3 := fun hm => by
    rcases (h.mem a.up).1 hm with h1 | ⟨_, h1, _⟩
    · have := hz _ h1; omega
    · omega
  refine ⟨by simp [hcl], fun u hu => ?_, ?_, fun u => ?_⟩
  · rw [hset, upC_snoc]
    have := h.ct u hu
    by_cases e : u = a.up
    · subst e; rw [if_pos rfl, if_pos rfl]; omega
    · rw [if_neg e, if_neg (Ne.symm e)]; omega
  · rcases hl with ⟨_, rfl⟩ | ⟨_, hl⟩
    · exact h.nd
    · exact hl.nodup_iff.2 (List.nodup_cons.2 ⟨hnl, h.nd⟩)
  · rw [hset]
    rcases hl with ⟨h1, rfl⟩ | ⟨h1, hl⟩
    · rw [h.mem]
      by_cases e : u = a.up
      · subst e
        rw [if_pos rfl]
        constructor
        · rintro (h2 | ⟨_, h2, _⟩)
          · exact .inl h2
          · omega
        · rintro (h2 | ⟨_, h2, _⟩)
          · exact .inl h2
          · omega
      · rw [if_neg e]
    · rw [hl.mem_iff, List.mem_cons, h.mem]
      by_cases e : u = a.up
      · subst e
        rw [if_pos rfl]
        exact ⟨fun _ => .inr ⟨hn, by omega, by omega⟩, fun _ => .inl rfl⟩
      · rw [if_neg e]
        exact ⟨fun h2 => h2.elim (fun e2 => absurd e2 e) id, .inr⟩
theorem Inner.done {A : List Arc3} {n i : Nat} {dn l l2 cs l3 : List Nat} (h : Inner A n dn l2 (nexts A i) cs l3) (hk : Kahn A n dn l) (hp : (i :: l2).Perm l) (hmin : ∀ u ∈ l, i ≤ u) :
    Kahn A n (dn ++ [i]) l3 ∧ ∀ u, u < n → hAt cs u = cnt A (dn ++ [i]) u := by
  have hil : i ∈ l := hp.mem_iff.1 (by simp)
  obtain ⟨hin, hid, hic⟩ := (hk.av i).1 hil
  have hnd : (i :: l2).Nodup := hp.nodup_iff.2 hk.avnd
  rw [List.nodup_cons] at hnd
  have hcs : ∀ u, u < n → hAt cs u = cnt A (dn ++ [i]) u := fun u hu => by
    have h1 := h.ct u hu
    have h2 := cnt_snoc (A := A) (u := u) hid
    have h3 : (nexts A i).countP (fun b => decide (b.up = u)) = upC (nexts A i) u := rfl
    omega
  have hl2 : ∀ u, u ∈ l2 ↔ u ∈ l ∧ u ≠ i := fun u => by
    rw [← hp.mem_iff, List.mem_cons]
    constructor
    · intro h1; exact ⟨.inr h1, fun e => hnd.1 (e ▸ h1)⟩
    · rintro ⟨h1 | h1, h2⟩
      · exact absurd h1 h2
      · exact h1
  refine ⟨hk.step hil hmin h.nd (fun u => ?_), hcs⟩
  rw [h.mem, hl2, hk.av]
  simp only [List.mem_append, List.mem_singleton, not_or]
  have hsn := cnt_snoc (A := A) (u := u) hid
  constructor
  · rintro (⟨⟨h1, h2, h3⟩, h4⟩ | ⟨h1, h2, h3⟩)
    · exact ⟨h1, ⟨h2, h4⟩, by omega⟩
    · refine ⟨h1, ⟨fun hm => ?_, fun e => by subst e; omega⟩, by rw [← hcs u h1]; exact h2⟩
      obtain ⟨pre, post, rfl⟩ := List.append_of_mem hm
      have : cnt A (pre ++ u :: post) u = 0 := cnt_zero.2 (fun a ha hu => by
        have := hk.ord pre u post rfl a ha hu
        simp [this])
      omega
  · rintro ⟨h1, ⟨h2, h3⟩, h4⟩
    by_cases e : cnt A dn u = 0
    · exact .inl ⟨⟨h1, h2, e⟩, h3⟩
    · exact .inr ⟨h1, by rw [hcs u h1]; exact h4, by omega⟩
end Go.Proofs.YtjcienaflbhedaaGreatDoor
namespace Go.Proofs.YtjcienaflbhedaaGreatDoor
open Go Go.Jog
set_option maxRecDepth 100000

end Go.Proofs.YtjcienaflbhedaaGreatDoor
namespace Go.Proofs.YtjcienaflbhedaaGreatDoor
open Go Go.Jog
set_option maxRecDepth 100000

end Go.Proofs.YtjcienaflbhedaaGreatDoor
namespace Go.Proofs.YtjcienaflbhedaaGreatDoor
open Go Go.Jog
set_option maxRecDepth 100000

end Go.Proofs.YtjcienaflbhedaaGreatDoor
namespace Go.Proofs.YtjcienaflbhedaaGreatDoor
open Go Go.Jog
set_option maxRecDepth 100000

theorem fits_fn (C : Mem) (A : Option Addr) (n c : Nat) : Gives cx.P 9 [.slice A n c] C (.bool (decide ((n : Int) ≤ 8))) := by
  refine Fn.intro (by kernel_rfl) Tryz.func9 rfl 6 rfl rfl (fun w0 => ?_)
  refine G.region rfl (fun R hR => ?_)
  refine D.pure rfl rfl rfl rfl rfl rfl ?_
  refine D.done [(0, [], _)] ⟨rfl, trivial⟩ (hR _ _ _ rfl ?_); clear hR R
  refine G.region rfl (fun R hR => ?_)
  iterate 4 refine D.pure rfl rfl rfl rfl rfl rfl ?_
  refine D.done [(2, [], _)] ⟨rfl, trivial⟩ (hR _ _ _ rfl ?_); clear hR R
  refine G.retN (G.dropAll (G.fin1 rfl rfl ?_))
  exact ⟨rfl, rfl⟩
end Go.Proofs.YtjcienaflbhedaaGreatDoor
namespace Go.Proofs.YtjcienaflbhedaaGreatDoor
open Go Go.Jog
set_option maxRecDepth 100000

def nameI (i : Nat) : Str := [UInt8.ofNat (65 + i)]
theorem lname_fn (C : Mem) (i : Nat) (hi : i < 100) : Gives cx.P 20 [.int .i64 i] C (strV (nameI i)) := by
  refine Fn.intro (by kernel_rfl) Tryz.func20 rfl 8 rfl rfl (fun w0 => ?_)
  refine G.region rfl (fun R hR => ?_)
  refine D.pure rfl rfl rfl rfl rfl rfl ?_
  refine D.done [(0, [], _)] ⟨rfl, trivial⟩ (hR _ _ _ rfl ?_); clear hR R
  refine G.region rfl (fun R hR => ?_)
  refine D.pure rfl rfl rfl rfl rfl rfl ?_
  refine D.i64 (((65 + i : Nat) : Int)) rfl rfl rfl rfl (by omega) (by omega) (by omega) rfl rfl ?_
  refine D.conv (c := ((65 + i : Nat) : Int)) rfl rfl rfl rfl rfl rfl rfl rfl (by rw [IntKind.wrap_u8]; omega) (fun _ => rfl) ?_
  refine D.buildSlice [[.int .u8 ((65 + i : Nat) : Int)]] rfl rfl rfl rfl rfl rfl rfl rfl rfl rfl rfl rfl (fun _ => rfl) (fun p6 C6 hle6 hs6 => ?_)
  have hb : (UInt8.ofNat (65 + i)).toNat = 65 + i := by rw [UInt8.toNat_ofNat']; omega
  have hs7 : Sl C6 1 p6 ((nameI i).map fun b => [.int .u8 b.toNat]) := by
    show Sl C6 1 p6 [[.int .u8 ((UInt8.ofNat (65 + i)).toNat : Int)]]
    rw [hb]; exact hs6
  refine D.strOf hs7 rfl rfl rfl rfl rfl rfl rfl rfl rfl rfl rfl (fun _ => rfl) ?_
  refine D.pure rfl rfl rfl rfl rfl rfl ?_
  refine D.done [(2, [], _)] ⟨rfl, trivial⟩ (hR _ _ _ rfl ?_); clear hR R
  refine G.retN (G.dropAll (G.fin1 rfl rfl ?_))
  exact ⟨rfl, rfl⟩
structure Seen where
  a : UInt8
  b : UInt8
  c : UInt8
  deriving Inhabited
def Seen.enc (x : Seen) : List Value := [.int .u8 x.a.toNat, .int .u8 x.b.toNat, .int .u8 x.c.toNat]
def upN (x : Seen) : Nat := x.b.toNat % 6
def lowN (x : Seen) : Nat := if x.b.toNat % 6 = x.c.toNat % 6 then (x.b.toNat % 6 + 1) % 6 else x.c.toNat % 6
def mkR (x : Seen) : Rel := ⟨((1 + x.a.toNat % 4 : Nat) : Int), nameI (upN x), nameI (lowN x)⟩
def makeL (l : List Seen) : List Rel := (l.take 8).map mkR
theorem make_fn (C : Mem) (v : Value) (l : List Seen) (hv : Sl C 3 v (l.map Seen.enc)) : Pur cx.P 10 [v] C fun u C' => Sl C' 3 u ((makeL l).map Rel.enc) := by
  obtain ⟨A, c, rfl, _⟩ := id hv
  simp only [List.length_map] at hv ⊢
  refine Fn.intro (by kernel_rfl) Tryz.func10 rfl 54 rfl rfl (fun w0 => ?_)
  refine G.region rfl (fun R hR => ?_)
  refine D.pure rfl rfl rfl rfl rfl rfl ?_
  refine D.done [(0, [], _)] ⟨rfl, trivial⟩ (hR _ _ _ rfl ?_); clear hR R
  refine G.region rfl (fun R hR => ?_)
  refine D.pure rfl rfl rfl rfl rfl rfl ?_
  refine D.done [(0, [], _), (3, [], _)] ⟨rfl, rfl, trivial⟩ (hR _ _ _ rfl ?_); clear hR R
  refine G.region rfl (fun R hR => ?_)
  refine D.pure rfl rfl rfl rfl rfl rfl ?_
  refine D.done [(0, [], _), (3, [], _), (4, [], _)] ⟨rfl, rfl, rfl, trivial⟩ (hR _ _ _ rfl ?_); clear hR R
  refine G.nilArr 35 3 ?_
  refine G.loop (fun fr C' L' μ => ∃ (k : Nat) (w3 : Value), (k ≤ l.length ∧ k ≤ 8) ∧ fr = [(0, [], .slice A l.length c), (3, [], w3), (4, [], .int .i64 k)] ∧ L' = [.arr w3 35 3 k (((l.take k).map mkR).map Rel.enc).flatten] ∧ μ = 8 - k) (fr' := [(0, [], _), (3, [], _), (4, [], _)]) ⟨rfl, rfl, rfl, trivial⟩ ⟨0, _, ⟨Nat.zero_le _, by omega⟩, rfl, rfl, rfl⟩ (fun fr C0' L0' m hle0 hI => ?_)
  obtain ⟨k, w3, ⟨hk, hk8⟩, rfl, rfl, rfl⟩ := hI
  refine G.region rfl (fun R hR => ?_)
  iterate 7 refine D.pure rfl rfl rfl rfl rfl rfl ?_
  refine D.pickAnd rfl rfl rfl rfl rfl rfl rfl rfl ?_
  refine D.done [(0, [], _), (3, [], _), (4, [], _), (14, [], _)] ⟨rfl, rfl, rfl, rfl, trivial⟩ (hR _ _ _ rfl ?_); clear hR R
  refine G.cond rfl (fun h14 => ?_) (fun h14 => ?_)
  · skip
    simp only [Bool.and_eq_true, decide_eq_true_eq] at h14
    have hkl : k < l.length := by omega
    obtain ⟨x, hx⟩ : ∃ x, l[k]? = some x := ⟨l[k], List.getElem?_eq_getElem hkl⟩
    have hrow : (l.map Seen.enc)[k]? = some x.enc := by rw [List.getElem?_map, hx]; rfl
    have hxa := x.a.toNat_lt
    have hxb := x.b.toNat_lt
    have hxc := x.c.toNat_lt
    have htk : (l.take (k + 1)).map mkR = (l.take k).map mkR ++ [mkR x] := by rw [List.take_add_one, hx]; simp
    refine G.draw [0, 1, 2, 3, 4, 5, 6, 7, 8, 9, 10, 11, 12, 13, 14, 15] [(6, 0), (13, 0)] rfl (by kernel_rfl) (fun R hB hR => ?_)
    iterate 2 refine D.pure rfl rfl rfl rfl rfl rfl ?_
    refine D.index0 (hv.mono (by (repeat (first | exact Mem.le.refl _ | assumption | (apply Mem.le.trans; rotate_left; assumption))))) rfl rfl rfl rfl rfl rfl rfl rfl rfl rfl (by omega) hrow (fun _ => rfl) (fun p19 hp19 => ?_)
    refine D.fieldP0 hp19 rfl rfl rfl rfl rfl rfl rfl rfl rfl rfl (fun _ => rfl) (fun p20 hp20 => ?_)
    refine D.loadP0 hp20 rfl rfl rfl rfl rfl rfl rfl rfl ?_
    refine D.rem rfl rfl rfl rfl rfl rfl (by omega) (by omega) rfl rfl ?_
    refine D.convQ (c := (upN x : Int)) rfl rfl rfl rfl rfl rfl rfl rfl (by rw [IntKind.wrap_i64]; unfold upN; omega) rfl rfl ?_
    iterate 2 refine D.pure rfl rfl rfl rfl rfl rfl ?_
    refine D.index0 (hv.mono (by (repeat (first | exact Mem.le.refl _ | assumption | (apply Mem.le.trans; rotate_left; assumption))))) rfl rfl rfl rfl rfl rfl rfl rfl rfl rfl (by omega) hrow (fun _ => rfl) (fun p26 hp26 => ?_)
    refine D.fieldP0 hp26 rfl rfl rfl rfl rfl rfl rfl rfl rfl rfl (fun _ => rfl) (fun p27 hp27 => ?_)
    refine D.loadP0 hp27 rfl rfl rfl rfl rfl rfl rfl rfl ?_
    refine D.rem rfl rfl rfl rfl rfl rfl (by omega) (by omega) rfl rfl ?_
    refine D.convQ (c := ((x.c.toNat % 6 : Nat) : Int)) rfl rfl rfl rfl rfl rfl rfl rfl (by rw [IntKind.wrap_i64]; omega) rfl rfl ?_
    iterate 2 refine D.pure rfl rfl rfl rfl rfl rfl ?_
    refine D.done [(0, [], _), (3, [], _), (4, [], _), (5, [], _), (6, [], _)] ⟨rfl, rfl, rfl, rfl, rfl, trivial⟩ (hR _ _ _ rfl ?_); clear hR hB R
    refine G.region rfl (fun R hR => ?_)
    iterate 3 refine D.pure rfl rfl rfl rfl rfl rfl ?_
    refine D.done [(0, [], _), (3, [], _), (4, [], _), (5, [], _), (6, [], _), (33, [], _)] ⟨rfl, rfl, rfl, rfl, rfl, rfl, trivial⟩ (hR _ _ _ rfl ?_); clear hR R
    refine G.cut (fun fr C' L' μ => (True) ∧ fr = [(0, [], .slice A l.length c), (3, [], w3), (4, [], .int .i64 k), (5, [], .int .i64 (upN x)), (6, [], .int .i64 (lowN x))] ∧ L' = [.arr w3 35 3 k (((l.take k).map mkR).map Rel.enc).flatten]) ?_ (fun fr C33 L33 μ hle33 hI => ?_)
    · skip
      refine G.cond rfl (fun h33 => ?_) (fun h33 => ?_)
      · skip
        have h33' : upN x = x.c.toNat % 6 := by
          have h : (upN x : Int) = ((x.c.toNat % 6 : Nat) : Int) := by simpa using h33
          omega
        have hup6 : upN x < 6 := by unfold upN; omega
        refine G.region rfl (fun R hR => ?_)
        refine D.pure rfl rfl rfl rfl rfl rfl ?_
        refine D.i64 _ rfl rfl rfl rfl rfl (by omega) (by omega) rfl rfl ?_
        refine D.rem rfl rfl rfl rfl rfl rfl (by omega) (by omega) rfl rfl ?_
        refine D.pure rfl rfl rfl rfl rfl rfl ?_
        refine D.done [(0, [], _), (3, [], _), (4, [], _), (5, [], _), (6, [], _)] ⟨rfl, rfl, rfl, rfl, rfl, trivial⟩ (hR _ _ _ rfl ?_); clear hR R
        have hlow : ((upN x : Int) + 1) % 6 = (lowN x : Int) := by
          unfold lowN
          have : x.b.toNat % 6 = x.c.toNat % 6 := h33'
          rw [if_pos this]; unfold upN; omega
        refine G.meet 0 (Mem.le.refl _) (fr' := [(0, [], _), (3, [], _), (4, [], _), (5, [], _), (6, [], _)]) ⟨rfl, rfl, rfl, rfl, rfl, trivial⟩ ⟨trivial, by rw [← hlow], rfl⟩
      · skip
        have h33' : ¬ upN x = x.c.toNat % 6 := fun e => by
          have : (false : Bool) = true := by rw [← h33]; simp [e]
          cases this
        have hlow : x.c.toNat % 6 = lowN x := by
          unfold lowN
          rw [if_neg (show ¬ x.b.toNat % 6 = x.c.toNat % 6 from h33')]
        refine G.meet 0 (Mem.le.refl _) (fr' := [(0, [], _), (3, [], _), (4, [], _), (5, [], _), (6, [], _)]) ⟨rfl, rfl, rfl, rfl, rfl, trivial⟩ ⟨trivial, by rw [← hlow], rfl⟩
    · skip
      obtain ⟨htriv, rfl, rfl⟩ := hI
      have hup6 : upN x < 6 := by unfold upN; omega
      have hlow6 : lowN x < 6 := by unfold lowN; split <;> omega
      refine G.draw [0, 1, 2, 3, 4, 5, 6, 7, 8, 9, 10, 11, 12, 13, 14, 15, 16] [(10, 1), (12, 1), (7, 0)] rfl (by kernel_rfl) (fun R hB hR => ?_)
      iterate 3 refine D.pure rfl rfl rfl rfl rfl rfl ?_
      refine D.index0 (hv.mono (by (repeat (first | exact Mem.le.refl _ | assumption | (apply Mem.le.trans; rotate_left; assumption))))) rfl rfl rfl rfl rfl rfl rfl rfl rfl rfl (by omega) hrow (fun _ => rfl) (fun p40 hp40 => ?_)
      refine D.fieldP0 hp40 rfl rfl rfl rfl rfl rfl rfl rfl rfl rfl (fun _ => rfl) (fun p41 hp41 => ?_)
      refine D.loadP0 hp41 rfl rfl rfl rfl rfl rfl rfl rfl ?_
      refine D.rem rfl rfl rfl rfl rfl rfl (by omega) (by omega) rfl rfl ?_
      refine D.convQ (c := ((x.a.toNat % 4 : Nat) : Int)) rfl rfl rfl rfl rfl rfl rfl rfl (by rw [IntKind.wrap_i64]; omega) rfl rfl ?_
      refine D.i64 (((1 + x.a.toNat % 4 : Nat) : Int)) rfl rfl rfl rfl (by omega) (by omega) (by omega) rfl rfl ?_
      refine D.pure rfl rfl rfl rfl rfl rfl ?_
      refine D.gives (fun _ => (lname_fn _ (upN x) (by omega))) rfl rfl rfl rfl rfl rfl rfl rfl rfl ?_
      refine D.pure rfl rfl rfl rfl rfl rfl ?_
      refine D.gives (fun _ => (lname_fn _ (lowN x) (by omega))) rfl rfl rfl rfl rfl rfl rfl rfl rfl ?_
      refine D.build (mkR x).enc rfl rfl rfl rfl rfl rfl rfl rfl ?_
      refine D.buildSlice [(mkR x).enc] rfl rfl rfl rfl rfl rfl rfl rfl rfl rfl rfl rfl (fun _ => rfl) (fun p51 C51 hle51 hs51 => ?_)
      refine D.append (j := 0) rfl rfl rfl rfl rfl rfl rfl rfl rfl rfl rfl hs51 rfl (by simp only [List.length_singleton, maxLen]; omega) (by simp only [List.length_singleton]; omega) (fun _ => rfl) (fun v52 => ?_)
      refine D.pure rfl rfl rfl rfl rfl rfl ?_
      refine D.done [(0, [], _), (3, [], _), (4, [], _)] ⟨rfl, rfl, rfl, trivial⟩ (hR _ _ _ rfl ?_); clear hR hB R
      refine G.region rfl (fun R hR => ?_)
      refine D.pure rfl rfl rfl rfl rfl rfl ?_
      refine D.i64 (((k + 1 : Nat) : Int)) rfl rfl rfl rfl (by omega) (by omega) (by omega) rfl rfl ?_
      refine D.pure rfl rfl rfl rfl rfl rfl ?_
      refine D.done [(0, [], _), (3, [], _), (4, [], _)] ⟨rfl, rfl, rfl, trivial⟩ (hR _ _ _ rfl ?_); clear hR R
      refine G.eqL (L' := [.arr v52 35 3 (k + 1) (((l.take (k + 1)).map mkR).map Rel.enc).flatten]) (by rw [htk]; simp) ?_
      refine G.again (m' := 8 - (k + 1)) (by omega) (by (repeat (first | exact Mem.le.refl _ | assumption | (apply Mem.le.trans; rotate_left; assumption)))) (fr' := [(0, [], _), (3, [], _), (4, [], _)]) ⟨rfl, rfl, rfl, trivial⟩ ⟨k + 1, v52, ⟨by omega, by omega⟩, rfl, rfl, rfl⟩
  · skip
    simp only [Bool.and_eq_false_iff, decide_eq_false_iff_not] at h14
    refine G.region rfl (fun R hR => ?_)
    iterate 2 refine D.pure rfl rfl rfl rfl rfl rfl ?_
    refine D.done [(2, [], _)] ⟨rfl, trivial⟩ (hR _ _ _ rfl ?_); clear hR R
    refine G.freezeArr 0 (((l.take k).map mkR).map Rel.enc) rfl rfl (by intro r hr; obtain ⟨y, _, rfl⟩ := List.mem_map.1 hr; exact rel_len y) (by simp; omega) (fun Cf hlef hsf => ?_)
    refine G.retN (G.dropAll (G.fin1 rfl rfl ?_))
    refine ⟨rfl, ?_⟩
    have e : l.take k = l.take 8 := by
      rcases h14 with h | h
      · rw [List.take_of_length_le (by omega), List.take_of_length_le (by omega)]
      · congr 1; omega
    rw [makeL, ← e]
    exact hsf
end Go.Proofs.YtjcienaflbhedaaGreatDoor
namespace Go.Proofs.YtjcienaflbhedaaGreatDoor
open Go Go.Jog
set_option maxRecDepth 100000

def gR (l : List Rel) (i : Int) : Rel := l.getD i.toNat default
theorem gR_at {l : List Rel} {i : Int} (h0 : 0 ≤ i) (h1 : i < l.length) : l[i.toNat]? = some (gR l i) ∧ (l.map Rel.enc)[i.toNat]? = some (gR l i).enc := by
  have e : l[i.toNat]? = some (gR l i) := by
    unfold gR
    rw [List.getD_eq_getElem?_getD, List.getElem?_eq_getElem (by omega)]; rfl
  exact ⟨e, by rw [List.getElem?_map, e]; rfl⟩
def arcB (l : List Rel) (i : Int) : Bool := decide (0 ≤ i) && decide (i < l.length) && decide (1 ≤ (gR l i).kind) && decide ((gR l i).kind ≤ 3)
theorem arcB_in {l : List Rel} {i : Int} (h : arcB l i = true) : 0 ≤ i ∧ i < l.length := by
  unfold arcB at h
  simp at h
  omega
theorem carc_fn (C : Mem) (v : Value) (l : List Rel) (i : Int) (hv : Sl C 3 v (l.map Rel.enc)) : Gives cx.P 21 [v, .int .i64 i] C (.bool (arcB l i)) := by
  obtain ⟨A, c, rfl, _⟩ := id hv
  simp only [List.length_map] at hv ⊢
  refine Fn.intro (by kernel_rfl) Tryz.func21 rfl 29 rfl rfl (fun w0 => ?_)
  refine G.region rfl (fun R hR => ?_)
  refine D.pure rfl rfl rfl rfl rfl rfl ?_
  refine D.done [(0, [], _), (1, [], _)] ⟨rfl, rfl, trivial⟩ (hR _ _ _ rfl ?_); clear hR R
  refine G.region rfl (fun R hR => ?_)
  iterate 7 refine D.pure rfl rfl rfl rfl rfl rfl ?_
  refine D.pickAnd rfl rfl rfl rfl rfl rfl rfl rfl ?_
  iterate 3 refine D.pure rfl rfl rfl rfl rfl rfl ?_
  refine D.index rfl rfl rfl rfl rfl rfl rfl rfl rfl rfl (fun hg => ⟨hv, (by have h : (decide (0 ≤ i) && decide (i < (l.length : Int))) = true := hg.1; simp at h; omega), (by have h : (decide (0 ≤ i) && decide (i < (l.length : Int))) = true := hg.1; simp at h; exact (gR_at h.1 h.2).2)⟩) (fun _ => rfl) rfl (fun p16 hp16 => ?_)
  refine D.fieldP rfl rfl rfl rfl rfl rfl rfl rfl rfl rfl hp16 (fun _ => rfl) rfl (fun p17 hp17 => ?_)
  refine D.loadP rfl rfl rfl rfl rfl rfl hp17 rfl rfl rfl ?_
  refine D.pure rfl rfl rfl rfl rfl rfl ?_
  refine D.pickAnd rfl rfl rfl rfl rfl rfl rfl rfl ?_
  iterate 3 refine D.pure rfl rfl rfl rfl rfl rfl ?_
  refine D.index rfl rfl rfl rfl rfl rfl rfl rfl rfl rfl (fun hg => ⟨hv, (by have h : (decide (0 ≤ i) && decide (i < (l.length : Int)) && decide (1 ≤ (gR l i).kind)) = true := hg.1; simp at h; omega), (by have h : (decide (0 ≤ i) && decide (i < (l.length : Int)) && decide (1 ≤ (gR l i).kind)) = true := hg.1; simp at h; exact (gR_at h.1.1 h.1.2).2)⟩) (fun _ => rfl) rfl (fun p24 hp24 => ?_)
  refine D.fieldP rfl rfl rfl rfl rfl rfl rfl rfl rfl rfl hp24 (fun _ => rfl) rfl (fun p25 hp25 => ?_)
  refine D.loadP rfl rfl rfl rfl rfl rfl hp25 rfl rfl rfl ?_
  refine D.pure rfl rfl rfl rfl rfl rfl ?_
  refine D.pickAnd rfl rfl rfl rfl rfl rfl rfl rfl ?_
  refine D.pure rfl rfl rfl rfl rfl rfl ?_
  refine D.done [(4, [], _)] ⟨rfl, trivial⟩ (hR _ _ _ rfl ?_); clear hR R
  refine G.retN (G.dropAll (G.fin1 rfl rfl ?_))
  exact ⟨rfl, rfl⟩
/-- The unit that arcs lead to. -/
def stepsM (l : List Rel) (ix : Int) : Str → List Int → Option Str
  | u, [] => some u
  | u, i :: r => if arcB l i && !(i == ix) && decide ((gR l i).lower = u) then stepsM l ix (gR l i).upper r else none
def impB (l : List Rel) (ix : Int) (bs : List Int) : Bool := arcB l ix && !(decide (bs.length = 0)) && (match stepsM l ix (gR l ix).lower bs with
  | some u => decide (u = (gR l ix).upper)
  | none => false)
theorem implied_fn (C : Mem) (v vb : Value) (l : List Rel) (ix : Int) (bs : List Int) (hv : Sl C 3 v (l.map Rel.enc)) (hb : Sl C 1 vb (bs.map encI)) : Gives cx.P 15 [v, .int .i64 ix, vb] C (.bool (impB l ix bs)) := by
  obtain ⟨A, c, rfl, hl1, hl2, _⟩ := id hv
  obtain ⟨Ab, cb, rfl, hb1, hb2, _⟩ := id hb
  have hmx : maxLen ≤ 9223372036854775807 := by simp [maxLen]
  simp only [List.length_map] at hv hb hb1 hl1 ⊢
  refine Fn.intro (by kernel_rfl) Tryz.func15 rfl 61 rfl rfl (fun w0 => ?_)
  refine G.region rfl (fun R hR => ?_)
  refine D.pure rfl rfl rfl rfl rfl rfl ?_
  refine D.done [(0, [], _), (1, [], _), (2, [], _)] ⟨rfl, rfl, rfl, trivial⟩ (hR _ _ _ rfl ?_); clear hR R
  refine G.region rfl (fun R hR => ?_)
  iterate 2 refine D.pure rfl rfl rfl rfl rfl rfl ?_
  refine D.gives2 (carc_fn _ _ l ix hv) rfl rfl rfl rfl rfl rfl rfl (fun _ => rfl) ?_
  iterate 5 refine D.pure rfl rfl rfl rfl rfl rfl ?_
  refine D.pickOr rfl rfl rfl rfl rfl rfl rfl rfl ?_
  refine D.done [(0, [], _), (1, [], _), (2, [], _), (18, [], _)] ⟨rfl, rfl, rfl, rfl, trivial⟩ (hR _ _ _ rfl ?_); clear hR R
  refine G.cond rfl (fun h18 => ?_) (fun h18 => ?_)
  · skip
    have hno : impB l ix bs = false := by
      unfold impB
      cases h1 : arcB l ix with
      | false => rfl
      | true =>
        rw [h1] at h18
        have h2 : bs.length = 0 := by simpa using h18
        simp [h2]
    refine G.region rfl (fun R hR => ?_)
    refine D.pure rfl rfl rfl rfl rfl rfl ?_
    refine D.done [(6, [], _)] ⟨rfl, trivial⟩ (hR _ _ _ rfl ?_); clear hR R
    refine G.retN (G.dropAll (G.fin1 rfl rfl ?_))
    exact ⟨by rw [hno], rfl⟩
  · skip
    have h1 : arcB l ix = true := by
      cases h1 : arcB l ix with
      | true => rfl
      | false => rw [h1] at h18; cases h18
    have h2 : ¬ bs.length = 0 := by
      rw [h1] at h18
      simpa using h18
    obtain ⟨hx0, hx1⟩ := arcB_in h1
    have hI : impB l ix bs = (match stepsM l ix (gR l ix).lower bs with
      | some u => decide (u = (gR l ix).upper)
      | none => false) := by
      unfold impB
      rw [h1]; simp [h2]
    refine G.region rfl (fun R hR => ?_)
    iterate 2 refine D.pure rfl rfl rfl rfl rfl rfl ?_
    refine D.index0 (hv.mono (by (repeat (first | exact Mem.le.refl _ | assumption | (apply Mem.le.trans; rotate_left; assumption))))) rfl rfl rfl rfl rfl rfl rfl rfl rfl rfl (by omega) (gR_at hx0 hx1).2 (fun _ => rfl) (fun p21 hp21 => ?_)
    refine D.fieldP0 hp21 rfl rfl rfl rfl rfl rfl rfl rfl rfl rfl (fun _ => rfl) (fun p22 hp22 => ?_)
    refine D.loadP0 hp22 rfl rfl rfl rfl rfl rfl rfl rfl ?_
    refine D.pure rfl rfl rfl rfl rfl rfl ?_
    refine D.done [(0, [], _), (1, [], _), (2, [], _), (7, [], _)] ⟨rfl, rfl, rfl, rfl, trivial⟩ (hR _ _ _ rfl ?_); clear hR R
    refine G.region rfl (fun R hR => ?_)
    iterate 3 refine D.pure rfl rfl rfl rfl rfl rfl ?_
    refine D.done [(0, [], _), (1, [], _), (7, [], _), (24, [], _), (25, [], _), (26, [], _)] ⟨rfl, rfl, rfl, rfl, rfl, rfl, trivial⟩ (hR _ _ _ rfl ?_); clear hR R
    refine G.loop (fun fr C' L' μ => ∃ (k : Nat) (u : Str), (k ≤ bs.length ∧ stepsM l ix (gR l ix).lower bs = stepsM l ix u (bs.drop k)) ∧ fr = [(0, [], .slice A l.length c), (1, [], .int .i64 ix), (7, [], strV u), (24, [], .slice Ab bs.length cb), (25, [], .int .i64 bs.length), (26, [], .int .i64 k)] ∧ L' = [] ∧ μ = bs.length - k) (fr' := [(0, [], _), (1, [], _), (7, [], _), (24, [], _), (25, [], _), (26, [], _)]) ⟨rfl, rfl, rfl, rfl, rfl, rfl, trivial⟩ ⟨0, (gR l ix).lower, ⟨Nat.zero_le _, rfl⟩, rfl, rfl, rfl⟩ (fun fr C0' L0' m hle0 hI => ?_)
    obtain ⟨k, u, ⟨hk, hst⟩, rfl, rfl, rfl⟩ := hI
    refine G.region rfl (fun R hR => ?_)
    refine D.pure rfl rfl rfl rfl rfl rfl ?_
    refine D.done [(0, [], _), (1, [], _), (7, [], _), (24, [], _), (25, [], _), (26, [], _), (27, [], _)] ⟨rfl, rfl, rfl, rfl, rfl, rfl, rfl, trivial⟩ (hR _ _ _ rfl ?_); clear hR R
    refine G.cond rfl (fun h27 => ?_) (fun h27 => ?_)
    · skip
      have hkl : k < bs.length := by simpa using h27
      obtain ⟨i, hi⟩ : ∃ i, bs[k]? = some i := ⟨bs[k], List.getElem?_eq_getElem hkl⟩
      have hrow : (bs.map encI)[k]? = some (encI i) := by rw [List.getElem?_map, hi]; rfl
      have hdr : bs.drop k = i :: bs.drop (k + 1) := by
        rw [List.drop_eq_getElem_cons hkl]
        congr 1
        exact (List.getElem?_eq_some_iff.1 hi).2
      refine G.region rfl (fun R hR => ?_)
      refine D.index0 (hb.mono (by (repeat (first | exact Mem.le.refl _ | assumption | (apply Mem.le.trans; rotate_left; assumption))))) rfl rfl rfl rfl rfl rfl rfl rfl rfl rfl (by omega) hrow (fun _ => rfl) (fun p28 hp28 => ?_)
      refine D.loadP0 hp28 rfl rfl rfl rfl rfl rfl rfl rfl ?_
      refine D.pure rfl rfl rfl rfl rfl rfl ?_
      refine D.done [(0, [], _), (1, [], _), (7, [], _), (9, [], _), (24, [], _), (25, [], _), (26, [], _)] ⟨rfl, rfl, rfl, rfl, rfl, rfl, rfl, trivial⟩ (hR _ _ _ rfl ?_); clear hR R
      refine G.region rfl (fun R hR => ?_)
      iterate 2 refine D.pure rfl rfl rfl rfl rfl rfl ?_
      refine D.gives2 (carc_fn _ _ l i (hv.mono (by (repeat (first | exact Mem.le.refl _ | assumption | (apply Mem.le.trans; rotate_left; assumption)))))) rfl rfl rfl rfl rfl rfl rfl (fun _ => rfl) ?_
      iterate 5 refine D.pure rfl rfl rfl rfl rfl rfl ?_
      refine D.pickOr rfl rfl rfl rfl rfl rfl rfl rfl ?_
      iterate 3 refine D.pure rfl rfl rfl rfl rfl rfl ?_
      refine D.index rfl rfl rfl rfl rfl rfl rfl rfl rfl rfl (fun hg => ⟨hv.mono (by (repeat (first | exact Mem.le.refl _ | assumption | (apply Mem.le.trans; rotate_left; assumption)))), (by have h : (!arcB l i || (i == ix)) = false := hg.1; simp at h; exact (arcB_in h.1).1), (by have h : (!arcB l i || (i == ix)) = false := hg.1; simp at h; exact (gR_at (arcB_in h.1).1 (arcB_in h.1).2).2)⟩) (fun _ => rfl) rfl (fun p42 hp42 => ?_)
      refine D.fieldP rfl rfl rfl rfl rfl rfl rfl rfl rfl rfl hp42 (fun _ => rfl) rfl (fun p43 hp43 => ?_)
      refine D.loadP rfl rfl rfl rfl rfl rfl hp43 rfl rfl rfl ?_
      iterate 2 refine D.pure rfl rfl rfl rfl rfl rfl ?_
      refine D.pickOr rfl rfl rfl rfl rfl rfl rfl rfl ?_
      refine D.done [(0, [], _), (1, [], _), (9, [], _), (24, [], _), (25, [], _), (26, [], _), (47, [], _)] ⟨rfl, rfl, rfl, rfl, rfl, rfl, rfl, trivial⟩ (hR _ _ _ rfl ?_); clear hR R
      refine G.cond rfl (fun h47 => ?_) (fun h47 => ?_)
      · skip
        have hno : stepsM l ix (gR l ix).lower bs = none := by
          rw [hst, hdr, stepsM, if_neg]
          intro h
          simp at h h47
          obtain ⟨⟨e1, e2⟩, e3⟩ := h
          rw [e1] at h47
          simp [e2, e3] at h47
        refine G.region rfl (fun R hR => ?_)
        refine D.pure rfl rfl rfl rfl rfl rfl ?_
        refine D.done [(6, [], _)] ⟨rfl, trivial⟩ (hR _ _ _ rfl ?_); clear hR R
        refine G.retN (G.dropAll (G.fin1 rfl rfl ?_))
        exact ⟨by rw [hI, hno], rfl⟩
      · skip
        have hok : (arcB l i && !(i == ix) && decide ((gR l i).lower = u)) = true := by
          simp at h47
          simp [h47.1.1, h47.1.2, h47.2]
        have hin := arcB_in (l := l) (i := i) (by simp at hok; exact hok.1.1)
        refine G.region rfl (fun R hR => ?_)
        iterate 2 refine D.pure rfl rfl rfl rfl rfl rfl ?_
        refine D.index0 (hv.mono (by (repeat (first | exact Mem.le.refl _ | assumption | (apply Mem.le.trans; rotate_left; assumption))))) rfl rfl rfl rfl rfl rfl rfl rfl rfl rfl (by omega) (gR_at hin.1 hin.2).2 (fun _ => rfl) (fun p50 hp50 => ?_)
        refine D.fieldP0 hp50 rfl rfl rfl rfl rfl rfl rfl rfl rfl rfl (fun _ => rfl) (fun p51 hp51 => ?_)
        refine D.loadP0 hp51 rfl rfl rfl rfl rfl rfl rfl rfl ?_
        refine D.pure rfl rfl rfl rfl rfl rfl ?_
        refine D.done [(0, [], _), (1, [], _), (7, [], _), (24, [], _), (25, [], _), (26, [], _)] ⟨rfl, rfl, rfl, rfl, rfl, rfl, trivial⟩ (hR _ _ _ rfl ?_); clear hR R
        refine G.region rfl (fun R hR => ?_)
        refine D.i64 _ rfl rfl rfl rfl rfl (by omega) (by omega) rfl rfl ?_
        refine D.pure rfl rfl rfl rfl rfl rfl ?_
        refine D.done [(0, [], _), (1, [], _), (7, [], _), (24, [], _), (25, [], _), (26, [], _)] ⟨rfl, rfl, rfl, rfl, rfl, rfl, trivial⟩ (hR _ _ _ rfl ?_); clear hR R
        refine G.again (m' := bs.length - (k + 1)) (by omega) (by (repeat (first | exact Mem.le.refl _ | assumption | (apply Mem.le.trans; rotate_left; assumption)))) (fr' := [(0, [], _), (1, [], _), (7, [], _), (24, [], _), (25, [], _), (26, [], _)]) ⟨rfl, rfl, rfl, rfl, rfl, rfl, trivial⟩ ⟨k + 1, (gR l i).upper, ⟨by omega, by rw [hst, hdr, stepsM, if_pos hok]⟩, rfl, rfl, rfl⟩
    · skip
      have hkl : bs.length ≤ k := by
        have : ¬ k < bs.length := by simpa using h27
        omega
      refine G.region rfl (fun R hR => ?_)
      iterate 3 refine D.pure rfl rfl rfl rfl rfl rfl ?_
      refine D.index0 (hv.mono (by (repeat (first | exact Mem.le.refl _ | assumption | (apply Mem.le.trans; rotate_left; assumption))))) rfl rfl rfl rfl rfl rfl rfl rfl rfl rfl (by omega) (gR_at hx0 hx1).2 (fun _ => rfl) (fun p57 hp57 => ?_)
      refine D.fieldP0 hp57 rfl rfl rfl rfl rfl rfl rfl rfl rfl rfl (fun _ => rfl) (fun p58 hp58 => ?_)
      refine D.loadP0 hp58 rfl rfl rfl rfl rfl rfl rfl rfl ?_
      iterate 2 refine D.pure rfl rfl rfl rfl rfl rfl ?_
      refine D.done [(6, [], _)] ⟨rfl, trivial⟩ (hR _ _ _ rfl ?_); clear hR R
      refine G.retN (G.dropAll (G.fin1 rfl rfl ?_))
      refine ⟨?_, rfl⟩
      rw [hI, hst, List.drop_of_length_le hkl, stepsM]
      simp [eqStr]
def posZ (N : List Str) (s : Str) : Nat := if s ∈ N then posS N s else 0
theorem look_at (N : List Str) (s : Str) : lookV (.int .i64 0) true (mget (atM N 0) s) = .tuple #[.int .i64 (posZ N s), .bool (decide (s ∈ N))] := by
  rw [mget_atM]
  by_cases h : s ∈ N
  · simp [h, posZ, lookV]
  · simp [h, posZ, lookV]
theorem nodup_snoc {α : Type} {l : List α} {x : α} (h : l.Nodup) (hx : x ∉ l) : (l ++ [x]).Nodup := by
  rw [List.nodup_append]
  exact ⟨h, by simp, fun a ha b hb e => by simp only [List.mem_singleton] at hb; subst hb; subst e; exact hx ha⟩
/-- One relation is kept. -/
def keptB (l : List Rel) (o : List Str) (k : Nat) : Bool := decide ((gR l k).upper ∈ o) && decide ((gR l k).lower ∈ o) && !(arcB l k && decide (posZ o (gR l k).upper ≤ posZ o (gR l k).lower))
def ordB (l : List Rel) (o : List Str) : Bool := decide o.Nodup && (List.range l.length).all (keptB l o)
set_option maxHeartbeats 1000000 in
theorem order_fn (C : Mem) (v vo : Value) (l : List Rel) (o : List Str) (hv : Sl C 3 v (l.map Rel.enc)) (hvo : Sl C 1 vo (o.map encS)) : Gives cx.P 11 [v, vo] C (.bool (ordB l o)) := by
  obtain ⟨A, c, rfl, hl1, hl2, _⟩ := id hv
  obtain ⟨Ao, co, rfl, ho1, ho2, _⟩ := id hvo
  have hmx : maxLen ≤ 9223372036854775807 := by simp [maxLen]
  simp only [List.length_map] at hv hvo hl1 ho1 ⊢
  refine Fn.intro (by kernel_rfl) Tryz.func11 rfl 73 rfl rfl (fun w0 => ?_)
  refine G.region rfl (fun R hR => ?_)
  refine D.pure rfl rfl rfl rfl rfl rfl ?_
  refine D.done [(0, [], _), (1, [], _)] ⟨rfl, rfl, trivial⟩ (hR _ _ _ rfl ?_); clear hR R
  refine G.region rfl (fun R hR => ?_)
  refine D.makeMap keyS rfl rfl rfl rfl (fun _ => rfl) (fun b16 => ?_)
  refine D.pure rfl rfl rfl rfl rfl rfl ?_
  refine D.done [(0, [], _), (1, [], _), (5, [], _)] ⟨rfl, rfl, rfl, trivial⟩ (hR _ _ _ rfl ?_); clear hR R
  refine G.region rfl (fun R hR => ?_)
  iterate 3 refine D.pure rfl rfl rfl rfl rfl rfl ?_
  refine D.done [(0, [], _), (5, [], _), (17, [], _), (18, [], _), (19, [], _)] ⟨rfl, rfl, rfl, rfl, rfl, trivial⟩ (hR _ _ _ rfl ?_); clear hR R
  refine G.loop (fun fr C' L' μ => ∃ (k : Nat), (k ≤ o.length ∧ (o.take k).Nodup) ∧ fr = [(0, [], .slice A l.length c), (5, [], .map (some b16)), (17, [], .slice Ao o.length co), (18, [], .int .i64 o.length), (19, [], .int .i64 k)] ∧ L' = [.obj b16 (mapOf keyS.enc (atM (o.take k) 0))] ∧ μ = o.length - k) (fr' := [(0, [], _), (5, [], _), (17, [], _), (18, [], _), (19, [], _)]) ⟨rfl, rfl, rfl, rfl, rfl, trivial⟩ ⟨0, ⟨Nat.zero_le _, by simp⟩, rfl, rfl, rfl⟩ (fun fr C0' L0' m hle0 hI => ?_)
  obtain ⟨k, ⟨hk, hnd⟩, rfl, rfl, rfl⟩ := hI
  refine G.region rfl (fun R hR => ?_)
  refine D.pure rfl rfl rfl rfl rfl rfl ?_
  refine D.done [(0, [], _), (5, [], _), (17, [], _), (18, [], _), (19, [], _), (20, [], _)] ⟨rfl, rfl, rfl, rfl, rfl, rfl, trivial⟩ (hR _ _ _ rfl ?_); clear hR R
  refine G.cond rfl (fun h20 => ?_) (fun h20 => ?_)
  · skip
    have hkl : k < o.length := by simpa using h20
    obtain ⟨s, hs⟩ : ∃ s, o[k]? = some s := ⟨o[k], List.getElem?_eq_getElem hkl⟩
    have hrs : (o.map encS)[k]? = some (encS s) := by rw [List.getElem?_map, hs]; rfl
    have htk : o.take (k + 1) = o.take k ++ [s] := by rw [List.take_add_one, hs]; rfl
    refine G.region rfl (fun R hR => ?_)
    refine D.pure rfl rfl rfl rfl rfl rfl ?_
    refine D.index0 (hvo.mono (by (repeat (first | exact Mem.le.refl _ | assumption | (apply Mem.le.trans; rotate_left; assumption))))) rfl rfl rfl rfl rfl rfl rfl rfl rfl rfl (by omega) hrs (fun _ => rfl) (fun p22 hp22 => ?_)
    refine D.loadP0 hp22 rfl rfl rfl rfl rfl rfl rfl rfl ?_
    iterate 2 refine D.pure rfl rfl rfl rfl rfl rfl ?_
    refine D.done [(0, [], _), (5, [], _), (6, [], _), (7, [], _), (17, [], _), (18, [], _), (19, [], _)] ⟨rfl, rfl, rfl, rfl, rfl, rfl, rfl, trivial⟩ (hR _ _ _ rfl ?_); clear hR R
    refine G.region rfl (fun R hR => ?_)
    iterate 2 refine D.pure rfl rfl rfl rfl rfl rfl ?_
    refine D.lookupL keyS (.head _) rfl rfl rfl rfl rfl rfl rfl rfl (by kernel_rfl) rfl (look_at (o.take k) s) rfl rfl ?_
    iterate 5 refine D.pure rfl rfl rfl rfl rfl rfl ?_
    refine D.done [(0, [], _), (5, [], _), (6, [], _), (7, [], _), (9, [], _), (17, [], _), (18, [], _), (19, [], _)] ⟨rfl, rfl, rfl, rfl, rfl, rfl, rfl, rfl, trivial⟩ (hR _ _ _ rfl ?_); clear hR R
    refine G.region rfl (fun R hR => ?_)
    refine D.pure rfl rfl rfl rfl rfl rfl ?_
    refine D.done [(0, [], _), (5, [], _), (6, [], _), (7, [], _), (17, [], _), (18, [], _), (19, [], _), (30, [], _)] ⟨rfl, rfl, rfl, rfl, rfl, rfl, rfl, rfl, trivial⟩ (hR _ _ _ rfl ?_); clear hR R
    refine G.cond rfl (fun h30 => ?_) (fun h30 => ?_)
    · skip
      have h38' : s ∈ o.take k := by simpa using h30
      have hno : ordB l o = false := by
        unfold ordB
        have hn : ¬ o.Nodup := fun hn => by
          have h2 := hn.sublist (List.take_sublist (k + 1) o)
          rw [htk, List.nodup_append] at h2
          exact h2.2.2 s h38' s (by simp) rfl
        simp [hn]
      refine G.region rfl (fun R hR => ?_)
      refine D.pure rfl rfl rfl rfl rfl rfl ?_
      refine D.done [(4, [], _)] ⟨rfl, trivial⟩ (hR _ _ _ rfl ?_); clear hR R
      refine G.retN (G.dropAll (G.fin1 rfl rfl ?_))
      exact ⟨by rw [hno], rfl⟩
    · skip
      have h38' : s ∉ o.take k := by simpa using h30
      have hset := mset_atM (i := 0) h38'
      rw [← htk, List.length_take, Nat.min_eq_left (by omega), Nat.zero_add] at hset
      refine G.region rfl (fun R hR => ?_)
      iterate 3 refine D.pure rfl rfl rfl rfl rfl rfl ?_
      refine D.mapUpdate keyS (j := 0) rfl rfl rfl rfl rfl rfl rfl rfl rfl rfl (by kernel_rfl) ?_
      refine D.done [(0, [], _), (5, [], _), (17, [], _), (18, [], _), (19, [], _)] ⟨rfl, rfl, rfl, rfl, rfl, trivial⟩ (hR _ _ _ rfl ?_); clear hR R
      refine G.region rfl (fun R hR => ?_)
      refine D.i64 _ rfl rfl rfl rfl rfl (by omega) (by omega) rfl rfl ?_
      refine D.pure rfl rfl rfl rfl rfl rfl ?_
      refine D.done [(0, [], _), (5, [], _), (17, [], _), (18, [], _), (19, [], _)] ⟨rfl, rfl, rfl, rfl, rfl, trivial⟩ (hR _ _ _ rfl ?_); clear hR R
      refine G.eqL (L' := [.obj b16 (mapOf keyS.enc (atM (o.take (k + 1)) 0))]) (by rw [← hset]; rfl) ?_
      refine G.again (m' := o.length - (k + 1)) (by omega) (by (repeat (first | exact Mem.le.refl _ | assumption | (apply Mem.le.trans; rotate_left; assumption)))) (fr' := [(0, [], _), (5, [], _), (17, [], _), (18, [], _), (19, [], _)]) ⟨rfl, rfl, rfl, rfl, rfl, trivial⟩ ⟨k + 1, ⟨by omega, by rw [htk]; exact nodup_snoc hnd h38'⟩, rfl, rfl, rfl⟩
  · skip
    have hkl : o.length ≤ k := by
      have : ¬ k < o.length := by simpa using h20
      omega
    rw [List.take_of_length_le hkl] at hnd ⊢
    refine G.region rfl (fun R hR => ?_)
    iterate 3 refine D.pure rfl rfl rfl rfl rfl rfl ?_
    refine D.done [(0, [], _), (5, [], _), (35, [], _), (36, [], _), (37, [], _)] ⟨rfl, rfl, rfl, rfl, rfl, trivial⟩ (hR _ _ _ rfl ?_); clear hR R
    refine G.loop (fun fr C' L' μ => ∃ (k : Nat), (k ≤ l.length ∧ ∀ j, j < k → keptB l o j = true) ∧ fr = [(0, [], .slice A l.length c), (5, [], .map (some b16)), (35, [], .slice A l.length c), (36, [], .int .i64 l.length), (37, [], .int .i64 k)] ∧ L' = [.obj b16 (mapOf keyS.enc (atM o 0))] ∧ μ = l.length - k) (fr' := [(0, [], _), (5, [], _), (35, [], _), (36, [], _), (37, [], _)]) ⟨rfl, rfl, rfl, rfl, rfl, trivial⟩ ⟨0, ⟨Nat.zero_le _, fun j hj => by omega⟩, rfl, rfl, rfl⟩ (fun fr C1' L1' m hle1 hI => ?_)
    obtain ⟨k, ⟨hk2, hall⟩, rfl, rfl, rfl⟩ := hI
    refine G.region rfl (fun R hR => ?_)
    refine D.pure rfl rfl rfl rfl rfl rfl ?_
    refine D.done [(0, [], _), (5, [], _), (35, [], _), (36, [], _), (37, [], _), (38, [], _)] ⟨rfl, rfl, rfl, rfl, rfl, rfl, trivial⟩ (hR _ _ _ rfl ?_); clear hR R
    refine G.cond rfl (fun h38 => ?_) (fun h38 => ?_)
    · skip
      have hkl2 : k < l.length := by simpa using h38
      have hrx := (gR_at (l := l) (i := (k : Int)) (by omega) (by omega)).2
      refine G.region rfl (fun R hR => ?_)
      refine D.pure rfl rfl rfl rfl rfl rfl ?_
      refine D.index0 (hv.mono (by (repeat (first | exact Mem.le.refl _ | assumption | (apply Mem.le.trans; rotate_left; assumption))))) rfl rfl rfl rfl rfl rfl rfl rfl rfl rfl (by omega) hrx (fun _ => rfl) (fun p40 hp40 => ?_)
      refine D.loadP0 hp40 rfl rfl rfl rfl rfl rfl rfl rfl ?_
      refine D.alloc rfl rfl rfl rfl rfl (fun _ => rfl) (fun b11 => ?_)
      refine D.pure rfl rfl rfl rfl rfl rfl ?_
      refine D.store (j := 0) rfl rfl rfl rfl rfl rfl rfl rfl rfl rfl rfl rfl ?_
      refine D.done [(0, [], _), (5, [], _), (10, [], _), (11, [], _), (35, [], _), (36, [], _), (37, [], _)] ⟨rfl, rfl, rfl, rfl, rfl, rfl, rfl, trivial⟩ (hR _ _ _ rfl ?_); clear hR R
      refine G.region rfl (fun R hR => ?_)
      iterate 2 refine D.pure rfl rfl rfl rfl rfl rfl ?_
      refine D.loadL (.head _) rfl rfl rfl rfl rfl rfl rfl rfl rfl ?_
      refine D.lookupL keyS (.tail _ (.head _)) rfl rfl rfl rfl rfl rfl rfl rfl (by kernel_rfl) rfl (look_at o (gR l k).upper) rfl rfl ?_
      iterate 5 refine D.pure rfl rfl rfl rfl rfl rfl ?_
      refine D.done [(0, [], _), (5, [], _), (10, [], _), (11, [], _), (12, [], _), (13, [], _), (35, [], _), (36, [], _), (37, [], _)] ⟨rfl, rfl, rfl, rfl, rfl, rfl, rfl, rfl, rfl, trivial⟩ (hR _ _ _ rfl ?_); clear hR R
      refine G.region rfl (fun R hR => ?_)
      iterate 2 refine D.pure rfl rfl rfl rfl rfl rfl ?_
      refine D.loadL (.head _) rfl rfl rfl rfl rfl rfl rfl rfl rfl ?_
      refine D.lookupL keyS (.tail _ (.head _)) rfl rfl rfl rfl rfl rfl rfl rfl (by kernel_rfl) rfl (look_at o (gR l k).lower) rfl rfl ?_
      iterate 5 refine D.pure rfl rfl rfl rfl rfl rfl ?_
      refine D.done [(0, [], _), (5, [], _), (10, [], _), (12, [], _), (13, [], _), (14, [], _), (15, [], _), (35, [], _), (36, [], _), (37, [], _)] ⟨rfl, rfl, rfl, rfl, rfl, rfl, rfl, rfl, rfl, rfl, trivial⟩ (hR _ _ _ rfl ?_); clear hR R
      refine G.region rfl (fun R hR => ?_)
      iterate 5 refine D.pure rfl rfl rfl rfl rfl rfl ?_
      refine D.pickOr rfl rfl rfl rfl rfl rfl rfl rfl ?_
      iterate 3 refine D.pure rfl rfl rfl rfl rfl rfl ?_
      refine D.gives (fun _ => (carc_fn _ _ l k (hv.mono (by (repeat (first | exact Mem.le.refl _ | assumption | (apply Mem.le.trans; rotate_left; assumption))))))) rfl rfl rfl rfl rfl rfl rfl rfl rfl ?_
      iterate 4 refine D.pure rfl rfl rfl rfl rfl rfl ?_
      refine D.pickAnd rfl rfl rfl rfl rfl rfl rfl rfl ?_
      refine D.pickOr rfl rfl rfl rfl rfl rfl rfl rfl ?_
      refine D.done [(0, [], _), (5, [], _), (35, [], _), (36, [], _), (37, [], _), (71, [], _)] ⟨rfl, rfl, rfl, rfl, rfl, rfl, trivial⟩ (hR _ _ _ rfl ?_); clear hR R
      refine G.cond rfl (fun h71 => ?_) (fun h71 => ?_)
      · skip
        have hkp : keptB l o k = false := by
          unfold keptB
          cases h1 : decide ((gR l k).upper ∈ o) <;> cases h2 : decide ((gR l k).lower ∈ o) <;> try rfl
          rw [h1, h2] at h71
          simp at h71
          simp [h71.1, h71.2]
        have hno : ordB l o = false := by
          unfold ordB
          have : ((List.range l.length).all (keptB l o)) = false := by
            rw [List.all_eq_false]
            exact ⟨k, List.mem_range.2 hkl2, by rw [hkp]; decide⟩
          rw [this, Bool.and_false]
        refine G.region rfl (fun R hR => ?_)
        refine D.pure rfl rfl rfl rfl rfl rfl ?_
        refine D.done [(4, [], _)] ⟨rfl, trivial⟩ (hR _ _ _ rfl ?_); clear hR R
        refine G.retN (G.dropAll (G.fin1 rfl rfl ?_))
        exact ⟨by rw [hno], rfl⟩
      · skip
        have hkp : keptB l o k = true := by
          unfold keptB
          cases h1 : decide ((gR l k).upper ∈ o) <;> cases h2 : decide ((gR l k).lower ∈ o) <;> rw [h1, h2] at h71 <;> first
            | (simp at h71; done)
            | skip
          simp at h71
          simp
          cases h3 : arcB l k with
          | false => exact .inl rfl
          | true => exact .inr (by have := h71 h3; omega)
        refine G.region rfl (fun R hR => ?_)
        refine D.i64 _ rfl rfl rfl rfl rfl (by omega) (by omega) rfl rfl ?_
        refine D.pure rfl rfl rfl rfl rfl rfl ?_
        refine D.done [(0, [], _), (5, [], _), (35, [], _), (36, [], _), (37, [], _)] ⟨rfl, rfl, rfl, rfl, rfl, trivial⟩ (hR _ _ _ rfl ?_); clear hR R
        refine G.dropE 0 rfl ?_
        refine G.again (m' := l.length - (k + 1)) (by omega) (by (repeat (first | exact Mem.le.refl _ | assumption | (apply Mem.le.trans; rotate_left; assumption)))) (fr' := [(0, [], _), (5, [], _), (35, [], _), (36, [], _), (37, [], _)]) ⟨rfl, rfl, rfl, rfl, rfl, trivial⟩ ⟨k + 1, ⟨by omega, fun j hj => by
          by_cases e : j = k
          · rw [e]; exact hkp
          · exact hall j (by omega)⟩, rfl, rfl, rfl⟩
    · skip
      have hkl2 : l.length ≤ k := by
        have : ¬ k < l.length := by simpa using h38
        omega
      refine G.region rfl (fun R hR => ?_)
      refine D.pure rfl rfl rfl rfl rfl rfl ?_
      refine D.done [(4, [], _)] ⟨rfl, trivial⟩ (hR _ _ _ rfl ?_); clear hR R
      refine G.retN (G.dropAll (G.fin1 rfl rfl ?_))
      refine ⟨?_, rfl⟩
      have h1 : ((List.range l.length).all (keptB l o)) = true := by
        rw [List.all_eq_true]
        exact fun j hj => hall j (by have := List.mem_range.1 hj; omega)
      unfold ordB
      rw [h1]
      simp [hnd]
end Go.Proofs.YtjcienaflbhedaaGreatDoor
namespace Go.Proofs.YtjcienaflbhedaaGreatDoor
open Go Go.Jog
set_option maxRecDepth 100000

theorem indexI_fn (C : Mem) (v : Value) (xs : List Int) (g : FuncId) (cb : List Value) (p : Int → Bool) (hv : Sl C 1 v (xs.map encI)) (hcb : ∀ x ∈ xs, ∀ C', C.le C' → Gives cx.P g (.int .i64 x :: cb) C' (.bool (p x))) :
    Gives cx.P 52 [v, .func (.func g) #[] ⟨cb⟩] C (.int .i64 (findI p xs 0)) := by
  obtain ⟨A0, c0, rfl, hlx, hlx2, _⟩ := id hv
  have hmx : maxLen ≤ 9223372036854775807 := by simp [maxLen]
  simp only [List.length_map] at hv hlx hlx2 ⊢
  refine Fn.intro (by kernel_rfl) Tryz.func52 rfl 19 rfl rfl (fun w0 => ?_)
  refine G.region rfl (fun R hR => ?_)
  refine D.pure rfl rfl rfl rfl rfl rfl ?_
  refine D.done [(0, [], _), (1, [], _)] ⟨rfl, rfl, trivial⟩ (hR _ _ _ rfl ?_); clear hR R
  refine G.region rfl (fun R hR => ?_)
  iterate 3 refine D.pure rfl rfl rfl rfl rfl rfl ?_
  refine D.done [(0, [], _), (1, [], _), (7, [], _), (8, [], _)] ⟨rfl, rfl, rfl, rfl, trivial⟩ (hR _ _ _ rfl ?_); clear hR R
  refine G.loop (fun fr C' L' μ => ∃ (k : Nat), (k ≤ xs.length ∧ ∀ y ∈ xs.take k, p y = false) ∧ fr = [(0, [], .slice A0 xs.length c0), (1, [], .func (.func g) #[] ⟨cb⟩), (7, [], .int .i64 xs.length), (8, [], .int .i64 k)] ∧ L' = [] ∧ μ = xs.length - k) (fr' := [(0, [], _), (1, [], _), (7, [], _), (8, [], _)]) ⟨rfl, rfl, rfl, rfl, trivial⟩ ⟨0, ⟨Nat.zero_le _, by simp⟩, rfl, rfl, rfl⟩ (fun fr C0' L0' m hle0 hI => ?_)
  obtain ⟨k, ⟨hk, hall⟩, rfl, rfl, rfl⟩ := hI
  refine G.region rfl (fun R hR => ?_)
  refine D.pure rfl rfl rfl rfl rfl rfl ?_
  refine D.done [(0, [], _), (1, [], _), (7, [], _), (8, [], _), (9, [], _)] ⟨rfl, rfl, rfl, rfl, rfl, trivial⟩ (hR _ _ _ rfl ?_); clear hR R
  refine G.cond rfl (fun h9 => ?_) (fun h9 => ?_)
  · skip
    have hkl : k < xs.length := by simpa using h9
    obtain ⟨x, hx⟩ : ∃ x, xs[k]? = some x := ⟨xs[k], List.getElem?_eq_getElem hkl⟩
    have hrow : (xs.map encI)[k]? = some (encI x) := by rw [List.getElem?_map, hx]; rfl
    refine G.region rfl (fun R hR => ?_)
    iterate 2 refine D.pure rfl rfl rfl rfl rfl rfl ?_
    refine D.done [(0, [], _), (1, [], _), (5, [], _), (7, [], _), (8, [], _)] ⟨rfl, rfl, rfl, rfl, rfl, trivial⟩ (hR _ _ _ rfl ?_); clear hR R
    refine G.region rfl (fun R hR => ?_)
    iterate 3 refine D.pure rfl rfl rfl rfl rfl rfl ?_
    refine D.index0 (hv.mono (by (repeat (first | exact Mem.le.refl _ | assumption | (apply Mem.le.trans; rotate_left; assumption))))) rfl rfl rfl rfl rfl rfl rfl rfl rfl rfl (by omega) hrow (fun _ => rfl) (fun p14 hp14 => ?_)
    refine D.loadP0 hp14 rfl rfl rfl rfl rfl rfl rfl rfl ?_
    refine D.gives2 (hcb x (List.mem_of_getElem? hx) _ (by (repeat (first | exact Mem.le.refl _ | assumption | (apply Mem.le.trans; rotate_left; assumption))))) rfl rfl rfl rfl rfl rfl rfl (fun _ => rfl) ?_
    refine D.done [(0, [], _), (1, [], _), (5, [], _), (7, [], _), (8, [], _), (16, [], _)] ⟨rfl, rfl, rfl, rfl, rfl, rfl, trivial⟩ (hR _ _ _ rfl ?_); clear hR R
    refine G.cond rfl (fun h16 => ?_) (fun h16 => ?_)
    · skip
      refine G.region rfl (fun R hR => ?_)
      iterate 2 refine D.pure rfl rfl rfl rfl rfl rfl ?_
      refine D.done [(4, [], _)] ⟨rfl, trivial⟩ (hR _ _ _ rfl ?_); clear hR R
      refine G.retN (G.dropAll (G.fin1 rfl rfl ?_))
      refine ⟨?_, rfl⟩
      rw [findI_at (k := k) (j := 0) hx hall h16, Nat.zero_add]
    · skip
      refine G.region rfl (fun R hR => ?_)
      refine D.i64 _ rfl rfl rfl rfl rfl (by omega) (by omega) rfl rfl ?_
      refine D.pure rfl rfl rfl rfl rfl rfl ?_
      refine D.done [(0, [], _), (1, [], _), (7, [], _), (8, [], _)] ⟨rfl, rfl, rfl, rfl, trivial⟩ (hR _ _ _ rfl ?_); clear hR R
      refine G.again (m' := xs.length - (k + 1)) (by omega) hle0 (fr' := [(0, [], _), (1, [], _), (7, [], _), (8, [], _)]) ⟨rfl, rfl, rfl, rfl, trivial⟩ ⟨k + 1, ⟨by omega, fun y hy => by
        rw [List.take_add_one, hx] at hy
        rcases List.mem_append.1 hy with h6 | h6
        · exact hall y h6
        · simp only [Option.toList_some, List.mem_singleton] at h6
          subst h6
          exact h16⟩, rfl, rfl, rfl⟩
  · skip
    have hkl : xs.length ≤ k := by
      have : ¬ k < xs.length := by simpa using h9
      omega
    refine G.region rfl (fun R hR => ?_)
    refine D.pure rfl rfl rfl rfl rfl rfl ?_
    refine D.done [(4, [], _)] ⟨rfl, trivial⟩ (hR _ _ _ rfl ?_); clear hR R
    refine G.retN (G.dropAll (G.fin1 rfl rfl ?_))
    rw [List.take_of_length_le hkl] at hall
    exact ⟨by rw [findI_none hall], rfl⟩
theorem contI_fn (C : Mem) (v : Value) (xs : List Int) (g : FuncId) (cb : List Value) (p : Int → Bool) (hv : Sl C 1 v (xs.map encI)) (hcb : ∀ x ∈ xs, ∀ C', C.le C' → Gives cx.P g (.int .i64 x :: cb) C' (.bool (p x))) :
    Gives cx.P 22 [v, .func (.func g) #[] ⟨cb⟩] C (.bool (xs.any p)) := by
  obtain ⟨A0, c0, rfl, hlx, hlx2, _⟩ := id hv
  refine Fn.intro (by kernel_rfl) Tryz.func22 rfl 9 rfl rfl (fun w0 => ?_)
  refine G.region rfl (fun R hR => ?_)
  refine D.pure rfl rfl rfl rfl rfl rfl ?_
  refine D.done [(0, [], _), (1, [], _)] ⟨rfl, rfl, trivial⟩ (hR _ _ _ rfl ?_); clear hR R
  refine G.region rfl (fun R hR => ?_)
  iterate 2 refine D.pure rfl rfl rfl rfl rfl rfl ?_
  refine D.gives2 (indexI_fn _ _ xs g cb p hv hcb) rfl rfl rfl rfl rfl rfl rfl (fun _ => rfl) ?_
  iterate 2 refine D.pure rfl rfl rfl rfl rfl rfl ?_
  refine D.done [(4, [], _)] ⟨rfl, trivial⟩ (hR _ _ _ rfl ?_); clear hR R
  refine G.retN (G.dropAll (G.fin1 rfl rfl ?_))
  exact ⟨by rw [findI_any], rfl⟩
theorem cycle1_fn (C : Mem) (A : Option Addr) (n c b : Nat) (l : List Rel) (i : Int) (hv : Sl C 3 (.slice A n c) (l.map Rel.enc)) (hb : C b = some (.cells ⟨[.slice A n c]⟩ 28 (0, 0))) : Gives cx.P 23 [.int .i64 i, .pointer (some ⟨b, 0, none⟩)] C (.bool (!arcB l i)) := by
  refine Fn.intro (by kernel_rfl) Tryz.func23 rfl 8 rfl rfl (fun w0 => ?_)
  refine G.region rfl (fun R hR => ?_)
  refine D.pure rfl rfl rfl rfl rfl rfl ?_
  refine D.done [(0, [], _), (1, [], _)] ⟨rfl, rfl, trivial⟩ (hR _ _ _ rfl ?_); clear hR R
  refine G.region rfl (fun R hR => ?_)
  refine D.loadP0 (PtrTo.block (Mem.get hb (by (repeat (first | exact Mem.le.refl _ | assumption | (apply Mem.le.trans; rotate_left; assumption))))) _) rfl rfl rfl rfl rfl rfl rfl rfl ?_
  refine D.pure rfl rfl rfl rfl rfl rfl ?_
  refine D.gives2 (carc_fn _ _ l i (hv.mono (by (repeat (first | exact Mem.le.refl _ | assumption | (apply Mem.le.trans; rotate_left; assumption)))))) rfl rfl rfl rfl rfl rfl rfl (fun _ => rfl) ?_
  iterate 2 refine D.pure rfl rfl rfl rfl rfl rfl ?_
  refine D.done [(3, [], _)] ⟨rfl, trivial⟩ (hR _ _ _ rfl ?_); clear hR R
  refine G.retN (G.dropAll (G.fin1 rfl rfl ?_))
  exact ⟨rfl, rfl⟩
def cI (c : List Int) (k : Nat) : Int := c.getD k 0
theorem cI_at {c : List Int} {k : Nat} (h : k < c.length) : c[k]? = some (cI c k) := by
  unfold cI; rw [List.getD_eq_getElem?_getD, List.getElem?_eq_getElem h]; rfl
def lowsM (l : List Rel) (c : List Int) (k : Nat) : List Str := (c.take k).map fun i => (gR l i).lower
/-- The arc at a place leads on from the one before, from a unit that is new. -/
def stepB (l : List Rel) (c : List Int) (k : Nat) : Bool := decide ((gR l (cI c ((k + c.length - 1) % c.length))).upper = (gR l (cI c k)).lower) && !decide ((gR l (cI c k)).lower ∈ lowsM l c k)
def cycB (l : List Rel) (c : List Int) : Bool := !decide (c.length = 0) && c.all (arcB l) && (List.range c.length).all (stepB l c)
set_option maxHeartbeats 1000000 in
theorem ccycle_fn (C : Mem) (v vc : Value) (l : List Rel) (c : List Int) (hv : Sl C 3 v (l.map Rel.enc)) (hc : Sl C 1 vc (c.map encI)) (hcl : c.length ≤ 1000000) : Gives cx.P 12 [v, vc] C (.bool (cycB l c)) := by
  obtain ⟨A, ca, rfl, hl1, hl2, _⟩ := id hv
  obtain ⟨Ac, cc, rfl, hc1, hc2, _⟩ := id hc
  have hmx : maxLen ≤ 9223372036854775807 := by simp [maxLen]
  simp only [List.length_map] at hv hc hl1 hc1 ⊢
  refine Fn.intro (by kernel_rfl) Tryz.func12 rfl 63 rfl rfl (fun w0 => ?_)
  refine G.region rfl (fun R hR => ?_)
  refine D.box rfl rfl rfl rfl rfl rfl (fun _ => rfl) (fun b2 => ?_)
  refine D.pure rfl rfl rfl rfl rfl rfl ?_
  refine D.done [(1, [], _), (2, [], _)] ⟨rfl, rfl, trivial⟩ (hR _ _ _ rfl ?_); clear hR R
  refine G.freeze 0 rfl (fun Cg hgg hb2 => ?_)
  refine G.region rfl (fun R hR => ?_)
  iterate 6 refine D.pure rfl rfl rfl rfl rfl rfl ?_
  refine D.gives (fun _ => (contI_fn _ _ c 23 [.pointer (some ⟨b2, 0, none⟩)] (fun i => !arcB l i) (hc.mono (by (repeat (first | exact Mem.le.refl _ | assumption | (apply Mem.le.trans; rotate_left; assumption))))) (fun x _ C' hC => cycle1_fn C' A l.length ca b2 l x (hv.mono (by (repeat (first | exact Mem.le.refl _ | assumption | (apply Mem.le.trans; rotate_left; assumption))))) (Mem.get hb2 (by (repeat (first | exact Mem.le.refl _ | assumption | (apply Mem.le.trans; rotate_left; assumption)))))))) rfl rfl rfl rfl rfl rfl rfl rfl rfl ?_
  refine D.pickOr rfl rfl rfl rfl rfl rfl rfl rfl ?_
  refine D.done [(1, [], _), (2, [], _), (16, [], _)] ⟨rfl, rfl, rfl, trivial⟩ (hR _ _ _ rfl ?_); clear hR R
  refine G.cond rfl (fun h16 => ?_) (fun h16 => ?_)
  · skip
    have hno : cycB l c = false := by
      unfold cycB
      cases h1 : decide (c.length = 0) with
      | true => rfl
      | false =>
        have h2 : ¬ c.length = 0 := of_decide_eq_false h1
        have h3 : (c.any fun i => !arcB l i) = true := by simpa [h2] using h16
        obtain ⟨x, hx, hx2⟩ := List.any_eq_true.1 h3
        have h4 : c.all (arcB l) = false := by
          rw [List.all_eq_false]
          exact ⟨x, hx, by simpa using hx2⟩
        rw [h4]; rfl
    refine G.region rfl (fun R hR => ?_)
    refine D.pure rfl rfl rfl rfl rfl rfl ?_
    refine D.done [(4, [], _)] ⟨rfl, trivial⟩ (hR _ _ _ rfl ?_); clear hR R
    refine G.retN (G.dropAll (G.fin1 rfl rfl ?_))
    exact ⟨by rw [hno], rfl⟩
  · skip
    have h1 : ¬ c.length = 0 := by
      intro h
      simp [h] at h16
    have h3 : ∀ x ∈ c, arcB l x = true := by
      have h4 : (c.any fun i => !arcB l i) = false := by
        rw [Bool.or_eq_false_iff] at h16
        exact h16.2
      intro x hx
      have := List.any_eq_false.1 h4 x hx
      simpa using this
    have hin : ∀ k, k < c.length → 0 ≤ cI c k ∧ cI c k < l.length := fun k hk => arcB_in (h3 _ (List.mem_of_getElem? (cI_at hk)))
    have hcy : cycB l c = (List.range c.length).all (stepB l c) := by
      unfold cycB
      have e : c.all (arcB l) = true := List.all_eq_true.2 h3
      rw [e]
      simp [h1]
    refine G.region rfl (fun R hR => ?_)
    refine D.makeMap keyS rfl rfl rfl rfl (fun _ => rfl) (fun b17 => ?_)
    refine D.pure rfl rfl rfl rfl rfl rfl ?_
    refine D.done [(1, [], _), (2, [], _), (5, [], _)] ⟨rfl, rfl, rfl, trivial⟩ (hR _ _ _ rfl ?_); clear hR R
    refine G.region rfl (fun R hR => ?_)
    iterate 3 refine D.pure rfl rfl rfl rfl rfl rfl ?_
    refine D.done [(1, [], _), (2, [], _), (5, [], _), (18, [], _), (19, [], _), (20, [], _)] ⟨rfl, rfl, rfl, rfl, rfl, rfl, trivial⟩ (hR _ _ _ rfl ?_); clear hR R
    refine G.loop (fun fr C' L' μ => ∃ (k : Nat) (ms : List (Str × Value)), (k ≤ c.length ∧ (∀ j, j < k → stepB l c j = true) ∧ ∀ s, mget ms s = if s ∈ lowsM l c k then some (.bool true) else none) ∧ fr = [(1, [], .slice Ac c.length cc), (2, [], .pointer (some ⟨b2, 0, none⟩)), (5, [], .map (some b17)), (18, [], .slice Ac c.length cc), (19, [], .int .i64 c.length), (20, [], .int .i64 k)] ∧ L' = [.obj b17 (mapOf keyS.enc ms)] ∧ μ = c.length - k) (fr' := [(1, [], _), (2, [], _), (5, [], _), (18, [], _), (19, [], _), (20, [], _)]) ⟨rfl, rfl, rfl, rfl, rfl, rfl, trivial⟩ ⟨0, [], ⟨Nat.zero_le _, fun j hj => by omega, fun s => by simp [lowsM, mget]⟩, rfl, rfl, rfl⟩ (fun fr C0' L0' m hle0 hI => ?_)
    obtain ⟨k, ms, ⟨hk, hall, hms⟩, rfl, rfl, rfl⟩ := hI
    refine G.region rfl (fun R hR => ?_)
    refine D.pure rfl rfl rfl rfl rfl rfl ?_
    refine D.done [(1, [], _), (2, [], _), (5, [], _), (18, [], _), (19, [], _), (20, [], _), (21, [], _)] ⟨rfl, rfl, rfl, rfl, rfl, rfl, rfl, trivial⟩ (hR _ _ _ rfl ?_); clear hR R
    refine G.cond rfl (fun h21 => ?_) (fun h21 => ?_)
    · skip
      have hkl : k < c.length := by simpa using h21
      have hrow : (c.map encI)[k]? = some (encI (cI c k)) := by rw [List.getElem?_map, cI_at hkl]; rfl
      have hmod : (k + c.length - 1) % c.length < c.length := Nat.mod_lt _ (by omega)
      have hrow2 : (c.map encI)[(k + c.length - 1) % c.length]? = some (encI (cI c ((k + c.length - 1) % c.length))) := by rw [List.getElem?_map, cI_at hmod]; rfl
      obtain ⟨i0, i1⟩ := hin k hkl
      obtain ⟨j0, j1⟩ := hin _ hmod
      have hlook : lookV (.bool false) false (mget ms (gR l (cI c k)).lower) = .bool (decide ((gR l (cI c k)).lower ∈ lowsM l c k)) := by
        rw [hms]
        by_cases h : (gR l (cI c k)).lower ∈ lowsM l c k
        · simp [h, lookV]
        · simp [h, lookV]
      refine G.region rfl (fun R hR => ?_)
      refine D.pure rfl rfl rfl rfl rfl rfl ?_
      refine D.index0 (hc.mono (by (repeat (first | exact Mem.le.refl _ | assumption | (apply Mem.le.trans; rotate_left; assumption))))) rfl rfl rfl rfl rfl rfl rfl rfl rfl rfl (by omega) hrow (fun _ => rfl) (fun p23 hp23 => ?_)
      refine D.loadP0 hp23 rfl rfl rfl rfl rfl rfl rfl rfl ?_
      iterate 2 refine D.pure rfl rfl rfl rfl rfl rfl ?_
      refine D.done [(1, [], _), (2, [], _), (5, [], _), (6, [], _), (7, [], _), (18, [], _), (19, [], _), (20, [], _)] ⟨rfl, rfl, rfl, rfl, rfl, rfl, rfl, rfl, trivial⟩ (hR _ _ _ rfl ?_); clear hR R
      refine G.region rfl (fun R hR => ?_)
      iterate 4 refine D.pure rfl rfl rfl rfl rfl rfl ?_
      refine D.i64 (((k + c.length : Nat) : Int)) rfl rfl rfl rfl (by omega) (by omega) (by omega) rfl rfl ?_
      refine D.i64 (((k + c.length - 1 : Nat) : Int)) rfl rfl rfl rfl (by omega) (by omega) (by omega) rfl rfl ?_
      iterate 2 refine D.pure rfl rfl rfl rfl rfl rfl ?_
      refine D.rem rfl rfl rfl rfl rfl rfl (by omega) (by omega) rfl rfl ?_
      refine D.index0 (hc.mono (by (repeat (first | exact Mem.le.refl _ | assumption | (apply Mem.le.trans; rotate_left; assumption))))) rfl rfl rfl rfl rfl rfl rfl rfl rfl rfl (by omega) hrow2 (fun _ => rfl) (fun p34 hp34 => ?_)
      refine D.loadP0 hp34 rfl rfl rfl rfl rfl rfl rfl rfl ?_
      refine D.pure rfl rfl rfl rfl rfl rfl ?_
      refine D.done [(1, [], _), (2, [], _), (5, [], _), (7, [], _), (8, [], _), (18, [], _), (19, [], _), (20, [], _)] ⟨rfl, rfl, rfl, rfl, rfl, rfl, rfl, rfl, trivial⟩ (hR _ _ _ rfl ?_); clear hR R
      refine G.draw [0, 1, 2, 3, 4, 5, 6, 7, 8, 9, 10, 11, 12, 13, 14, 15, 16, 17, 18, 19] [] rfl (by kernel_rfl) (fun R hB hR => ?_)
      refine D.loadP0 (PtrTo.block (Mem.get hb2 (by (repeat (first | exact Mem.le.refl _ | assumption | (apply Mem.le.trans; rotate_left; assumption))))) _) rfl rfl rfl rfl rfl rfl rfl rfl ?_
      refine D.pure rfl rfl rfl rfl rfl rfl ?_
      refine D.index0 (hv.mono (by (repeat (first | exact Mem.le.refl _ | assumption | (apply Mem.le.trans; rotate_left; assumption))))) rfl rfl rfl rfl rfl rfl rfl rfl rfl rfl (by omega) (gR_at j0 j1).2 (fun _ => rfl) (fun p38 hp38 => ?_)
      refine D.fieldP0 hp38 rfl rfl rfl rfl rfl rfl rfl rfl rfl rfl (fun _ => rfl) (fun p39 hp39 => ?_)
      refine D.loadP0 hp39 rfl rfl rfl rfl rfl rfl rfl rfl ?_
      refine D.loadP0 (PtrTo.block (Mem.get hb2 (by (repeat (first | exact Mem.le.refl _ | assumption | (apply Mem.le.trans; rotate_left; assumption))))) _) rfl rfl rfl rfl rfl rfl rfl rfl ?_
      refine D.pure rfl rfl rfl rfl rfl rfl ?_
      refine D.index0 (hv.mono (by (repeat (first | exact Mem.le.refl _ | assumption | (apply Mem.le.trans; rotate_left; assumption))))) rfl rfl rfl rfl rfl rfl rfl rfl rfl rfl (by omega) (gR_at i0 i1).2 (fun _ => rfl) (fun p43 hp43 => ?_)
      refine D.fieldP0 hp43 rfl rfl rfl rfl rfl rfl rfl rfl rfl rfl (fun _ => rfl) (fun p44 hp44 => ?_)
      refine D.loadP0 hp44 rfl rfl rfl rfl rfl rfl rfl rfl ?_
      iterate 3 refine D.pure rfl rfl rfl rfl rfl rfl ?_
      refine D.loadP rfl rfl rfl rfl rfl rfl (fun _ => PtrTo.block (Mem.get hb2 (by (repeat (first | exact Mem.le.refl _ | assumption | (apply Mem.le.trans; rotate_left; assumption))))) _) rfl rfl rfl ?_
      refine D.pure rfl rfl rfl rfl rfl rfl ?_
      refine D.index rfl rfl rfl rfl rfl rfl rfl rfl rfl rfl (fun hg => ⟨(hv.mono (by (repeat (first | exact Mem.le.refl _ | assumption | (apply Mem.le.trans; rotate_left; assumption))))), by omega, (gR_at i0 i1).2⟩) (fun _ => rfl) rfl (fun p51 hp51 => ?_)
      refine D.fieldP rfl rfl rfl rfl rfl rfl rfl rfl rfl rfl hp51 (fun _ => rfl) rfl (fun p52 hp52 => ?_)
      refine D.loadP rfl rfl rfl rfl rfl rfl hp52 rfl rfl rfl ?_
      refine D.lookupL keyS (.head _) rfl rfl rfl rfl rfl rfl rfl rfl (by kernel_rfl) rfl hlook rfl rfl ?_
      refine D.pickOr rfl rfl rfl rfl rfl rfl rfl rfl ?_
      refine D.done [(1, [], _), (2, [], _), (5, [], _), (7, [], _), (18, [], _), (19, [], _), (20, [], _), (55, [], _)] ⟨rfl, rfl, rfl, rfl, rfl, rfl, rfl, rfl, trivial⟩ (hR _ _ _ rfl ?_); clear hR hB R
      refine G.cond rfl (fun h55 => ?_) (fun h55 => ?_)
      · skip
        have hst : stepB l c k = false := by
          unfold stepB
          by_cases e : (gR l (cI c ((k + c.length - 1) % c.length))).upper = (gR l (cI c k)).lower
          · simp [e] at h55
            simp [e, h55]
          · simp [e]
        have hno : cycB l c = false := by
          rw [hcy, List.all_eq_false]
          exact ⟨k, List.mem_range.2 hkl, by rw [hst]; decide⟩
        refine G.region rfl (fun R hR => ?_)
        refine D.pure rfl rfl rfl rfl rfl rfl ?_
        refine D.done [(4, [], _)] ⟨rfl, trivial⟩ (hR _ _ _ rfl ?_); clear hR R
        refine G.retN (G.dropAll (G.fin1 rfl rfl ?_))
        exact ⟨by rw [hno], rfl⟩
      · skip
        have hst : stepB l c k = true := by
          unfold stepB
          simp at h55
          simp [h55.1, h55.2]
        refine G.region rfl (fun R hR => ?_)
        refine D.pure rfl rfl rfl rfl rfl rfl ?_
        refine D.loadP0 (PtrTo.block (Mem.get hb2 (by (repeat (first | exact Mem.le.refl _ | assumption | (apply Mem.le.trans; rotate_left; assumption))))) _) rfl rfl rfl rfl rfl rfl rfl rfl ?_
        refine D.pure rfl rfl rfl rfl rfl rfl ?_
        refine D.index0 (hv.mono (by (repeat (first | exact Mem.le.refl _ | assumption | (apply Mem.le.trans; rotate_left; assumption))))) rfl rfl rfl rfl rfl rfl rfl rfl rfl rfl (by omega) (gR_at i0 i1).2 (fun _ => rfl) (fun p59 hp59 => ?_)
        refine D.fieldP0 hp59 rfl rfl rfl rfl rfl rfl rfl rfl rfl rfl (fun _ => rfl) (fun p60 hp60 => ?_)
        refine D.loadP0 hp60 rfl rfl rfl rfl rfl rfl rfl rfl ?_
        refine D.mapUpdate keyS (j := 0) rfl rfl rfl rfl rfl rfl rfl rfl rfl rfl (by kernel_rfl) ?_
        refine D.done [(1, [], _), (2, [], _), (5, [], _), (18, [], _), (19, [], _), (20, [], _)] ⟨rfl, rfl, rfl, rfl, rfl, rfl, trivial⟩ (hR _ _ _ rfl ?_); clear hR R
        refine G.region rfl (fun R hR => ?_)
        refine D.i64 _ rfl rfl rfl rfl rfl (by omega) (by omega) rfl rfl ?_
        refine D.pure rfl rfl rfl rfl rfl rfl ?_
        refine D.done [(1, [], _), (2, [], _), (5, [], _), (18, [], _), (19, [], _), (20, [], _)] ⟨rfl, rfl, rfl, rfl, rfl, rfl, trivial⟩ (hR _ _ _ rfl ?_); clear hR R
        refine G.again (m' := c.length - (k + 1)) (by omega) (by (repeat (first | exact Mem.le.refl _ | assumption | (apply Mem.le.trans; rotate_left; assumption)))) (fr' := [(1, [], _), (2, [], _), (5, [], _), (18, [], _), (19, [], _), (20, [], _)]) ⟨rfl, rfl, rfl, rfl, rfl, rfl, trivial⟩ ⟨k + 1, mset ms (gR l (cI c k)).lower (.bool true), ⟨by omega, fun j hj => by
          by_cases e : j = k
          · rw [e]; exact hst
          · exact hall j (by omega), fun s => by
          have e1 : lowsM l c (k + 1) = lowsM l c k ++ [(gR l (cI c k)).lower] := by
            unfold lowsM
            rw [List.take_add_one, cI_at hkl]; simp
          by_cases e : (gR l (cI c k)).lower = s
          · subst e
            rw [mget_mset_same, e1]; simp
          · rw [mget_mset_other e, hms, e1]
            have e2 : ¬ s = (gR l (cI c k)).lower := fun h => e h.symm
            simp [e2]⟩, rfl, rfl, rfl⟩
    · skip
      have hkl : c.length ≤ k := by
        have : ¬ k < c.length := by simpa using h21
        omega
      refine G.region rfl (fun R hR => ?_)
      refine D.pure rfl rfl rfl rfl rfl rfl ?_
      refine D.done [(4, [], _)] ⟨rfl, trivial⟩ (hR _ _ _ rfl ?_); clear hR R
      refine G.retN (G.dropAll (G.fin1 rfl rfl ?_))
      refine ⟨?_, rfl⟩
      have h5 : (List.range c.length).all (stepB l c) = true := by
        rw [List.all_eq_true]
        exact fun j hj => hall j (by have := List.mem_range.1 hj; omega)
      rw [hcy, h5]
end Go.Proofs.YtjcienaflbhedaaGreatDoor
namespace Go.Proofs.YtjcienaflbhedaaGreatDoor
open Go Go.Jog
set_option maxRecDepth 100000

def kl : List Rel := [⟨1, [66], [65]⟩, ⟨1, [67], [66]⟩, ⟨1, [67], [65]⟩]
theorem kn1 (C : Mem) : Gives cx.P 7 [strV [51, 47, 54]] C (.bool false) := by
  have h := number_fn C [51, 47, 54] (by decide)
  rw [show (readM [51, 47, 54]).isSome = false by decide +kernel] at h
  exact h
theorem kn2 (C : Mem) : Gives cx.P 7 [strV [45, 51, 47, 50]] C (.bool true) := by
  have h := number_fn C [45, 51, 47, 50] (by decide)
  rw [show (readM [45, 51, 47, 50]).isSome = true by decide +kernel] at h
  exact h
theorem ki1 (C : Mem) (v vb : Value) (hv : Sl C 3 v (kl.map Rel.enc)) (hb : Sl C 1 vb (([0, 1] : List Int).map encI)) : Gives cx.P 15 [v, .int .i64 2, vb] C (.bool true) := by
  have h := implied_fn C v vb kl 2 [0, 1] hv hb
  rw [show impB kl 2 [0, 1] = true by decide +kernel] at h
  exact h
theorem ki2 (C : Mem) (v vb : Value) (hv : Sl C 3 v (kl.map Rel.enc)) (hb : Sl C 1 vb (([1, 0] : List Int).map encI)) : Gives cx.P 15 [v, .int .i64 2, vb] C (.bool false) := by
  have h := implied_fn C v vb kl 2 [1, 0] hv hb
  rw [show impB kl 2 [1, 0] = false by decide +kernel] at h
  exact h
theorem ko1 (C : Mem) (v vo : Value) (hv : Sl C 3 v (kl.map Rel.enc)) (ho : Sl C 1 vo (([[65], [66], [67]] : List Str).map encS)) : Gives cx.P 11 [v, vo] C (.bool true) := by
  have h := order_fn C v vo kl [[65], [66], [67]] hv ho
  rw [show ordB kl [[65], [66], [67]] = true by decide +kernel] at h
  exact h
theorem ko2 (C : Mem) (v vo : Value) (hv : Sl C 3 v (kl.map Rel.enc)) (ho : Sl C 1 vo (([[66], [65], [67]] : List Str).map encS)) : Gives cx.P 11 [v, vo] C (.bool false) := by
  have h := order_fn C v vo kl [[66], [65], [67]] hv ho
  rw [show ordB kl [[66], [65], [67]] = false by decide +kernel] at h
  exact h
def kr : List (List Str × Str) := [([[45, 49]], [45, 49]), ([[49]], [51])]
theorem kp1 (C : Mem) (hT : Tabs C) (v vo vp : Value) (A : Option Addr) (n c : Nat) (hv : RowsIn C v kr) (ho : Sl C 1 vo (([[49]] : List Str).map encS)) (hp : Sl C 1 vp (([[49]] : List Str).map encS)) (hd : Sl C 1 (.slice A n c) (([[49], [48]] : List Str).map encS)) : Gives cx.P 16 [v, vo, vp, .agg ⟨[.slice A n c]⟩] C (.bool true) := by
  have h := optimal_fn C hT v vo vp A n c kr [[49]] [[49]] [[49], [48]] hv ho hp hd (by decide) (by decide) (by decide) (by decide) (by decide) (by decide) (by decide) (by decide)
  rw [show optM kr [[49]] [[49]] [[49], [48]] = true by decide +kernel] at h
  exact h
theorem kp2 (C : Mem) (hT : Tabs C) (v vo vp : Value) (A : Option Addr) (n c : Nat) (hv : RowsIn C v kr) (ho : Sl C 1 vo (([[49]] : List Str).map encS)) (hp : Sl C 1 vp (([[50]] : List Str).map encS)) (hd : Sl C 1 (.slice A n c) (([[49], [48]] : List Str).map encS)) : Gives cx.P 16 [v, vo, vp, .agg ⟨[.slice A n c]⟩] C (.bool false) := by
  have h := optimal_fn C hT v vo vp A n c kr [[49]] [[50]] [[49], [48]] hv ho hp hd (by decide) (by decide) (by decide) (by decide) (by decide) (by decide) (by decide) (by decide)
  rw [show optM kr [[49]] [[50]] [[49], [48]] = false by decide +kernel] at h
  exact h
set_option maxHeartbeats 2000000 in
theorem known_fn (C : Mem) (hT : Tabs C) : Gives cx.P 6 [] C (.bool true) := by
  refine Fn.intro (by kernel_rfl) Tryz.func6 rfl 63 rfl rfl (fun w0 => ?_)
  refine G.region rfl (fun R hR => ?_)
  refine D.pure rfl rfl rfl rfl rfl rfl ?_
  refine D.done [] trivial (hR _ _ _ rfl ?_); clear hR R
  refine G.region rfl (fun R hR => ?_)
  refine D.build (Rel.mk 1 [66] [65]).enc rfl rfl rfl rfl rfl rfl rfl rfl ?_
  refine D.build (Rel.mk 1 [67] [66]).enc rfl rfl rfl rfl rfl rfl rfl rfl ?_
  refine D.build (Rel.mk 1 [67] [65]).enc rfl rfl rfl rfl rfl rfl rfl rfl ?_
  refine D.buildSlice (kl.map Rel.enc) rfl rfl rfl rfl rfl rfl rfl rfl rfl rfl rfl rfl (fun _ => rfl) (fun p8 C8 hle8 hs8 => ?_)
  refine D.pure rfl rfl rfl rfl rfl rfl ?_
  refine D.done [(1, [], _)] ⟨rfl, trivial⟩ (hR _ _ _ rfl ?_); clear hR R
  refine G.region rfl (fun R hR => ?_)
  refine D.buildSliceV [[strV [45, 49]]] rfl rfl rfl rfl rfl rfl rfl rfl rfl rfl rfl rfl (fun _ => rfl) (fun b9 C9 hle9 hs9 => ?_)
  refine D.build (RV.mk (some ⟨b9, 0, none⟩) 1 1 [45, 49]).enc rfl rfl rfl rfl rfl rfl rfl rfl ?_
  refine D.buildSliceV [[strV [49]]] rfl rfl rfl rfl rfl rfl rfl rfl rfl rfl rfl rfl (fun _ => rfl) (fun b11 C11 hle11 hs11 => ?_)
  refine D.build (RV.mk (some ⟨b11, 0, none⟩) 1 1 [51]).enc rfl rfl rfl rfl rfl rfl rfl rfl ?_
  refine D.buildSlice [(RV.mk (some ⟨b9, 0, none⟩) 1 1 [45, 49]).enc, (RV.mk (some ⟨b11, 0, none⟩) 1 1 [51]).enc] rfl rfl rfl rfl rfl rfl rfl rfl rfl rfl rfl rfl (fun _ => rfl) (fun p13 C13 hle13 hs13 => ?_)
  refine D.pure rfl rfl rfl rfl rfl rfl ?_
  refine D.done [(1, [], _), (2, [], _)] ⟨rfl, rfl, trivial⟩ (hR _ _ _ rfl ?_); clear hR R
  have hri : RowsIn C13 p13 kr := by
    refine ⟨[⟨some ⟨b9, 0, none⟩, 1, 1, [45, 49]⟩, ⟨some ⟨b11, 0, none⟩, 1, 1, [51]⟩], hs13, rfl, ?_⟩
    intro i r row hr hw
    match i with
    | 0 => cases hr; cases hw; exact ⟨hs9.mono (by (repeat (first | exact Mem.le.refl _ | assumption | (apply Mem.le.trans; rotate_left; assumption)))), rfl⟩
    | 1 => cases hr; cases hw; exact ⟨hs11.mono (by (repeat (first | exact Mem.le.refl _ | assumption | (apply Mem.le.trans; rotate_left; assumption)))), rfl⟩
    | i + 2 => simp at hr
  refine G.region rfl (fun R hR => ?_)
  refine D.buildSlice [[strV [49]]] rfl rfl rfl rfl rfl rfl rfl rfl rfl rfl rfl rfl (fun _ => rfl) (fun p14 C14 hle14 hs14 => ?_)
  refine D.pure rfl rfl rfl rfl rfl rfl ?_
  refine D.done [(1, [], _), (2, [], _), (3, [], _)] ⟨rfl, rfl, rfl, trivial⟩ (hR _ _ _ rfl ?_); clear hR R
  refine G.region rfl (fun R hR => ?_)
  refine D.buildSliceV [[strV [49]], [strV [48]]] rfl rfl rfl rfl rfl rfl rfl rfl rfl rfl rfl rfl (fun _ => rfl) (fun b15 C15 hle15 hs15 => ?_)
  refine D.build [.slice (some ⟨b15, 0, none⟩) 2 2] rfl rfl rfl rfl rfl rfl rfl rfl ?_
  refine D.alloc rfl rfl rfl rfl rfl (fun _ => rfl) (fun b4 => ?_)
  refine D.store (j := 0) rfl rfl rfl rfl rfl rfl rfl rfl rfl rfl rfl rfl ?_
  refine D.done [(1, [], _), (2, [], _), (3, [], _), (4, [], _)] ⟨rfl, rfl, rfl, rfl, trivial⟩ (hR _ _ _ rfl ?_); clear hR R
  refine G.region rfl (fun R hR => ?_)
  refine D.gives2 (kn1 _) rfl rfl rfl rfl rfl rfl rfl (fun _ => rfl) ?_
  iterate 2 refine D.pure rfl rfl rfl rfl rfl rfl ?_
  refine D.gives (fun _ => (kn2 _)) rfl rfl rfl rfl rfl rfl rfl rfl rfl ?_
  refine D.pickAnd rfl rfl rfl rfl rfl rfl rfl rfl ?_
  iterate 2 refine D.pure rfl rfl rfl rfl rfl rfl ?_
  refine D.buildSliceG [[.int .i64 0], [.int .i64 1]] rfl rfl rfl rfl rfl rfl rfl rfl rfl rfl rfl rfl (fun _ => rfl) rfl rfl (fun b24 C24 hle24 hs24 => ?_)
  refine D.gives (fun _ => (ki1 _ _ _ (hs8.mono (by (repeat (first | exact Mem.le.refl _ | assumption | (apply Mem.le.trans; rotate_left; assumption))))) ((hs24 ⟨rfl, trivial⟩).mono (by (repeat (first | exact Mem.le.refl _ | assumption | (apply Mem.le.trans; rotate_left; assumption))))))) rfl rfl rfl rfl rfl rfl rfl rfl rfl ?_
  refine D.pickAnd rfl rfl rfl rfl rfl rfl rfl rfl ?_
  iterate 2 refine D.pure rfl rfl rfl rfl rfl rfl ?_
  refine D.buildSliceG [[.int .i64 1], [.int .i64 0]] rfl rfl rfl rfl rfl rfl rfl rfl rfl rfl rfl rfl (fun _ => rfl) rfl rfl (fun b29 C29 hle29 hs29 => ?_)
  refine D.gives (fun _ => (ki2 _ _ _ (hs8.mono (by (repeat (first | exact Mem.le.refl _ | assumption | (apply Mem.le.trans; rotate_left; assumption))))) ((hs29 ⟨rfl, trivial⟩).mono (by (repeat (first | exact Mem.le.refl _ | assumption | (apply Mem.le.trans; rotate_left; assumption))))))) rfl rfl rfl rfl rfl rfl rfl rfl rfl ?_
  refine D.pure rfl rfl rfl rfl rfl rfl ?_
  refine D.pickAnd rfl rfl rfl rfl rfl rfl rfl rfl ?_
  iterate 2 refine D.pure rfl rfl rfl rfl rfl rfl ?_
  refine D.buildSliceG [[strV [65]], [strV [66]], [strV [67]]] rfl rfl rfl rfl rfl rfl rfl rfl rfl rfl rfl rfl (fun _ => rfl) rfl rfl (fun b35 C35 hle35 hs35 => ?_)
  refine D.gives (fun _ => (ko1 _ _ _ (hs8.mono (by (repeat (first | exact Mem.le.refl _ | assumption | (apply Mem.le.trans; rotate_left; assumption))))) ((hs35 ⟨rfl, trivial⟩).mono (by (repeat (first | exact Mem.le.refl _ | assumption | (apply Mem.le.trans; rotate_left; assumption))))))) rfl rfl rfl rfl rfl rfl rfl rfl rfl ?_
  refine D.pickAnd rfl rfl rfl rfl rfl rfl rfl rfl ?_
  iterate 2 refine D.pure rfl rfl rfl rfl rfl rfl ?_
  refine D.buildSliceG [[strV [66]], [strV [65]], [strV [67]]] rfl rfl rfl rfl rfl rfl rfl rfl rfl rfl rfl rfl (fun _ => rfl) rfl rfl (fun b40 C40 hle40 hs40 => ?_)
  refine D.gives (fun _ => (ko2 _ _ _ (hs8.mono (by (repeat (first | exact Mem.le.refl _ | assumption | (apply Mem.le.trans; rotate_left; assumption))))) ((hs40 ⟨rfl, trivial⟩).mono (by (repeat (first | exact Mem.le.refl _ | assumption | (apply Mem.le.trans; rotate_left; assumption))))))) rfl rfl rfl rfl rfl rfl rfl rfl rfl ?_
  refine D.pure rfl rfl rfl rfl rfl rfl ?_
  refine D.pickAnd rfl rfl rfl rfl rfl rfl rfl rfl ?_
  iterate 4 refine D.pure rfl rfl rfl rfl rfl rfl ?_
  refine D.loadL (.head _) rfl rfl rfl rfl rfl rfl rfl rfl rfl ?_
  refine D.gives (fun _ => (kp1 _ (hT.mono (by (repeat (first | exact Mem.le.refl _ | assumption | (apply Mem.le.trans; rotate_left; assumption))))) _ _ _ _ _ _ (hri.mono (by (repeat (first | exact Mem.le.refl _ | assumption | (apply Mem.le.trans; rotate_left; assumption))))) (hs14.mono (by (repeat (first | exact Mem.le.refl _ | assumption | (apply Mem.le.trans; rotate_left; assumption))))) (hs14.mono (by (repeat (first | exact Mem.le.refl _ | assumption | (apply Mem.le.trans; rotate_left; assumption))))) (hs15.mono (by (repeat (first | exact Mem.le.refl _ | assumption | (apply Mem.le.trans; rotate_left; assumption))))))) rfl rfl rfl rfl rfl rfl rfl rfl rfl ?_
  refine D.pickAnd rfl rfl rfl rfl rfl rfl rfl rfl ?_
  iterate 3 refine D.pure rfl rfl rfl rfl rfl rfl ?_
  refine D.buildSliceG [[strV [50]]] rfl rfl rfl rfl rfl rfl rfl rfl rfl rfl rfl rfl (fun _ => rfl) rfl rfl (fun b54 C54 hle54 hs54 => ?_)
  refine D.loadL (.head _) rfl rfl rfl rfl rfl rfl rfl rfl rfl ?_
  refine D.gives (fun _ => (kp2 _ (hT.mono (by (repeat (first | exact Mem.le.refl _ | assumption | (apply Mem.le.trans; rotate_left; assumption))))) _ _ _ _ _ _ (hri.mono (by (repeat (first | exact Mem.le.refl _ | assumption | (apply Mem.le.trans; rotate_left; assumption))))) (hs14.mono (by (repeat (first | exact Mem.le.refl _ | assumption | (apply Mem.le.trans; rotate_left; assumption))))) ((hs54 ⟨rfl, trivial⟩).mono (by (repeat (first | exact Mem.le.refl _ | assumption | (apply Mem.le.trans; rotate_left; assumption))))) (hs15.mono (by (repeat (first | exact Mem.le.refl _ | assumption | (apply Mem.le.trans; rotate_left; assumption))))))) rfl rfl rfl rfl rfl rfl rfl rfl rfl ?_
  refine D.pure rfl rfl rfl rfl rfl rfl ?_
  refine D.pickAnd rfl rfl rfl rfl rfl rfl rfl rfl ?_
  refine D.pure rfl rfl rfl rfl rfl rfl ?_
  refine D.build nil3 rfl rfl rfl rfl rfl rfl rfl rfl ?_
  refine D.gives (fun _ => (map0_fn _)) rfl rfl rfl rfl rfl rfl rfl rfl rfl ?_
  refine D.pickAnd rfl rfl rfl rfl rfl rfl rfl rfl ?_
  refine D.pure rfl rfl rfl rfl rfl rfl ?_
  refine D.done [(0, [], _)] ⟨rfl, trivial⟩ (hR _ _ _ rfl ?_); clear hR R
  refine G.retN (G.dropAll (G.fin1 rfl rfl ?_))
  exact ⟨rfl, rfl⟩
end Go.Proofs.YtjcienaflbhedaaGreatDoor
namespace Go.Proofs.YtjcienaflbhedaaGreatDoor
open Go Go.Jog Go.ChangeShapes Go.WideShapes Go.ChangeAt Go.RowKit
set_option maxRecDepth 100000

theorem own : ownKnob Tryz.prog.godebug = none := by kernel_rfl
section
variable {H : Type} {enc : TypeId × Value → H} {W : World} {spare : Nat → Bool} {held : Bool}
theorem u8_of {n : Nat} {c : Value} {y : DataW H × List MemPlace} (h : DataW.trod enc Tryz.prog W 0 spare held n 5 [c] = some y) : ∃ b : UInt8, c = .int .u8 b.toNat := by
  obtain ⟨m, h1, _, h3⟩ := DataW.trod_int Tryz.underlying5 h
  simp only [List.cons.injEq, and_true] at h1
  subst h1
  have hb : 0 ≤ m ∧ m < 256 := by
    simp [Lit.wf, IntKind.min, IntKind.max, IntKind.signed, IntKind.bits] at h3
    omega
  refine ⟨UInt8.ofNat m.toNat, ?_⟩
  congr 1
  simp only [UInt8.toNat_ofNat']
  omega
theorem seen_of {n : Nat} {cs : List Value} {y : DataW H × List MemPlace} (h : DataW.trod enc Tryz.prog W 0 spare held n 60 cs = some y) : ∃ z : Seen, cs = z.enc := by
  obtain ⟨y0, y1, y2, n', _, hl, h0, h1, h2⟩ := Go.Deep.trod_struct3 Tryz.underlying60 h
  have hc : Tryz.prog.cellsOf 60 = 3 := by kernel_rfl
  have hi : Tryz.prog.cellsOf 5 = 1 := by kernel_rfl
  rw [hc] at hl
  match cs, hl with
  | [c0, c1, c2], _ =>
    simp only [hi] at h0 h1 h2
    obtain ⟨b0, rfl⟩ := u8_of h0
    obtain ⟨b1, rfl⟩ := u8_of h1
    obtain ⟨b2, rfl⟩ := u8_of h2
    exact ⟨⟨b0, b1, b2⟩, rfl⟩
theorem seens_of {fuel : Nat} {v : Value} {x : DataW H × List MemPlace} (h : DataW.trod enc Tryz.prog W 0 spare held fuel 25 [v] = some x) : ∃ l : List Seen, Sl (memOf W) 3 v (l.map Seen.enc) :=
  sl_of_arg Seen.enc Tryz.underlying25 (by kernel_rfl) (by decide) (fun n cs y hl hy => seen_of hy) h
end

def layCells (cs : Array Value) : Obj → Obj
  | .cells _ t frozen => .cells cs t frozen
  | o => o
def db32Cells : Array Value := (Lib.deBruijn32tab.map fun z : Nat => Value.int .u8 (z : Int)).toArray
def db64Cells : Array Value := (Lib.deBruijn64tab.map fun z : Nat => Value.int .u8 (z : Int)).toArray
def pow10Cells : Array Value := (Lib.pow10Tab.map fun z => Value.int .u64 z).toArray
/-- A world for the witness: the library's tables as the text lays them. -/
noncomputable def laidWorld (os : Os) : World :=
  { World.holding Tryz.prog os ⟨#[], #[], []⟩ with heap := (((World.holding Tryz.prog os ⟨#[], #[], []⟩).heap.modify 2 (layCells db32Cells)).modify 3 (layCells db64Cells)).modify 1 (layCells pow10Cells) }
theorem tabs_of {W : World} (h : laidMet Tryz.prog [("math/bits.deBruijn32tab", Rows.laid_math_bits_deBruijn32tab), ("math/bits.deBruijn64tab", Rows.laid_math_bits_deBruijn64tab), ("internal/strconv.uint64pow10", Rows.laid_internal_strconv_uint64pow10)] W) : Tabs (memOf W) := by
  have h2 := h.tail.tail
  have e2 : (Rows.laid_internal_strconv_uint64pow10 : DataW Unit) = Lib.tabData .u64 Lib.pow10Tab := by rfl
  rw [e2] at h2
  have t2 := Lib.tabIs_of_head (g := 1) (t := 231) (e := 171) (n := 20) (by kernel_rfl) (by kernel_rfl) Tryz.underlying231 Tryz.underlying171 (by kernel_rfl) (by kernel_rfl) h2
  exact ⟨VarC.ofWorld t2⟩
theorem laidOut' : laidOutB Tryz.prog = true := by kernel_rfl
section
variable {H : Type} {enc : TypeId × Value → H} {W : World} {spare : Nat → Bool} {held : Bool}
theorem str_of {n : Nat} {c : Value} {y : DataW H × List MemPlace} (h : DataW.trod enc Tryz.prog W 0 spare held n 9 [c] = some y) : ∃ s : Str, c = strV s := by
  obtain ⟨⟨⟨l⟩⟩, h1, _⟩ := DataW.trod_string Tryz.underlying9 h
  simp only [List.cons.injEq, and_true] at h1
  exact ⟨l, h1⟩
theorem strs_of {fuel : Nat} {v : Value} {x : DataW H × List MemPlace} (h : DataW.trod enc Tryz.prog W 0 spare held fuel 26 [v] = some x) : ∃ l : List Str, Sl (memOf W) 1 v (l.map encS) :=
  sl_of_arg encS Tryz.underlying26 (by kernel_rfl) (by decide) (fun n cs y hl hy => by
    match cs, hl with
    | [c], _ =>
      obtain ⟨s, rfl⟩ := str_of hy
      exact ⟨s, rfl⟩) h
end
section
variable {H : Type} {enc : TypeId × Value → H} {W : World} {spare : Nat → Bool} {held : Bool}
end
end Go.Proofs.YtjcienaflbhedaaGreatDoor
