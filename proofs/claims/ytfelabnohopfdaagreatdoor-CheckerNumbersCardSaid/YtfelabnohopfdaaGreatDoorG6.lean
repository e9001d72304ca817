/- Laws that the proofs of this seat share, part 6. -/
import Derived.Test.YtfelabnohopfdaaGreatDoorG5
import Derived.Test.YtfelabnohopfdaaGreatDoorShelf
import Derived.Test.YtfelabnohopfdaaGreatDoorCards
import Derived.Test.YtfelabnohopfdaaGreatDoorTie
import Derived.Stop.LaidErr
import Derived.Lib.LaidTab
import Derived.Carry
import Derived.Deep.Strs
namespace Go.Proofs.YtfelabnohopfdaaGreatDoor
open Go Go.Jog
set_option maxRecDepth 100000

def errU (l : List Rel) : Int := if 200 < l.length then 4 else if errs l ≠ 0 then errs l else if 60 < (unitsL l).length then 4 else 0

theorem check_fn (C : Mem) (v : Value) (l : List Rel) (hv : Sl C 3 v (l.map Rel.enc)) (hl : l.length ≤ 100000) (hsh : ∀ x ∈ l, x.short) : Gives cx.P 21 [v] C (.int .i64 (errU l)) := by
  have hv0 := hv
  obtain ⟨A, c, rfl, _⟩ := hv0
  refine Fn.intro (by kernel_rfl) Tryz.func21 rfl 25 rfl rfl (fun w0 => ?_)
  refine G.region rfl (fun R hR => ?_)
  refine D.pure rfl rfl rfl rfl rfl rfl ?_
  refine D.done [(0, [], _)] ⟨rfl, trivial⟩ (hR _ _ _ rfl ?_); clear hR R
  refine G.region rfl (fun R hR => ?_)
  iterate 3 refine D.pure rfl rfl rfl rfl rfl rfl ?_
  refine D.done [(0, [], _), (8, [], _)] ⟨rfl, rfl, trivial⟩ (hR _ _ _ rfl ?_); clear hR R
  refine G.cond rfl (fun h8 => ?_) (fun h8 => ?_)
  · skip
    simp at h8
    refine G.region rfl (fun R hR => ?_)
    refine D.pure rfl rfl rfl rfl rfl rfl ?_
    refine D.done [(2, [], _)] ⟨rfl, trivial⟩ (hR _ _ _ rfl ?_); clear hR R
    refine G.retN (G.dropAll (G.fin1 rfl rfl ?_))
    refine ⟨?_, rfl⟩
    rw [errU, if_pos (by omega)]
  · skip
    simp at h8
    refine G.region rfl (fun R hR => ?_)
    iterate 3 refine D.pure rfl rfl rfl rfl rfl rfl ?_
    refine D.done [(0, [], _), (9, [], _), (10, [], _), (11, [], _)] ⟨rfl, rfl, rfl, rfl, trivial⟩ (hR _ _ _ rfl ?_); clear hR R
    refine G.loop (fun fr C' L' μ => ∃ (k : Nat), (k ≤ l.length ∧ ∀ y ∈ l.take k, errOf y = 0) ∧ fr = [(0, [], .slice A (l.map Rel.enc).length c), (9, [], .slice A (l.map Rel.enc).length c), (10, [], .int .i64 (l.map Rel.enc).length), (11, [], .int .i64 k)] ∧ L' = [] ∧ μ = l.length - k) (fr' := [(0, [], _), (9, [], _), (10, [], _), (11, [], _)]) ⟨rfl, rfl, rfl, rfl, trivial⟩ ⟨0, ⟨Nat.zero_le _, fun y hy => by simp at hy⟩, rfl, rfl, rfl⟩ (fun fr C0' L0' m hle0 hI => ?_)
    obtain ⟨k, ⟨hk, hz⟩, rfl, rfl, rfl⟩ := hI
    refine G.region rfl (fun R hR => ?_)
    refine D.pure rfl rfl rfl rfl rfl rfl ?_
    refine D.done [(0, [], _), (9, [], _), (10, [], _), (11, [], _), (12, [], _)] ⟨rfl, rfl, rfl, rfl, rfl, trivial⟩ (hR _ _ _ rfl ?_); clear hR R
    refine G.cond rfl (fun h12 => ?_) (fun h12 => ?_)
    · skip
      simp only [List.length_map, decide_eq_true_eq] at h12
      have hkl : k < l.length := by omega
      obtain ⟨x, hx⟩ : ∃ x, l[k]? = some x := ⟨l[k], List.getElem?_eq_getElem hkl⟩
      have hxs := hsh x (List.mem_of_getElem? hx)
      have hv1 := hv.mono hle0
      have htk : l.take (k + 1) = l.take k ++ [x] := by rw [List.take_add_one, hx]; rfl
      refine G.region rfl (fun R hR => ?_)
      refine D.index0 (hv.mono hle0) rfl rfl rfl rfl rfl rfl rfl rfl rfl rfl (by omega) (row := x.enc) (by simp [hx]) (fun _ => rfl) (fun p13 hp13 => ?_)
      refine D.loadP0 hp13 rfl rfl rfl rfl rfl rfl rfl rfl ?_
      refine D.alloc rfl rfl rfl rfl rfl (fun _ => rfl) (fun b4 => ?_)
      refine D.store (j := 0) rfl rfl rfl rfl rfl rfl rfl rfl rfl rfl rfl rfl ?_
      refine D.done [(0, [], _), (4, [], _), (9, [], _), (10, [], _), (11, [], _)] ⟨rfl, rfl, rfl, rfl, rfl, trivial⟩ (hR _ _ _ rfl ?_); clear hR R
      refine G.region rfl (fun R hR => ?_)
      refine D.loadL (.head _) rfl rfl rfl rfl rfl rfl rfl rfl rfl ?_
      refine D.gives2 (check_spec _ x hxs.1 hxs.2) rfl rfl rfl rfl rfl rfl rfl (fun _ => rfl) ?_
      refine D.pure rfl rfl rfl rfl rfl rfl ?_
      refine D.done [(0, [], _), (5, [], _), (9, [], _), (10, [], _), (11, [], _)] ⟨rfl, rfl, rfl, rfl, rfl, trivial⟩ (hR _ _ _ rfl ?_); clear hR R
      refine G.region rfl (fun R hR => ?_)
      iterate 2 refine D.pure rfl rfl rfl rfl rfl rfl ?_
      refine D.done [(0, [], _), (5, [], _), (9, [], _), (10, [], _), (11, [], _), (18, [], _)] ⟨rfl, rfl, rfl, rfl, rfl, rfl, trivial⟩ (hR _ _ _ rfl ?_); clear hR R
      refine G.cond rfl (fun h18 => ?_) (fun h18 => ?_)
      · skip
        have h18' : errOf x ≠ 0 := by simpa using h18
        have he := errs_at hx hz h18'
        refine G.region rfl (fun R hR => ?_)
        iterate 2 refine D.pure rfl rfl rfl rfl rfl rfl ?_
        refine D.done [(2, [], _)] ⟨rfl, trivial⟩ (hR _ _ _ rfl ?_); clear hR R
        refine G.retN (G.dropAll (G.fin1 rfl rfl ?_))
        refine ⟨?_, rfl⟩
        rw [errU, if_neg (by omega), he, if_pos h18']
      · skip
        have h18' : errOf x = 0 := by simpa using h18
        refine G.region rfl (fun R hR => ?_)
        refine D.i64 _ rfl rfl rfl rfl rfl (by omega) (by omega) rfl rfl ?_
        refine D.pure rfl rfl rfl rfl rfl rfl ?_
        refine D.done [(0, [], _), (9, [], _), (10, [], _), (11, [], _)] ⟨rfl, rfl, rfl, rfl, trivial⟩ (hR _ _ _ rfl ?_); clear hR R
        refine G.dropE 0 rfl ?_
        refine G.again (m' := l.length - (k + 1)) (by omega) hle0 (fr' := [(0, [], _), (9, [], _), (10, [], _), (11, [], _)]) ⟨rfl, rfl, rfl, rfl, trivial⟩ ⟨k + 1, ⟨by omega, fun y hy => by
          rw [htk] at hy
          rcases List.mem_append.1 hy with h | h
          · exact hz y h
          · rw [List.mem_singleton.1 h]; exact h18'⟩, rfl, rfl, rfl⟩
    · skip
      simp only [List.length_map, decide_eq_false_iff_not] at h12
      have hkl : k = l.length := by omega
      subst hkl
      rw [List.take_length] at hz
      have he := errs_zero hz
      have hul := unitsL_len l
      refine G.region rfl (fun R hR => ?_)
      refine D.pure rfl rfl rfl rfl rfl rfl ?_
      refine D.callP (units_fn _ _ l (hv.mono hle0) hl) rfl rfl rfl rfl rfl rfl rfl (fun _ => rfl) (fun v22 C22 hle22 hq22 => ?_)
      obtain ⟨Au, cu, hvu, _⟩ := id hq22
      subst hvu
      iterate 2 refine D.pure rfl rfl rfl rfl rfl rfl ?_
      refine D.done [(24, [], _)] ⟨rfl, trivial⟩ (hR _ _ _ rfl ?_); clear hR R
      refine G.cond rfl (fun h24 => ?_) (fun h24 => ?_)
      · skip
        simp at h24
        refine G.region rfl (fun R hR => ?_)
        refine D.pure rfl rfl rfl rfl rfl rfl ?_
        refine D.done [(2, [], _)] ⟨rfl, trivial⟩ (hR _ _ _ rfl ?_); clear hR R
        refine G.retN (G.dropAll (G.fin1 rfl rfl ?_))
        refine ⟨?_, rfl⟩
        rw [errU, if_neg (by omega), he, if_neg (by simp), if_pos (by omega)]
      · skip
        simp at h24
        refine G.region rfl (fun R hR => ?_)
        refine D.pure rfl rfl rfl rfl rfl rfl ?_
        refine D.done [(2, [], _)] ⟨rfl, trivial⟩ (hR _ _ _ rfl ?_); clear hR R
        refine G.retN (G.dropAll (G.fin1 rfl rfl ?_))
        refine ⟨?_, rfl⟩
        rw [errU, if_neg (by omega), he, if_neg (by simp), if_neg (by omega)]
end Go.Proofs.YtfelabnohopfdaaGreatDoor
namespace Go.Proofs.YtfelabnohopfdaaGreatDoor
open Go Go.Jog
set_option maxRecDepth 100000

def encI (x : Int) : List Value := [.int .i64 x]
end Go.Proofs.YtfelabnohopfdaaGreatDoor
namespace Go.Proofs.YtfelabnohopfdaaGreatDoor
open Go Go.Jog
set_option maxRecDepth 100000

structure Env1 (C : Mem) (a : Arc3) (d : List Int) (b8 b9 : Nat) : Prop where
  arc : C b8 = some (.cells ⟨Arc3.enc a⟩ 130 (0, 0))
  dist : ∃ dv, C b9 = some (.cells ⟨[dv]⟩ 27 (0, 0)) ∧ Sl C 1 dv (d.map encI)
theorem Env1.mono {C D : Mem} {a : Arc3} {d : List Int} {b8 b9 : Nat} (h : Env1 C a d b8 b9) (hl : C.le D) : Env1 D a d b8 b9 :=
  ⟨Mem.get h.arc hl, let ⟨dv, h1, h2⟩ := h.dist; ⟨dv, Mem.get h1 hl, h2.mono hl⟩⟩

end Go.Proofs.YtfelabnohopfdaaGreatDoor
namespace Go.Proofs.YtfelabnohopfdaaGreatDoor
open Go Go.Jog
set_option maxRecDepth 100000

/-- Arcs come in the order of their numbers. -/
def Ix (A : List Arc3) : Prop := A.Pairwise fun a b => a.i < b.i
theorem Ix.inj {A : List Arc3} (h : Ix A) : ∀ a ∈ A, ∀ b ∈ A, a.i = b.i → a = b := by
  induction A with
  | nil => intro a ha; cases ha
  | cons x A ih =>
    obtain ⟨h1, h2⟩ := List.pairwise_cons.1 h
    intro a ha b hb e
    rcases List.mem_cons.1 ha with e1 | ha1
    · rcases List.mem_cons.1 hb with e2 | hb1
      · rw [e1, e2]
      · have := h1 b hb1; rw [e1] at e; omega
    · rcases List.mem_cons.1 hb with e2 | hb1
      · have := h1 a ha1; rw [e2] at e; omega
      · exact ih h2 a ha1 b hb1 e
theorem Ix.le {A : List Arc3} (h : Ix A) {k : Nat} {a b : Arc3} (ha : A[k]? = some a) (hb : b ∈ A) (hn : b ∉ A.take k) : a.i ≤ b.i := by
  obtain ⟨j, hj⟩ := List.getElem?_of_mem hb
  have hkj : k ≤ j := Nat.le_of_not_lt (fun hlt => hn (List.mem_of_getElem? (i := j) (by rw [List.getElem?_take, if_pos hlt]; exact hj)))
  rcases Nat.lt_or_ge k j with h1 | h1
  · obtain ⟨a1, a2⟩ := List.getElem?_eq_some_iff.1 ha
    obtain ⟨b1, b2⟩ := List.getElem?_eq_some_iff.1 hj
    have := List.pairwise_iff_getElem.1 h k j a1 b1 h1
    rw [a2, b2] at this
    omega
  · have : k = j := by omega
    subst this
    rw [ha] at hj
    cases hj
    exact Nat.le_refl _
theorem Ix.nexts {A : List Arc3} (h : Ix A) (i : Nat) : Ix (nexts A i) := List.Pairwise.filter _ h
theorem mem_nexts {A : List Arc3} {i : Nat} {a : Arc3} : a ∈ nexts A i ↔ a ∈ A ∧ a.lo = i := by simp [nexts]

def LInv (A T : List Arc3) (least : Nat) : Prop :=
  (∀ a ∈ T, ∀ j, Walk A j a.up a.lo → 0 < least ∧ least ≤ j + 1) ∧ (least ≠ 0 → ∃ a ∈ A, ∃ j, Walk A j a.up a.lo ∧ j + 1 = least)
theorem LInv.start {A : List Arc3} : LInv A [] 0 := ⟨fun a ha => (by cases ha), fun h => absurd rfl h⟩
theorem LInv.put {A T : List Arc3} {least n : Nat} {a : Arc3} {d : List Int} (h : LInv A T least) (ha : a ∈ A) (hd : IsDist A a.lo n d) (hn : a.up < n) (hc : 0 ≤ dAt d a.up ∧ (least = 0 ∨ dAt d a.up + 1 < least)) :
    LInv A (T ++ [a]) ((dAt d a.up).toNat + 1) := by
  rcases hd.2 a.up hn with ⟨e, _⟩ | ⟨k, e, hw, hm⟩
  · omega
  · have ek : (dAt d a.up).toNat = k := by omega
    rw [ek]
    refine ⟨fun b hb j hj => ⟨by omega, ?_⟩, fun _ => ⟨a, ha, k, hw, rfl⟩⟩
    rcases List.mem_append.1 hb with hb | hb
    · have := h.1 b hb j hj; omega
    · rw [List.mem_singleton.1 hb] at hj
      have := hm j hj; omega
theorem LInv.keep {A T : List Arc3} {least n : Nat} {a : Arc3} {d : List Int} (h : LInv A T least) (hd : IsDist A a.lo n d) (hn : a.up < n) (hc : ¬ (0 ≤ dAt d a.up ∧ (least = 0 ∨ dAt d a.up + 1 < least))) : LInv A (T ++ [a]) least := by
  refine ⟨fun b hb j hj => ?_, h.2⟩
  rcases List.mem_append.1 hb with hb | hb
  · exact h.1 b hb j hj
  · rw [List.mem_singleton.1 hb] at hj
    rcases hd.2 a.up hn with ⟨_, hno⟩ | ⟨k, e, hw, hm⟩
    · exact absurd hj (hno _)
    · have := hm j hj; omega
theorem LInv.min {A : List Arc3} {least : Nat} (h : LInv A A least) : ∀ k w, 0 < k → Walk A k w w → 0 < least ∧ least ≤ k := fun k w hk hw => by
  obtain ⟨q, rfl⟩ : ∃ q, k = q + 1 := ⟨k - 1, by omega⟩
  obtain ⟨a, ha, hlo, hw⟩ := Walk.succ.1 hw
  subst hlo
  exact h.1 a ha q hw

end Go.Proofs.YtfelabnohopfdaaGreatDoor
namespace Go.Proofs.YtfelabnohopfdaaGreatDoor
open Go Go.Jog
set_option maxRecDepth 100000

def encN (i : Nat) : List Value := [.int .i64 i]
abbrev intN (i : Nat) : Value := .int .i64 i
structure GOk (N : List Str) (A : List Arc3) : Prop where
  below : Below N.length A
  ix : Ix A
  arcs : A.length ≤ 100000
  names : N.length ≤ 200000
  nums : ∀ a ∈ A, a.i ≤ 1000000
end Go.Proofs.YtfelabnohopfdaaGreatDoor
namespace Go.Proofs.YtfelabnohopfdaaGreatDoor
open Go Go.Jog
set_option maxRecDepth 100000

abbrev qS (g c n : Nat) : Value := .slice (some ⟨g, 0, none⟩) n c
abbrev qArr (g c : Nat) (l : List Nat) : Ent := .arr (qS g c l.length) 3 1 l.length (l.map intN)
abbrev qObj (b g c : Nat) (n : Nat) : Ent := .obj b (.cells ⟨[qS g c n]⟩ 133 (0, 0))
abbrev qPtr (b : Nat) : Value := .pointer (some ⟨b, 0, none⟩)
abbrev qI (b : Nat) : Value := .iface 132 (qPtr b)
theorem nats_at {l : List Nat} {u : Nat} (h : u < l.length) : ((l.map intN).drop u).take 1 = [intN (hAt l u)] := by
  have h1 : (l.map intN)[u]? = some (intN (hAt l u)) := by rw [List.getElem?_map, get_hAt h]; rfl
  obtain ⟨h2, h3⟩ := List.getElem?_eq_some_iff.1 h1
  rw [List.drop_eq_getElem_cons h2, h3]; rfl
theorem nats_set {l : List Nat} {u : Nat} {x : Nat} (h : u < l.length) : storeInto (l.map intN) [intN x] u = (l.set u x).map intN := by
  have := row_write (enc := fun v : Nat => [intN v]) (s := 1) (fun _ => rfl) (l := l) (i := u) x h
  rw [flatten_map1 intN, flatten_map1 intN, Nat.mul_one] at this
  exact this

theorem qlen_fn (C : Mem) (g c n : Nat) : Gives cx.P 54 [qS g c n] C (.int .i64 n) := by
  refine Fn.intro (by kernel_rfl) Tryz.func54 rfl 5 rfl rfl (fun w0 => ?_)
  refine G.region rfl (fun R hR => ?_)
  refine D.pure rfl rfl rfl rfl rfl rfl ?_
  refine D.done [(0, [], _)] ⟨rfl, trivial⟩ (hR _ _ _ rfl ?_); clear hR R
  refine G.region rfl (fun R hR => ?_)
  iterate 3 refine D.pure rfl rfl rfl rfl rfl rfl ?_
  refine D.done [(2, [], _)] ⟨rfl, trivial⟩ (hR _ _ _ rfl ?_); clear hR R
  refine G.retN (G.dropAll (G.fin1 rfl rfl ?_))
  exact ⟨rfl, rfl⟩
theorem less_fn (C : Mem) (g c : Nat) (l : List Nat) (i j : Nat) (hi : i < l.length) (hj : j < l.length) : Jog.Fn cx.P 191 [qS g c l.length, .int .i64 i, .int .i64 j] C [qArr g c l] fun u _ L' => u = .bool (decide (hAt l i < hAt l j)) ∧ L' = [qArr g c l] := by
  refine Fn.intro (by kernel_rfl) Tryz.func191 rfl 16 rfl rfl (fun w0 => ?_)
  refine G.eqL (L' := [.arr (qS g c l.length) 3 1 l.length (l.map intN)]) rfl ?_
  refine G.region rfl (fun R hR => ?_)
  refine D.pure rfl rfl rfl rfl rfl rfl ?_
  refine D.done [(0, [], _), (1, [], _), (2, [], _)] ⟨rfl, rfl, rfl, trivial⟩ (hR _ _ _ rfl ?_); clear hR R
  refine G.draw [0, 1, 2, 3, 4, 5, 6, 7, 8, 9] [] rfl (by kernel_rfl) (fun R hB hR => ?_)
  iterate 2 refine D.pure rfl rfl rfl rfl rfl rfl ?_
  refine D.indexS (i) rfl rfl rfl rfl rfl rfl rfl rfl rfl rfl (fun _ => ⟨by omega, by omega, (by simp)⟩) rfl rfl ?_
  refine D.loadArr (.head _) rfl rfl rfl rfl rfl rfl (fun _ => (by rw [nats_at hi]; rfl)) rfl rfl ?_
  iterate 2 refine D.pure rfl rfl rfl rfl rfl rfl ?_
  refine D.indexS (j) rfl rfl rfl rfl rfl rfl rfl rfl rfl rfl (fun _ => ⟨by omega, by omega, (by simp)⟩) rfl rfl ?_
  refine D.loadArr (.head _) rfl rfl rfl rfl rfl rfl (fun _ => (by rw [nats_at hj]; rfl)) rfl rfl ?_
  iterate 2 refine D.pure rfl rfl rfl rfl rfl rfl ?_
  refine D.done [(6, [], _)] ⟨rfl, trivial⟩ (hR _ _ _ rfl ?_); clear hR hB R
  refine G.retN (G.fin1 rfl rfl ?_)
  exact ⟨by simp, rfl⟩
theorem swap_fn (C : Mem) (g c : Nat) (l : List Nat) (i j : Nat) (hi : i < l.length) (hj : j < l.length) : Jog.Fn cx.P 194 [qS g c l.length, .int .i64 i, .int .i64 j] C [qArr g c l] fun _ _ L' => L' = [qArr g c (swapL l i j)] := by
  refine Fn.intro (by kernel_rfl) Tryz.func194 rfl 20 rfl rfl (fun w0 => ?_)
  refine G.eqL (L' := [.arr (qS g c l.length) 3 1 l.length (l.map intN)]) rfl ?_
  refine G.draw [0, 1, 2, 3, 4, 5, 6, 7, 8, 9, 10, 11, 12, 13, 14, 15] [] rfl (by kernel_rfl) (fun R hB hR => ?_)
  iterate 6 refine D.pure rfl rfl rfl rfl rfl rfl ?_
  refine D.indexS (j) rfl rfl rfl rfl rfl rfl rfl rfl rfl rfl (fun _ => ⟨by omega, by omega, (by simp)⟩) rfl rfl ?_
  refine D.loadArr (.head _) rfl rfl rfl rfl rfl rfl (fun _ => (by rw [nats_at hj]; rfl)) rfl rfl ?_
  iterate 2 refine D.pure rfl rfl rfl rfl rfl rfl ?_
  refine D.indexS (i) rfl rfl rfl rfl rfl rfl rfl rfl rfl rfl (fun _ => ⟨by omega, by omega, (by simp)⟩) rfl rfl ?_
  refine D.loadArr (.head _) rfl rfl rfl rfl rfl rfl (fun _ => (by rw [nats_at hi]; rfl)) rfl rfl ?_
  refine D.indexS (i) rfl rfl rfl rfl rfl rfl rfl rfl rfl rfl (fun _ => ⟨by omega, by omega, (by simp)⟩) rfl rfl ?_
  refine D.storeArr (j := 0) rfl rfl rfl rfl rfl rfl rfl rfl rfl rfl rfl (by simp; omega) ?_
  refine D.indexS (j) rfl rfl rfl rfl rfl rfl rfl rfl rfl rfl (fun _ => ⟨by omega, by omega, (by simp)⟩) rfl rfl ?_
  refine D.storeArr (j := 0) rfl rfl rfl rfl rfl rfl rfl rfl rfl rfl rfl (by rw [nats_set hi]; simp; omega) ?_
  refine D.done [] trivial (hR _ _ _ rfl ?_); clear hR hB R
  refine G.end0 rfl ?_
  have this : storeInto (storeInto (l.map intN) [intN (hAt l j)] i) [intN (hAt l i)] j = (swapL l i j).map intN := by rw [nats_set hi, nats_set (by simpa using hj)]; rfl
  show _ = [Ent.arr (qS g c (swapL l i j).length) 3 1 (swapL l i j).length ((swapL l i j).map intN)]
  rw [swapL_length, ← this]; rfl
theorem qpush_fn (C : Mem) (b g c : Nat) (l : List Nat) (x : Nat) (hl : l.length ≤ 1000000) : Jog.Fn cx.P 193 [qPtr b, .iface 3 (.int .i64 x)] C [qObj b g c l.length, qArr g c l] fun _ _ L' => ∃ g' c', L' = [qObj b g' c' (l ++ [x]).length, qArr g' c' (l ++ [x])] := by
  refine Fn.intro (by kernel_rfl) Tryz.func193 rfl 13 rfl rfl (fun w0 => ?_)
  refine G.eqL (L' := [.obj b (.cells ⟨[qS g c l.length]⟩ 133 (0, 0)), .arr (qS g c l.length) 3 1 l.length (l.map intN)]) rfl ?_
  refine G.draw [0, 1, 2, 3, 4, 5, 6, 7, 8, 9] [] rfl (by kernel_rfl) (fun R hB hR => ?_)
  iterate 3 refine D.pure rfl rfl rfl rfl rfl rfl ?_
  refine D.loadL (.head _) rfl rfl rfl rfl rfl rfl rfl rfl rfl ?_
  refine D.pure rfl rfl rfl rfl rfl rfl ?_
  refine D.assert rfl rfl rfl rfl rfl rfl rfl rfl rfl ?_
  refine D.buildSlice [[.int .i64 x]] rfl rfl rfl rfl rfl rfl rfl rfl rfl rfl rfl rfl (fun _ => rfl) (fun p10 C10 hle10 hs10 => ?_)
  refine D.appendF (j := 1) rfl rfl rfl rfl rfl rfl rfl rfl rfl rfl rfl hs10 rfl (by simp only [List.length_singleton, maxLen]; omega) (by simp only [List.length_singleton]; omega) (fun _ => rfl) (fun A11 n11 c11 => ?_)
  refine D.pure rfl rfl rfl rfl rfl rfl ?_
  refine D.store (j := 1) rfl rfl rfl rfl rfl rfl rfl rfl rfl rfl rfl rfl ?_
  refine D.done [] trivial (hR _ _ _ rfl ?_); clear hR hB R
  refine G.rowForm 1 rfl (fun g2 c2 he => ?_)
  cases he
  refine G.end0 rfl ?_
  exact ⟨g2, c11, by simp [qObj, qArr]; rfl⟩
theorem qpop_fn (C : Mem) (b g c : Nat) (l : List Nat) (hl : l.length ≤ 1000000) (h0 : 0 < l.length) : Jog.Fn cx.P 192 [qPtr b] C [qObj b g c l.length, qArr g c l] fun u _ L' => u = .iface 3 (.int .i64 (hAt l (l.length - 1))) ∧ L' = [qObj b g c (l.length - 1), qArr g c (l.take (l.length - 1))] := by
  refine Fn.intro (by kernel_rfl) Tryz.func192 rfl 23 rfl rfl (fun w0 => ?_)
  refine G.eqL (L' := [.obj b (.cells ⟨[qS g c l.length]⟩ 133 (0, 0)), .arr (qS g c l.length) 3 1 l.length (l.map intN)]) rfl ?_
  refine G.rowCap 1 rfl (fun hlc hcm => ?_)
  refine G.region rfl (fun R hR => ?_)
  refine D.pure rfl rfl rfl rfl rfl rfl ?_
  refine D.done [(0, [], _)] ⟨rfl, trivial⟩ (hR _ _ _ rfl ?_); clear hR R
  refine G.region rfl (fun R hR => ?_)
  iterate 2 refine D.pure rfl rfl rfl rfl rfl rfl ?_
  refine D.loadL (.head _) rfl rfl rfl rfl rfl rfl rfl rfl rfl ?_
  refine D.pure rfl rfl rfl rfl rfl rfl ?_
  refine D.done [(0, [], _), (3, [], _)] ⟨rfl, rfl, trivial⟩ (hR _ _ _ rfl ?_); clear hR R
  refine G.region rfl (fun R hR => ?_)
  iterate 3 refine D.pure rfl rfl rfl rfl rfl rfl ?_
  refine D.i64 _ rfl rfl rfl rfl rfl (by omega) (by omega) rfl rfl ?_
  refine D.indexS (l.length - 1) rfl rfl rfl rfl rfl rfl rfl rfl rfl rfl (fun _ => ⟨by omega, by omega, (by simp)⟩) rfl rfl ?_
  refine D.loadArr (.tail _ (.head _)) rfl rfl rfl rfl rfl rfl (fun _ => (by rw [nats_at (by omega)]; rfl)) rfl rfl ?_
  refine D.pure rfl rfl rfl rfl rfl rfl ?_
  refine D.done [(0, [], _), (3, [], _), (4, [], _)] ⟨rfl, rfl, rfl, trivial⟩ (hR _ _ _ rfl ?_); clear hR R
  refine G.region rfl (fun R hR => ?_)
  iterate 4 refine D.pure rfl rfl rfl rfl rfl rfl ?_
  refine D.i64 (((l.length - 1 : Nat) : Int)) rfl rfl rfl rfl (by omega) (by omega) (by omega) rfl rfl ?_
  refine D.sliceV 0 (l.length - 1) c rfl rfl rfl rfl rfl rfl rfl rfl rfl rfl rfl rfl (fun _ => ⟨.inl ⟨rfl, rfl⟩, .inr ⟨_, rfl⟩, .inl ⟨rfl, rfl⟩, Nat.zero_le _, by omega, Nat.le_refl _⟩) rfl rfl ?_
  refine D.pure rfl rfl rfl rfl rfl rfl ?_
  refine D.store (j := 0) rfl rfl rfl rfl rfl rfl rfl rfl rfl rfl rfl rfl ?_
  refine D.done [(4, [], _)] ⟨rfl, trivial⟩ (hR _ _ _ rfl ?_); clear hR R
  refine G.region rfl (fun R hR => ?_)
  iterate 3 refine D.pure rfl rfl rfl rfl rfl rfl ?_
  refine D.done [(2, [], _)] ⟨rfl, trivial⟩ (hR _ _ _ rfl ?_); clear hR R
  refine G.eqL (L' := [.obj b (.cells ⟨[qS g c (l.length - 1)]⟩ 133 (0, 0)), .arr (qS g c l.length) 3 1 l.length (l.map intN)]) (by
    have e3 : (if c = 0 then some (⟨g, 0, none⟩ : Addr) else (some (⟨g, 0, none⟩ : Addr)).map (fun x => x.add (0 * 1))) = some ⟨g, 0, none⟩ := by split <;> simp [Addr.add_lit]
    show Ent.obj b (.cells ⟨[Value.slice (if c = 0 then some (⟨g, 0, none⟩ : Addr) else (some (⟨g, 0, none⟩ : Addr)).map (fun x => x.add (0 * 1))) (l.length - 1) c]⟩ 133 (0, 0)) :: _ = _
    rw [e3]; rfl) ?_
  refine G.shrink 1 (l.length - 1) rfl (by omega) ?_
  refine G.perm (L' := [.obj b (.cells ⟨[qS g c (l.length - 1)]⟩ 133 (0, 0)), .arr (qS g c (l.length - 1)) 3 1 (l.length - 1) ((l.map intN).take ((l.length - 1) * 1))]) (List.Perm.swap _ _ _) ?_
  refine G.retN (G.fin1 rfl rfl ?_)
  refine ⟨rfl, ?_⟩
  have e4 : (l.take (l.length - 1)).length = l.length - 1 := by rw [List.length_take]; omega
  rw [qArr, e4, List.map_take, Nat.mul_one]
end Go.Proofs.YtfelabnohopfdaaGreatDoor
namespace Go.Proofs.YtfelabnohopfdaaGreatDoor
open Go Go.Jog
set_option maxRecDepth 100000

theorem half (j : Nat) : ((j : Int) - 1).tdiv 2 = (((j - 1) / 2 : Nat) : Int) := by
  cases j with
  | zero => decide
  | succ j => rw [Int.tdiv_eq_ediv_of_nonneg (by omega)]; omega

theorem hup_fn (C : Mem) (b g c : Nat) (l : List Nat) (j : Nat) (hj : j < l.length) (hl : l.length ≤ 1000000) (hu : UpH l j) :
    Jog.Fn cx.P 96 [qI b, .int .i64 j] C [qObj b g c l.length, qArr g c l] fun _ _ L' => ∃ l', L' = [qObj b g c l'.length, qArr g c l'] ∧ l'.Perm l ∧ HeapN l'.length l' := by
  refine Fn.intro (by kernel_rfl) Tryz.func96 rfl 23 rfl rfl (fun w0 => ?_)
  refine G.loop (fun fr C' L' μ => ∃ (j : Nat) (l2 : List Nat), (l2.Perm l ∧ UpH l2 j ∧ j < l2.length) ∧ fr = [(0, [], qI b), (1, [], .int .i64 j)] ∧ L' = [.obj b (.cells ⟨[qS g c l2.length]⟩ 133 (0, 0)), .arr (qS g c l2.length) 3 1 l2.length (l2.map intN)] ∧ μ = j + 1) (fr' := [(0, [], _), (1, [], _)]) ⟨rfl, rfl, trivial⟩ ⟨j, l, ⟨List.Perm.refl _, hu, hj⟩, rfl, rfl, rfl⟩ (fun fr C0' L0' m hle0 hI => ?_)
  obtain ⟨j, l2, ⟨hp, hu2, hj2⟩, rfl, rfl, rfl⟩ := hI
  have hl2 := hp.length_eq
  refine G.region rfl (fun R hR => ?_)
  refine D.pure rfl rfl rfl rfl rfl rfl ?_
  refine D.i64 _ rfl rfl rfl rfl rfl (by omega) (by omega) rfl rfl ?_
  refine D.quoT (((j - 1) / 2 : Nat) : Int) rfl rfl rfl rfl rfl rfl (by omega) (half j) (by rw [IntKind.wrap_i64]; omega) rfl rfl ?_
  refine D.pure rfl rfl rfl rfl rfl rfl ?_
  refine D.done [(0, [], _), (1, [], _), (4, [], _)] ⟨rfl, rfl, rfl, trivial⟩ (hR _ _ _ rfl ?_); clear hR R
  refine G.regionO [(7, 1)] rfl (fun R hR => ?_)
  iterate 7 refine D.pure rfl rfl rfl rfl rfl rfl ?_
  refine D.invokeVQ (.head _) (.tail _ (.head _)) (fun _ => less_fn _ g c l2 j ((j - 1) / 2) hj2 (by omega)) (by kernel_rfl) rfl rfl rfl rfl rfl (by kernel_rfl) rfl rfl rfl rfl rfl rfl rfl ?_
  refine D.pure rfl rfl rfl rfl rfl rfl ?_
  refine D.pickOr rfl rfl rfl rfl rfl rfl rfl rfl ?_
  refine D.done [(0, [], _), (1, [], _), (4, [], _), (17, [], _)] ⟨rfl, rfl, rfl, rfl, trivial⟩ (hR _ _ _ rfl ?_); clear hR R
  refine G.cond rfl (fun h17 => ?_) (fun h17 => ?_)
  · skip
    have h17' : (j - 1) / 2 = j ∨ hAt l2 ((j - 1) / 2) ≤ hAt l2 j := by
      simp at h17; omega
    refine G.end0 rfl ?_
    exact ⟨l2, rfl, hp, by
      rcases Nat.eq_zero_or_pos j with e | e
      · subst e; exact hu2.done0
      · exact hu2.done (by omega)⟩
  · skip
    have h17' : ¬ ((j - 1) / 2 = j ∨ hAt l2 ((j - 1) / 2) ≤ hAt l2 j) := by
      simp at h17; omega
    refine G.regionO [(3, 3)] rfl (fun R hR => ?_)
    iterate 3 refine D.pure rfl rfl rfl rfl rfl rfl ?_
    refine D.invokeV (.head _) (Lr := [qObj b g c l2.length]) (swap_fn _ g c l2 ((j - 1) / 2) j (by omega) hj2) (List.Perm.swap _ _ _) rfl rfl rfl rfl rfl (by kernel_rfl) rfl rfl rfl rfl rfl (fun _ => rfl) (fun v21 C21 L21 hle21 hq21 => ?_)
    subst hq21
    refine D.done [(0, [], _), (4, [], _)] ⟨rfl, rfl, trivial⟩ (hR _ _ _ rfl ?_); clear hR R
    refine G.perm (L' := [.obj b (.cells ⟨[qS g c (swapL l2 ((j - 1) / 2) j).length]⟩ 133 (0, 0)), .arr (qS g c (swapL l2 ((j - 1) / 2) j).length) 3 1 (swapL l2 ((j - 1) / 2) j).length ((swapL l2 ((j - 1) / 2) j).map intN)]) (by unfold qArr; rw [swapL_length]; exact List.Perm.swap _ _ _) ?_
    refine G.region rfl (fun R hR => ?_)
    iterate 2 refine D.pure rfl rfl rfl rfl rfl rfl ?_
    refine D.done [(0, [], _), (1, [], _)] ⟨rfl, rfl, trivial⟩ (hR _ _ _ rfl ?_); clear hR R
    refine G.again (m' := (j - 1) / 2 + 1) (by omega) (by (repeat (first | exact Mem.le.refl _ | assumption | (apply Mem.le.trans; rotate_left; assumption)))) (fr' := [(0, [], _), (1, [], _)]) ⟨rfl, rfl, trivial⟩ ⟨(j - 1) / 2, swapL l2 ((j - 1) / 2) j, ⟨(swapL_perm (by omega) hj2).trans hp, hu2.step (by omega) hj2 (by omega), by rw [swapL_length]; omega⟩, rfl, rfl, rfl⟩
theorem hdown_fn (C : Mem) (b g c : Nat) (l : List Nat) (i0 n : Nat) (hn : n ≤ l.length) (hl : l.length ≤ 1000000) (hi : i0 ≤ n) (hu : DownH n l i0) :
    Jog.Fn cx.P 97 [qI b, .int .i64 i0, .int .i64 n] C [qObj b g c l.length, qArr g c l] fun _ _ L' => ∃ l', L' = [qObj b g c l'.length, qArr g c l'] ∧ l'.Perm l ∧ HeapN n l' ∧ ∀ k, n ≤ k → hAt l' k = hAt l k := by
  refine Fn.intro (by kernel_rfl) Tryz.func97 rfl 48 rfl rfl (fun w0 => ?_)
  refine G.region rfl (fun R hR => ?_)
  refine D.pure rfl rfl rfl rfl rfl rfl ?_
  refine D.done [(0, [], _), (1, [], _), (2, [], _)] ⟨rfl, rfl, rfl, trivial⟩ (hR _ _ _ rfl ?_); clear hR R
  refine G.region rfl (fun R hR => ?_)
  iterate 2 refine D.pure rfl rfl rfl rfl rfl rfl ?_
  refine D.done [(0, [], _), (1, [], _), (2, [], _), (7, [], _)] ⟨rfl, rfl, rfl, rfl, trivial⟩ (hR _ _ _ rfl ?_); clear hR R
  refine G.loop (fun fr C' L' μ => ∃ (i : Nat) (l2 : List Nat), (l2.Perm l ∧ DownH n l2 i ∧ i ≤ n ∧ ∀ k, n ≤ k → hAt l2 k = hAt l k) ∧ fr = [(0, [], qI b), (1, [], .int .i64 i0), (2, [], .int .i64 n), (7, [], .int .i64 i)] ∧ L' = [.obj b (.cells ⟨[qS g c l2.length]⟩ 133 (0, 0)), .arr (qS g c l2.length) 3 1 l2.length (l2.map intN)] ∧ μ = n - i) (fr' := [(0, [], _), (1, [], _), (2, [], _), (7, [], _)]) ⟨rfl, rfl, rfl, rfl, trivial⟩ ⟨i0, l, ⟨List.Perm.refl _, hu, hi, fun _ _ => rfl⟩, rfl, rfl, rfl⟩ (fun fr C0' L0' m hle0 hI => ?_)
  obtain ⟨i, l2, ⟨hp, hu2, hi2, hke⟩, rfl, rfl, rfl⟩ := hI
  have hl2 := hp.length_eq
  refine G.region rfl (fun R hR => ?_)
  refine D.pure rfl rfl rfl rfl rfl rfl ?_
  refine D.i64 (((2 * i : Nat) : Int)) rfl rfl rfl rfl (by omega) (by omega) (by omega) rfl rfl ?_
  refine D.i64 (((2 * i + 1 : Nat) : Int)) rfl rfl rfl rfl (by omega) (by omega) (by omega) rfl rfl ?_
  refine D.pure rfl rfl rfl rfl rfl rfl ?_
  refine D.done [(0, [], _), (1, [], _), (2, [], _), (7, [], _), (8, [], _)] ⟨rfl, rfl, rfl, rfl, rfl, trivial⟩ (hR _ _ _ rfl ?_); clear hR R
  refine G.region rfl (fun R hR => ?_)
  iterate 6 refine D.pure rfl rfl rfl rfl rfl rfl ?_
  refine D.pickOr rfl rfl rfl rfl rfl rfl rfl rfl ?_
  refine D.done [(0, [], _), (1, [], _), (2, [], _), (7, [], _), (8, [], _), (21, [], _)] ⟨rfl, rfl, rfl, rfl, rfl, rfl, trivial⟩ (hR _ _ _ rfl ?_); clear hR R
  refine G.cond rfl (fun h21 => ?_) (fun h21 => ?_)
  · skip
    have h21' : n ≤ 2 * i + 1 := by simp at h21; omega
    refine G.region rfl (fun R hR => ?_)
    iterate 4 refine D.pure rfl rfl rfl rfl rfl rfl ?_
    refine D.done [(6, [], _)] ⟨rfl, trivial⟩ (hR _ _ _ rfl ?_); clear hR R
    refine G.retN (G.fin1 rfl rfl ?_)
    exact ⟨l2, rfl, hp, hu2.done (fun k h1 h2 h3 => by omega), hke⟩
  · skip
    have h21' : 2 * i + 1 < n := by simp at h21; omega
    refine G.region rfl (fun R hR => ?_)
    iterate 2 refine D.pure rfl rfl rfl rfl rfl rfl ?_
    refine D.done [(0, [], _), (1, [], _), (2, [], _), (7, [], _), (8, [], _), (9, [], _)] ⟨rfl, rfl, rfl, rfl, rfl, rfl, trivial⟩ (hR _ _ _ rfl ?_); clear hR R
    refine G.region rfl (fun R hR => ?_)
    refine D.pure rfl rfl rfl rfl rfl rfl ?_
    refine D.i64 (((2 * i + 2 : Nat) : Int)) rfl rfl rfl rfl (by omega) (by omega) (by omega) rfl rfl ?_
    refine D.pure rfl rfl rfl rfl rfl rfl ?_
    refine D.done [(0, [], _), (1, [], _), (2, [], _), (7, [], _), (8, [], _), (9, [], _), (10, [], _)] ⟨rfl, rfl, rfl, rfl, rfl, rfl, rfl, trivial⟩ (hR _ _ _ rfl ?_); clear hR R
    refine G.regionO [(7, 1)] rfl (fun R hR => ?_)
    iterate 7 refine D.pure rfl rfl rfl rfl rfl rfl ?_
    refine D.invokeVQ (.head _) (.tail _ (.head _)) (fun hg => less_fn _ g c l2 (2 * i + 2) (2 * i + 1) (by have h : decide (((2 * i + 2 : Nat) : Int) < (n : Int)) = true := hg.1; have h2 := of_decide_eq_true h; omega) (by omega)) (by kernel_rfl) rfl rfl rfl rfl rfl (by kernel_rfl) rfl rfl rfl rfl rfl rfl rfl ?_
    refine D.pickAnd rfl rfl rfl rfl rfl rfl rfl rfl ?_
    refine D.done [(0, [], _), (1, [], _), (2, [], _), (7, [], _), (9, [], _), (10, [], _), (33, [], _)] ⟨rfl, rfl, rfl, rfl, rfl, rfl, rfl, trivial⟩ (hR _ _ _ rfl ?_); clear hR R
    refine G.cut (fun fr C' L' μ => ∃ (j : Nat), ((j - 1) / 2 = i ∧ 1 ≤ j ∧ j < n ∧ ∀ k, 1 ≤ k → k < n → (k - 1) / 2 = i → hAt l2 j ≤ hAt l2 k) ∧ fr = [(0, [], qI b), (1, [], .int .i64 i0), (2, [], .int .i64 n), (7, [], .int .i64 i), (9, [], .int .i64 j)] ∧ L' = [.obj b (.cells ⟨[qS g c l2.length]⟩ 133 (0, 0)), .arr (qS g c l2.length) 3 1 l2.length (l2.map intN)]) ?_ (fun fr C33 L33 μ hle33 hI => ?_)
    · skip
      refine G.cond rfl (fun h33 => ?_) (fun h33 => ?_)
      · skip
        refine G.region rfl (fun R hR => ?_)
        iterate 2 refine D.pure rfl rfl rfl rfl rfl rfl ?_
        refine D.done [(0, [], _), (1, [], _), (2, [], _), (7, [], _), (9, [], _)] ⟨rfl, rfl, rfl, rfl, rfl, trivial⟩ (hR _ _ _ rfl ?_); clear hR R
        have h33' : 2 * i + 2 < n ∧ hAt l2 (2 * i + 2) < hAt l2 (2 * i + 1) := by simp at h33; omega
        refine G.meet 0 (Mem.le.refl _) (fr' := [(0, [], _), (1, [], _), (2, [], _), (7, [], _), (9, [], _)]) ⟨rfl, rfl, rfl, rfl, rfl, trivial⟩ ⟨2 * i + 2, ⟨by omega, by omega, by omega, fun k h1 h2 h3 => by
          have : k = 2 * i + 1 ∨ k = 2 * i + 2 := by omega
          rcases this with e | e <;> rw [e] <;> omega⟩, rfl, rfl⟩
      · skip
        have h33' : ¬ (2 * i + 2 < n ∧ hAt l2 (2 * i + 2) < hAt l2 (2 * i + 1)) := by simp at h33; omega
        refine G.meet 0 (Mem.le.refl _) (fr' := [(0, [], _), (1, [], _), (2, [], _), (7, [], _), (9, [], _)]) ⟨rfl, rfl, rfl, rfl, rfl, trivial⟩ ⟨2 * i + 1, ⟨by omega, by omega, by omega, fun k h1 h2 h3 => by
          have : k = 2 * i + 1 ∨ k = 2 * i + 2 := by omega
          rcases this with e | e <;> rw [e]
          · exact Nat.le_refl _
          · rw [e] at h2; omega⟩, rfl, rfl⟩
    · skip
      obtain ⟨j, ⟨hji, hj1, hjn, hjm⟩, rfl, rfl⟩ := hI
      refine G.regionO [(3, 1)] rfl (fun R hR => ?_)
      iterate 3 refine D.pure rfl rfl rfl rfl rfl rfl ?_
      refine D.invokeVQ (.head _) (.tail _ (.head _)) (fun _ => less_fn _ g c l2 j i (by omega) (by omega)) (by kernel_rfl) rfl rfl rfl rfl rfl (by kernel_rfl) rfl rfl rfl rfl rfl rfl rfl ?_
      refine D.pure rfl rfl rfl rfl rfl rfl ?_
      refine D.done [(0, [], _), (1, [], _), (2, [], _), (7, [], _), (9, [], _), (39, [], _)] ⟨rfl, rfl, rfl, rfl, rfl, rfl, trivial⟩ (hR _ _ _ rfl ?_); clear hR R
      refine G.cond rfl (fun h39 => ?_) (fun h39 => ?_)
      · skip
        have h39' : hAt l2 i ≤ hAt l2 j := by simpa using h39
        refine G.region rfl (fun R hR => ?_)
        iterate 4 refine D.pure rfl rfl rfl rfl rfl rfl ?_
        refine D.done [(6, [], _)] ⟨rfl, trivial⟩ (hR _ _ _ rfl ?_); clear hR R
        refine G.retN (G.fin1 rfl rfl ?_)
        exact ⟨l2, rfl, hp, hu2.done (fun k h1 h2 h3 => Nat.le_trans h39' (hjm k h1 h2 h3)), hke⟩
      · skip
        have h39' : hAt l2 j < hAt l2 i := by simpa using h39
        refine G.regionO [(3, 3)] rfl (fun R hR => ?_)
        iterate 3 refine D.pure rfl rfl rfl rfl rfl rfl ?_
        refine D.invokeV (.head _) (Lr := [qObj b g c l2.length]) (swap_fn _ g c l2 i j (by omega) (by omega)) (List.Perm.swap _ _ _) rfl rfl rfl rfl rfl (by kernel_rfl) rfl rfl rfl rfl rfl (fun _ => rfl) (fun v43 C43 L43 hle43 hq43 => ?_)
        subst hq43
        refine D.done [(0, [], _), (1, [], _), (2, [], _), (9, [], _)] ⟨rfl, rfl, rfl, rfl, trivial⟩ (hR _ _ _ rfl ?_); clear hR R
        refine G.perm (L' := [.obj b (.cells ⟨[qS g c (swapL l2 i j).length]⟩ 133 (0, 0)), .arr (qS g c (swapL l2 i j).length) 3 1 (swapL l2 i j).length ((swapL l2 i j).map intN)]) (by unfold qArr; rw [swapL_length]; exact List.Perm.swap _ _ _) ?_
        refine G.region rfl (fun R hR => ?_)
        iterate 2 refine D.pure rfl rfl rfl rfl rfl rfl ?_
        refine D.done [(0, [], _), (1, [], _), (2, [], _), (7, [], _)] ⟨rfl, rfl, rfl, rfl, trivial⟩ (hR _ _ _ rfl ?_); clear hR R
        refine G.again (m' := n - j) (by omega) (by (repeat (first | exact Mem.le.refl _ | assumption | (apply Mem.le.trans; rotate_left; assumption)))) (fr' := [(0, [], _), (1, [], _), (2, [], _), (7, [], _)]) ⟨rfl, rfl, rfl, rfl, trivial⟩ ⟨j, swapL l2 i j, ⟨(swapL_perm (by omega) (by omega)).trans hp, hu2.step (by omega) hj1 hjn hji h39' hjm, by omega, fun k hk => by
          rw [hAt_swap (by omega) (by omega), if_neg (by omega), if_neg (by omega)]; exact hke k hk⟩, rfl, rfl, rfl⟩
theorem hAt_take {l : List Nat} {n k : Nat} (h : k < n) : hAt (l.take n) k = hAt l k := by
  simp [hAt, List.getD_eq_getElem?_getD, List.getElem?_take, h]
theorem hpush_fn (C : Mem) (b g c : Nat) (l : List Nat) (x : Nat) (hl : l.length ≤ 500000) (hh : HeapN l.length l) :
    Jog.Fn cx.P 53 [qI b, .iface 3 (.int .i64 x)] C [qObj b g c l.length, qArr g c l] fun _ _ L' => ∃ g' c' l', L' = [qObj b g' c' l'.length, qArr g' c' l'] ∧ l'.Perm (x :: l) ∧ HeapN l'.length l' := by
  refine Fn.intro (by kernel_rfl) Tryz.func53 rfl 12 rfl rfl (fun w0 => ?_)
  refine G.regionO [(2, 3)] rfl (fun R hR => ?_)
  iterate 2 refine D.pure rfl rfl rfl rfl rfl rfl ?_
  refine D.invokeP (Lr := []) (qpush_fn _ b g c l x (by omega)) (List.Perm.refl _) rfl rfl rfl rfl rfl (by kernel_rfl) rfl rfl rfl (fun _ => rfl) (fun v6 C6 L6 hle6 hq6 => ?_)
  obtain ⟨g2, c2, rfl⟩ := hq6
  refine D.done [(0, [], _)] ⟨rfl, trivial⟩ (hR _ _ _ rfl ?_); clear hR R
  refine G.eqL (L' := [qObj b g2 c2 (l ++ [x]).length, qArr g2 c2 (l ++ [x])]) rfl ?_
  refine G.regionO [(2, 3), (4, 3)] rfl (fun R hR => ?_)
  iterate 2 refine D.pure rfl rfl rfl rfl rfl rfl ?_
  refine D.invokeV (.head _) (Lr := [qObj b g2 c2 (l ++ [x]).length, qArr g2 c2 (l ++ [x])]) (qlen_fn _ g2 c2 (l ++ [x]).length) (List.Perm.refl _) rfl rfl rfl rfl rfl (by kernel_rfl) rfl rfl rfl rfl rfl (fun _ => rfl) (fun v9 C9 L9 hle9 hq9 => ?_)
  obtain ⟨rfl, rfl⟩ := hq9
  refine D.i64 ((l.length : Int)) rfl rfl rfl rfl (by simp) (by omega) (by omega) rfl rfl ?_
  refine D.call (hup_fn _ b g2 c2 (l ++ [x]) l.length (by simp) (by simp; omega) (UpH.snoc hh)) rfl (.inr (by decide)) rfl rfl rfl rfl rfl rfl (List.Perm.refl _) (fun _ => rfl) (fun v11 C11 L11 hle11 hq11 => ?_)
  refine D.done [] trivial (hR _ _ _ rfl ?_); clear hR R
  obtain ⟨l', rfl, hp, hh2⟩ := hq11
  refine G.end0 rfl ?_
  exact ⟨g2, c2, l', by simp, hp.trans List.perm_append_comm, hh2⟩
theorem hpop_fn (C : Mem) (b g c : Nat) (l : List Nat) (hl : l.length ≤ 500000) (h0 : 0 < l.length) (hh : HeapN l.length l) :
    Jog.Fn cx.P 55 [qI b] C [qObj b g c l.length, qArr g c l] fun u _ L' => ∃ l', u = .iface 3 (.int .i64 (hAt l 0)) ∧ L' = [qObj b g c l'.length, qArr g c l'] ∧ (hAt l 0 :: l').Perm l ∧ HeapN l'.length l' := by
  refine Fn.intro (by kernel_rfl) Tryz.func55 rfl 15 rfl rfl (fun w0 => ?_)
  refine G.region rfl (fun R hR => ?_)
  refine D.pure rfl rfl rfl rfl rfl rfl ?_
  refine D.done [(0, [], _)] ⟨rfl, trivial⟩ (hR _ _ _ rfl ?_); clear hR R
  refine G.regionO [(1, 3)] rfl (fun R hR => ?_)
  refine D.pure rfl rfl rfl rfl rfl rfl ?_
  refine D.invokeV (.head _) (Lr := [qObj b g c l.length, qArr g c l]) (qlen_fn _ g c l.length) (List.Perm.refl _) rfl rfl rfl rfl rfl (by kernel_rfl) rfl rfl rfl rfl rfl (fun _ => rfl) (fun v5 C5 L5 hle5 hq5 => ?_)
  obtain ⟨rfl, rfl⟩ := hq5
  refine D.i64 (((l.length - 1 : Nat) : Int)) rfl rfl rfl rfl (by omega) (by omega) (by omega) rfl rfl ?_
  refine D.pure rfl rfl rfl rfl rfl rfl ?_
  refine D.done [(0, [], _), (3, [], _)] ⟨rfl, rfl, trivial⟩ (hR _ _ _ rfl ?_); clear hR R
  refine G.eqL (L' := [qObj b g c l.length, qArr g c l]) rfl ?_
  refine G.regionO [(2, 3)] rfl (fun R hR => ?_)
  iterate 2 refine D.pure rfl rfl rfl rfl rfl rfl ?_
  refine D.invokeV (.head _) (Lr := [qObj b g c l.length]) (swap_fn _ g c l 0 (l.length - 1) h0 (by omega)) (List.Perm.swap _ _ _) rfl rfl rfl rfl rfl (by kernel_rfl) rfl rfl rfl rfl rfl (fun _ => rfl) (fun v9 C9 L9 hle9 hq9 => ?_)
  subst hq9
  refine D.done [(0, [], _), (3, [], _)] ⟨rfl, rfl, trivial⟩ (hR _ _ _ rfl ?_); clear hR R
  obtain ⟨l1, hl1⟩ : ∃ l1, swapL l 0 (l.length - 1) = l1 := ⟨_, rfl⟩
  have hp1 : l1.Perm l := by rw [← hl1]; exact swapL_perm h0 (by omega)
  have hd1 : DownH (l.length - 1) l1 0 := by rw [← hl1]; exact DownH.swap0 hh h0
  have ht1 : hAt l1 (l.length - 1) = hAt l 0 := by rw [← hl1, hAt_swap h0 (by omega), if_pos rfl]
  have hll := hp1.length_eq
  rw [hl1]
  refine G.perm (L' := [qObj b g c l1.length, qArr g c l1]) (by rw [hll]; exact List.Perm.swap _ _ _) ?_
  refine G.regionO [(2, 3)] rfl (fun R hR => ?_)
  iterate 2 refine D.pure rfl rfl rfl rfl rfl rfl ?_
  refine D.call (hdown_fn _ b g c l1 0 (l.length - 1) (by omega) (by omega) (Nat.zero_le _) hd1) rfl (.inr (by decide)) rfl rfl rfl rfl rfl rfl (List.Perm.refl _) (fun _ => rfl) (fun v12 C12 L12 hle12 hq12 => ?_)
  obtain ⟨l2, rfl, hp2, hh2, hk2⟩ := hq12
  refine D.done [(0, [], _)] ⟨rfl, trivial⟩ (hR _ _ _ rfl ?_); clear hR R
  have hll2 := hp2.length_eq
  refine G.eqL (L' := [qObj b g c l2.length, qArr g c l2]) rfl ?_
  refine G.regionO [(1, 3)] rfl (fun R hR => ?_)
  refine D.pure rfl rfl rfl rfl rfl rfl ?_
  refine D.invokeP (Lr := []) (qpop_fn _ b g c l2 (by omega) (by omega)) (List.Perm.refl _) rfl rfl rfl rfl rfl (by kernel_rfl) rfl rfl rfl (fun _ => rfl) (fun v14 C14 L14 hle14 hq14 => ?_)
  obtain ⟨rfl, rfl⟩ := hq14
  refine D.pure rfl rfl rfl rfl rfl rfl ?_
  refine D.done [(2, [], _)] ⟨rfl, trivial⟩ (hR _ _ _ rfl ?_); clear hR R
  refine G.retN (G.fin1 rfl rfl ?_)
  have hn : l2.length - 1 = l.length - 1 := by omega
  have htop : hAt l2 (l2.length - 1) = hAt l 0 := by rw [hn, hk2 _ (Nat.le_refl _), ht1]
  have hlt : (l2.take (l2.length - 1)).length = l2.length - 1 := by rw [List.length_take]; omega
  refine ⟨l2.take (l2.length - 1), by rw [htop], by rw [hlt]; rfl, ?_, fun k h1 h2 => ?_⟩
  · rw [← htop]
    have e : l2 = l2.take (l2.length - 1) ++ [hAt l2 (l2.length - 1)] := by
      conv => lhs; rw [← List.take_append_drop (l2.length - 1) l2]
      congr 1
      have h3 := get_hAt (l := l2) (k := l2.length - 1) (by omega)
      obtain ⟨h4, h5⟩ := List.getElem?_eq_some_iff.1 h3
      rw [List.drop_eq_getElem_cons h4, h5, List.drop_eq_nil_of_le (by omega)]
    refine (List.perm_append_comm (l₁ := [hAt l2 (l2.length - 1)])).trans ?_
    rw [← e]
    exact hp2.trans hp1
  · rw [hlt] at h2
    rw [hAt_take (by omega), hAt_take (by omega)]
    exact hh2 k h1 (by omega)
end Go.Proofs.YtfelabnohopfdaaGreatDoor
namespace Go.Proofs.YtfelabnohopfdaaGreatDoor
open Go Go.Jog
set_option maxRecDepth 100000

theorem cnt_one {A : List Arc3} {a : Arc3} {dn : List Nat} {u : Nat} : cnt (A ++ [a]) dn u = cnt A dn u + (if (decide (a.up = u) && !(dn.contains a.lo)) = true then 1 else 0) := by
  unfold cnt
  rw [List.countP_append, List.countP_cons, List.countP_nil, Nat.zero_add]
theorem cnt_len {A : List Arc3} {dn : List Nat} {u : Nat} : cnt A dn u ≤ A.length := List.countP_le_length
theorem hAt_set {l : List Nat} {u v x : Nat} (h : u < l.length) : hAt (l.set u x) v = if v = u then x else hAt l v := by
  unfold hAt
  simp only [List.getD_eq_getElem?_getD, List.getElem?_set]
  by_cases e : u = v
  · subst e; simp [h]
  · rw [if_neg e, if_neg (Ne.symm e)]
theorem nats_rep (n : Nat) : zrow [Value.int .i64 0] n = (List.replicate n 0).map intN := by
  rw [zrow_rep, List.map_replicate]; rfl

theorem before_fn (C : Mem) (p : Value) (N : List Str) (A : List Arc3) (hg : Graph C p N A) (hok : GOk N A) :
    Jog.Fn cx.P 52 [p] C [] fun u _ L' => ∃ g cs, u = qS g N.length N.length ∧ L' = [.arr (qS g N.length N.length) 3 1 N.length (cs.map intN)] ∧ cs.length = N.length ∧ ∀ v, v < N.length → hAt cs v = cnt A [] v := by
  obtain ⟨b, bm, vn, va, vx, vs, hgp, hobj, hnames, hat, harcs, hnx, hlen, hrows⟩ := hg
  subst hgp
  obtain ⟨An, cn, rfl, _⟩ := id hnames
  obtain ⟨Aa, ca, rfl, _⟩ := id harcs
  simp only [List.length_map] at hobj harcs hnames
  have hb := hok.below
  have hAl := hok.arcs
  have hNl := hok.names
  refine Fn.intro (by kernel_rfl) Tryz.func52 rfl 30 rfl rfl (fun w0 => ?_)
  refine G.region rfl (fun R hR => ?_)
  refine D.pure rfl rfl rfl rfl rfl rfl ?_
  refine D.done [(0, [], _)] ⟨rfl, trivial⟩ (hR _ _ _ rfl ?_); clear hR R
  refine G.region rfl (fun R hR => ?_)
  iterate 3 refine D.pure rfl rfl rfl rfl rfl rfl ?_
  refine D.loadP0 (PtrTo.block (Mem.get hobj (by (repeat (first | exact Mem.le.refl _ | assumption | (apply Mem.le.trans; rotate_left; assumption))))) _) rfl rfl rfl rfl rfl rfl rfl rfl ?_
  refine D.pure rfl rfl rfl rfl rfl rfl ?_
  refine D.makeArr rfl rfl rfl rfl rfl rfl rfl rfl rfl (Nat.le_refl _) (by show 8 * N.length ≤ 281474976710656; omega) (by simp only [maxLen]; omega) (fun _ => rfl) (fun b11 => ?_)
  refine D.pure rfl rfl rfl rfl rfl rfl ?_
  refine D.done [(0, [], _), (3, [], _)] ⟨rfl, rfl, trivial⟩ (hR _ _ _ rfl ?_); clear hR R
  refine G.region rfl (fun R hR => ?_)
  iterate 3 refine D.pure rfl rfl rfl rfl rfl rfl ?_
  refine D.loadP0 (PtrTo.block (Mem.get hobj (by (repeat (first | exact Mem.le.refl _ | assumption | (apply Mem.le.trans; rotate_left; assumption))))) _) rfl rfl rfl rfl rfl rfl rfl rfl ?_
  iterate 2 refine D.pure rfl rfl rfl rfl rfl rfl ?_
  refine D.done [(3, [], _), (15, [], _), (16, [], _), (17, [], _)] ⟨rfl, rfl, rfl, rfl, trivial⟩ (hR _ _ _ rfl ?_); clear hR R
  refine G.eqL (L' := [.arr (qS b11 N.length N.length) 3 1 N.length ((List.replicate N.length 0).map intN)]) (by rw [← nats_rep]; rfl) ?_
  refine G.loop (fun fr C' L' μ => ∃ (k : Nat) (cs : List Nat), (k ≤ A.length ∧ cs.length = N.length ∧ ∀ v, v < N.length → hAt cs v = cnt (A.take k) [] v) ∧ fr = [(3, [], qS b11 N.length N.length), (15, [], .slice Aa A.length ca), (16, [], .int .i64 A.length), (17, [], .int .i64 k)] ∧ L' = [.arr (qS b11 N.length N.length) 3 1 N.length (cs.map intN)] ∧ μ = A.length - k) (fr' := [(3, [], _), (15, [], _), (16, [], _), (17, [], _)]) ⟨rfl, rfl, rfl, rfl, trivial⟩ ⟨0, _, ⟨Nat.zero_le _, List.length_replicate, fun v hv => by simp [hAt, List.getD_eq_getElem?_getD, hv, cnt]⟩, rfl, rfl, rfl⟩ (fun fr C0' L0' m hle0 hI => ?_)
  obtain ⟨k, cs, ⟨hk, hcl, hcs⟩, rfl, rfl, rfl⟩ := hI
  refine G.region rfl (fun R hR => ?_)
  refine D.pure rfl rfl rfl rfl rfl rfl ?_
  refine D.done [(3, [], _), (15, [], _), (16, [], _), (17, [], _), (18, [], _)] ⟨rfl, rfl, rfl, rfl, rfl, trivial⟩ (hR _ _ _ rfl ?_); clear hR R
  refine G.cond rfl (fun h18 => ?_) (fun h18 => ?_)
  · skip
    simp only [decide_eq_true_eq] at h18
    have hkl : k < A.length := by omega
    obtain ⟨a, ha⟩ : ∃ a, A[k]? = some a := ⟨A[k], List.getElem?_eq_getElem hkl⟩
    have hamem : a ∈ A := List.mem_of_getElem? ha
    obtain ⟨hlo, hup⟩ := hb a hamem
    have htk : A.take (k + 1) = A.take k ++ [a] := by rw [List.take_add_one, ha]; rfl
    have hca := hcs a.up hup
    have hcb := cnt_len (A := A.take k) (dn := []) (u := a.up)
    rw [List.length_take] at hcb
    refine G.region rfl (fun R hR => ?_)
    refine D.index0 (harcs.mono (by (repeat (first | exact Mem.le.refl _ | assumption | (apply Mem.le.trans; rotate_left; assumption))))) rfl rfl rfl rfl rfl rfl rfl rfl rfl rfl (by omega) (row := Arc3.enc a) (by simp [ha]) (fun _ => rfl) (fun p19 hp19 => ?_)
    refine D.loadP0 hp19 rfl rfl rfl rfl rfl rfl rfl rfl ?_
    refine D.alloc rfl rfl rfl rfl rfl (fun _ => rfl) (fun b5 => ?_)
    refine D.store (j := 0) rfl rfl rfl rfl rfl rfl rfl rfl rfl rfl rfl rfl ?_
    refine D.done [(3, [], _), (5, [], _), (15, [], _), (16, [], _), (17, [], _)] ⟨rfl, rfl, rfl, rfl, rfl, trivial⟩ (hR _ _ _ rfl ?_); clear hR R
    refine G.region rfl (fun R hR => ?_)
    iterate 2 refine D.pure rfl rfl rfl rfl rfl rfl ?_
    refine D.loadL (.head _) rfl rfl rfl rfl rfl rfl rfl rfl rfl ?_
    refine D.indexS (a.up) rfl rfl rfl rfl rfl rfl rfl rfl rfl rfl (fun _ => ⟨by omega, by omega, (by simp)⟩) rfl rfl ?_
    refine D.loadArr (.tail _ (.head _)) rfl rfl rfl rfl rfl rfl (fun _ => (by rw [nats_at (by omega)]; rfl)) rfl rfl ?_
    refine D.i64 (((hAt cs a.up + 1 : Nat) : Int)) rfl rfl rfl rfl (by omega) (by omega) (by omega) rfl rfl ?_
    refine D.indexS (a.up) rfl rfl rfl rfl rfl rfl rfl rfl rfl rfl (fun _ => ⟨by omega, by omega, (by simp)⟩) rfl rfl ?_
    refine D.storeArr (j := 1) rfl rfl rfl rfl rfl rfl rfl rfl rfl rfl rfl (by simp; omega) ?_
    refine D.done [(3, [], _), (15, [], _), (16, [], _), (17, [], _)] ⟨rfl, rfl, rfl, rfl, trivial⟩ (hR _ _ _ rfl ?_); clear hR R
    refine G.region rfl (fun R hR => ?_)
    refine D.i64 _ rfl rfl rfl rfl rfl (by omega) (by omega) rfl rfl ?_
    refine D.pure rfl rfl rfl rfl rfl rfl ?_
    refine D.done [(3, [], _), (15, [], _), (16, [], _), (17, [], _)] ⟨rfl, rfl, rfl, rfl, trivial⟩ (hR _ _ _ rfl ?_); clear hR R
    refine G.dropE 1 rfl ?_
    refine G.eqL (L' := [.arr (qS b11 N.length N.length) 3 1 N.length ((cs.set a.up (hAt cs a.up + 1)).map intN)]) (by rw [← nats_set (by omega)]; rfl) ?_
    refine G.again (m' := A.length - (k + 1)) (by omega) (by (repeat (first | exact Mem.le.refl _ | assumption | (apply Mem.le.trans; rotate_left; assumption)))) (fr' := [(3, [], _), (15, [], _), (16, [], _), (17, [], _)]) ⟨rfl, rfl, rfl, rfl, trivial⟩ ⟨k + 1, cs.set a.up (hAt cs a.up + 1), ⟨by omega, by rw [List.length_set]; exact hcl, fun v hv => by
      rw [hAt_set (by omega), htk, cnt_one]
      by_cases e : v = a.up
      · subst e; simp [hca]
      · rw [if_neg e, hcs v hv]; simp [Ne.symm e]⟩, rfl, rfl, rfl⟩
  · skip
    simp only [decide_eq_false_iff_not] at h18
    have hkl : k = A.length := by omega
    subst hkl
    rw [List.take_length] at hcs
    refine G.region rfl (fun R hR => ?_)
    iterate 2 refine D.pure rfl rfl rfl rfl rfl rfl ?_
    refine D.done [(2, [], _)] ⟨rfl, trivial⟩ (hR _ _ _ rfl ?_); clear hR R
    refine G.retN (G.fin1 rfl rfl ?_)
    exact ⟨b11, cs, rfl, rfl, hcl, hcs⟩
end Go.Proofs.YtfelabnohopfdaaGreatDoor
namespace Go.Proofs.YtfelabnohopfdaaGreatDoor
open Go Go.Jog
set_option maxRecDepth 100000

def upC (T : List Arc3) (u : Nat) : Nat := T.countP fun a => decide (a.up = u)
theorem upC_snoc {T : List Arc3} {a : Arc3} {u : Nat} : upC (T ++ [a]) u = upC T u + (if a.up = u then 1 else 0) := by
  unfold upC
  rw [List.countP_append, List.countP_cons, List.countP_nil, Nat.zero_add]
  simp
structure Inner (A : List Arc3) (n : Nat) (dn l2 : List Nat) (T : List Arc3) (cs l3 : List Nat) : Prop where
  cl : cs.length = n
  ct : ∀ u, u < n → hAt cs u + upC T u = cnt A dn u
  nd : l3.Nodup
  mem : ∀ u, u ∈ l3 ↔ u ∈ l2 ∨ (u < n ∧ hAt cs u = 0 ∧ 0 < cnt A dn u)
theorem Inner.start {A : List Arc3} {n : Nat} {dn l2 cs : List Nat} (hc : cs.length = n) (h : ∀ u, u < n → hAt cs u = cnt A dn u) (hn : l2.Nodup) : Inner A n dn l2 [] cs l2 :=
  ⟨hc, fun u hu => by rw [h u hu]; simp [upC], hn, fun u => ⟨.inl, fun h2 => h2.elim id (fun ⟨h3, h4, h5⟩ => by rw [h u h3] at h4; omega)⟩⟩
theorem Inner.pos {A : List Arc3} {n i k : Nat} {dn l2 cs l3 : List Nat} {a : Arc3} (h : Inner A n dn l2 ((nexts A i).take k) cs l3) (ha : (nexts A i)[k]? = some a) (hi : i ∉ dn) (hn : a.up < n) : 1 ≤ hAt cs a.up := by
  have h1 := h.ct a.up hn
  have h2 := cnt_snoc (A := A) (u := a.up) hi
  have h3 : upC ((nexts A i).take (k + 1)) a.up ≤ upC (nexts A i) a.up := (List.take_sublist _ _).countP_le
  rw [List.take_add_one, ha] at h3
  have h4 := upC_snoc (T := (nexts A i).take k) (a := a) (u := a.up)
  rw [if_pos rfl] at h4
  have h5 : upC ((nexts A i).take k ++ (some a).toList) a.up = upC ((nexts A i).take k) a.up + 1 := h4
  rw [h5] at h3
  have h6 : (nexts A i).countP (fun b => decide (b.up = a.up)) = upC (nexts A i) a.up := rfl
  omega
theorem Inner.step {A : List Arc3} {n : Nat} {dn l2 cs l3 l4 : List Nat} {T : List Arc3} {a : Arc3} (h : Inner A n dn l2 T cs l3) (hn : a.up < n) (hp : 1 ≤ hAt cs a.up) (hz : ∀ u ∈ l2, cnt A dn u = 0)
    (hl : (hAt cs a.up ≠ 1 ∧ l4 = l3) ∨ (hAt cs a.up = 1 ∧ l4.Perm (a.up :: l3))) : Inner A n dn l2 (T ++ [a]) (cs.set a.up (hAt cs a.up - 1)) l4 := by
  have hcl := h.cl
  have hset : ∀ u, hAt (cs.set a.up (hAt cs a.up - 1)) u = if u = a.up then hAt cs a.up - 1 else hAt cs u := fun u => hAt_set (by omega)
  have hca := h.ct a.up hn
  have hnl : a.up ∉ l3 := fun hm => by
    rcases (h.mem a.up).1 hm with h1 | ⟨_, h1, _⟩
    · have := hz _ h1; omega
    · omega
  refine ⟨by simp [hcl], fun u hu => ?_, ?_, fun u => ?_⟩
  · rw [hset, upC_snoc]
    have := h.ct u hu
    by_cases e : u = a.up
    · subst e; rw [if_pos rfl, if_pos rfl]; omega
    · rw [if_neg e, if_neg (Ne.symm e)]; omega
  · rcases hl with ⟨_, rfl⟩ | ⟨_, hl⟩
    · exact h.nd
    · exact hl.nodup_iff.2 (List.nodup_cons.2 ⟨hnl, h.nd⟩)
  · rw [hset]
    rcases hl with ⟨h1, rfl⟩ | ⟨h1, hl⟩
    · rw [h.mem]
      by_cases e : u = a.up
      · subst e
        rw [if_pos rfl]
        constructor
        · rintro (h2 | ⟨_, h2, _⟩)
          · exact .inl h2
          · omega
        · rintro (h2 | ⟨_, h2, _⟩)
          · exact .inl h2
          · omega
      · rw [if_neg e]
    · rw [hl.mem_iff, List.mem_cons, h.mem]
      by_cases e : u = a.up
      · subst e
        rw [if_pos rfl]
        exact ⟨fun _ => .inr ⟨hn, by omega, by omega⟩, fun _ => .inl rfl⟩
      · rw [if_neg e]
        exact ⟨fun h2 => h2.elim (fun e2 => absurd e2 e) id, .inr⟩
theorem Inner.done {A : List Arc3} {n i : Nat} {dn l l2 cs l3 : List Nat} (h : Inner A n dn l2 (nexts A i) cs l3) (hk : Kahn A n dn l) (hp : (i :: l2).Perm l) (hmin : ∀ u ∈ l, i ≤ u) :
    Kahn A n (dn ++ [i]) l3 ∧ ∀ u, u < n → hAt cs u = cnt A (dn ++ [i]) u := by
  have hil : i ∈ l := hp.mem_iff.1 (by simp)
  obtain ⟨hin, hid, hic⟩ := (hk.av i).1 hil
  have hnd : (i :: l2).Nodup := hp.nodup_iff.2 hk.avnd
  rw [List.nodup_cons] at hnd
  have hcs : ∀ u, u < n → hAt cs u = cnt A (dn ++ [i]) u := fun u hu => by
    have h1 := h.ct u hu
    have h2 := cnt_snoc (A := A) (u := u) hid
    have h3 : (nexts A i).countP (fun b => decide (b.up = u)) = upC (nexts A i) u := rfl
    omega
  have hl2 : ∀ u, u ∈ l2 ↔ u ∈ l ∧ u ≠ i := fun u => by
    rw [← hp.mem_iff, List.mem_cons]
    constructor
    · intro h1; exact ⟨.inr h1, fun e => hnd.1 (e ▸ h1)⟩
    · rintro ⟨h1 | h1, h2⟩
      · exact absurd h1 h2
      · exact h1
  refine ⟨hk.step hil hmin h.nd (fun u => ?_), hcs⟩
  rw [h.mem, hl2, hk.av]
  simp only [List.mem_append, List.mem_singleton, not_or]
  have hsn := cnt_snoc (A := A) (u := u) hid
  constructor
  · rintro (⟨⟨h1, h2, h3⟩, h4⟩ | ⟨h1, h2, h3⟩)
    · exact ⟨h1, ⟨h2, h4⟩, by omega⟩
    · refine ⟨h1, ⟨fun hm => ?_, fun e => by subst e; omega⟩, by rw [← hcs u h1]; exact h2⟩
      obtain ⟨pre, post, rfl⟩ := List.append_of_mem hm
      have : cnt A (pre ++ u :: post) u = 0 := cnt_zero.2 (fun a ha hu => by
        have := hk.ord pre u post rfl a ha hu
        simp [this])
      omega
  · rintro ⟨h1, ⟨h2, h3⟩, h4⟩
    by_cases e : cnt A dn u = 0
    · exact .inl ⟨⟨h1, h2, e⟩, h3⟩
    · exact .inr ⟨h1, by rw [hcs u h1]; exact h4, by omega⟩
theorem kahn_start {A : List Arc3} {n : Nat} {l : List Nat} (hn : l.Nodup) (hm : ∀ u, u ∈ l ↔ u < n ∧ cnt A [] u = 0) : Kahn A n [] l :=
  ⟨List.nodup_nil, fun u hu => (by cases hu), ord_nil, hn, fun u => by rw [hm]; simp, fun o _ => .inl ⟨o, rfl⟩⟩
end Go.Proofs.YtfelabnohopfdaaGreatDoor
namespace Go.Proofs.YtfelabnohopfdaaGreatDoor
open Go Go.Jog
set_option maxRecDepth 100000

def SortOut (C : Mem) (A : List Arc3) (n : Nat) (u : Value) : Prop :=
  ∃ v o ok, u = .tuple #[v, .bool ok] ∧ Sl C 1 v (o.map encN) ∧ o.length ≤ n ∧ (∀ x ∈ o, x < n) ∧ ((ok = true ∧ TopoLeast A n o) ∨ (ok = false ∧ ∃ k w, 0 < k ∧ Walk A k w w))

set_option maxHeartbeats 4000000 in
theorem sorted_fn (C : Mem) (p : Value) (N : List Str) (A : List Arc3) (hg : Graph C p N A) (hok : GOk N A) : Pur cx.P 23 [p] C fun u C' => SortOut C' A N.length u := by
  have hgr := hg
  obtain ⟨b, bm, vn, va, vx, vs, hgp, hobj, hnames, hat, harcs, hnx, hlen, hrows⟩ := hg
  subst hgp
  obtain ⟨An, cn, rfl, _⟩ := id hnames
  obtain ⟨Ax, cxx, rfl, _⟩ := id hnx
  simp only [List.length_map] at hobj hnx hnames
  have hb := hok.below
  have hAl := hok.arcs
  have hNl := hok.names
  refine Fn.intro (by kernel_rfl) Tryz.func23 rfl 85 rfl rfl (fun w0 => ?_)
  refine G.region rfl (fun R hR => ?_)
  iterate 2 refine D.pure rfl rfl rfl rfl rfl rfl ?_
  refine D.done [(0, [], _)] ⟨rfl, trivial⟩ (hR _ _ _ rfl ?_); clear hR R
  refine G.regionO [(1, 3)] rfl (fun R hR => ?_)
  refine D.pure rfl rfl rfl rfl rfl rfl ?_
  refine D.call (before_fn _ _ N A (hgr.mono (by (repeat (first | exact Mem.le.refl _ | assumption | (apply Mem.le.trans; rotate_left; assumption))))) hok) rfl (.inr (by decide)) rfl rfl rfl rfl rfl rfl (List.Perm.refl _) (fun _ => rfl) (fun v13 C13 L13 hle13 hq13 => ?_)
  refine D.pure rfl rfl rfl rfl rfl rfl ?_
  obtain ⟨g0, cs, rfl, rfl, hcl, hcs⟩ := hq13
  refine D.done [(0, [], _), (4, [], _)] ⟨rfl, rfl, trivial⟩ (hR _ _ _ rfl ?_); clear hR R
  refine G.eqL (L' := [.arr (qS g0 N.length N.length) 3 1 N.length (cs.map intN)]) rfl ?_
  refine G.region rfl (fun R hR => ?_)
  refine D.buildArr [] rfl rfl rfl rfl rfl rfl rfl rfl rfl rfl rfl rfl (fun _ => rfl) (fun b14 => ?_)
  refine D.box rfl rfl rfl rfl rfl rfl (fun _ => rfl) (fun b15 => ?_)
  refine D.pure rfl rfl rfl rfl rfl rfl ?_
  refine D.done [(0, [], _), (4, [], _), (5, [], _)] ⟨rfl, rfl, rfl, trivial⟩ (hR _ _ _ rfl ?_); clear hR R
  refine G.region rfl (fun R hR => ?_)
  iterate 3 refine D.pure rfl rfl rfl rfl rfl rfl ?_
  refine D.done [(0, [], _), (4, [], _), (5, [], _), (16, [], _), (17, [], _), (18, [], _)] ⟨rfl, rfl, rfl, rfl, rfl, rfl, trivial⟩ (hR _ _ _ rfl ?_); clear hR R
  refine G.loop (fun fr C' L' μ => ∃ (k g c : Nat) (l : List Nat), (k ≤ N.length ∧ l.Nodup ∧ (∀ u, u ∈ l ↔ u < k ∧ hAt cs u = 0) ∧ HeapN l.length l) ∧ fr = [(0, [], .pointer (some ⟨b, 0, none⟩)), (4, [], qS g0 N.length N.length), (5, [], qPtr b15), (16, [], qS g0 N.length N.length), (17, [], .int .i64 N.length), (18, [], .int .i64 k)] ∧ L' = [.obj b15 (.cells ⟨[qS g c l.length]⟩ 133 (0, 0)), .arr (qS g c l.length) 3 1 l.length (l.map intN), .arr (qS g0 N.length N.length) 3 1 N.length (cs.map intN)] ∧ μ = N.length - k) (fr' := [(0, [], _), (4, [], _), (5, [], _), (16, [], _), (17, [], _), (18, [], _)]) ⟨rfl, rfl, rfl, rfl, rfl, rfl, trivial⟩ ⟨0, b14, 0, [], ⟨Nat.zero_le _, List.nodup_nil, fun u => by simp, fun k h1 h2 => by simp at h2⟩, rfl, rfl, rfl⟩ (fun fr C0' L0' m hle0 hI => ?_)
  obtain ⟨k, g, c, l, ⟨hk, hnd, hmem, hheap⟩, rfl, rfl, rfl⟩ := hI
  refine G.region rfl (fun R hR => ?_)
  refine D.pure rfl rfl rfl rfl rfl rfl ?_
  refine D.done [(0, [], _), (4, [], _), (5, [], _), (16, [], _), (17, [], _), (18, [], _), (19, [], _)] ⟨rfl, rfl, rfl, rfl, rfl, rfl, rfl, trivial⟩ (hR _ _ _ rfl ?_); clear hR R
  refine G.cond rfl (fun h19 => ?_) (fun h19 => ?_)
  · skip
    simp only [decide_eq_true_eq] at h19
    have hkl : k < N.length := by omega
    have hll : l.length ≤ N.length := nodup_len hnd (fun x hx => by have := (hmem x).1 hx; omega)
    refine G.region rfl (fun R hR => ?_)
    refine D.pure rfl rfl rfl rfl rfl rfl ?_
    refine D.indexS (k) rfl rfl rfl rfl rfl rfl rfl rfl rfl rfl (fun _ => ⟨by omega, by omega, (by simp)⟩) rfl rfl ?_
    refine D.loadArr (.tail _ (.tail _ (.head _))) rfl rfl rfl rfl rfl rfl (fun _ => (by rw [nats_at (by omega)]; rfl)) rfl rfl ?_
    iterate 2 refine D.pure rfl rfl rfl rfl rfl rfl ?_
    refine D.done [(0, [], _), (4, [], _), (5, [], _), (6, [], _), (7, [], _), (16, [], _), (17, [], _), (18, [], _)] ⟨rfl, rfl, rfl, rfl, rfl, rfl, rfl, rfl, trivial⟩ (hR _ _ _ rfl ?_); clear hR R
    refine G.region rfl (fun R hR => ?_)
    iterate 2 refine D.pure rfl rfl rfl rfl rfl rfl ?_
    refine D.done [(0, [], _), (4, [], _), (5, [], _), (6, [], _), (16, [], _), (17, [], _), (18, [], _), (24, [], _)] ⟨rfl, rfl, rfl, rfl, rfl, rfl, rfl, rfl, trivial⟩ (hR _ _ _ rfl ?_); clear hR R
    refine G.cond rfl (fun h24 => ?_) (fun h24 => ?_)
    · skip
      have h24' : hAt cs k = 0 := by
        have h : (hAt cs k : Int) = 0 := by simpa using h24
        omega
      refine G.regionO [(4, 3)] rfl (fun R hR => ?_)
      iterate 4 refine D.pure rfl rfl rfl rfl rfl rfl ?_
      refine D.call (hpush_fn _ b15 g c l k (by omega) hheap) rfl (.inr (by decide)) rfl rfl rfl rfl rfl rfl (List.Perm.refl _) (fun _ => rfl) (fun v29 C29 L29 hle29 hq29 => ?_)
      obtain ⟨g2, c2, l2, rfl, hp2, hh2⟩ := hq29
      refine D.done [(0, [], _), (4, [], _), (5, [], _), (16, [], _), (17, [], _), (18, [], _)] ⟨rfl, rfl, rfl, rfl, rfl, rfl, trivial⟩ (hR _ _ _ rfl ?_); clear hR R
      refine G.region rfl (fun R hR => ?_)
      refine D.i64 _ rfl rfl rfl rfl rfl (by omega) (by omega) rfl rfl ?_
      refine D.pure rfl rfl rfl rfl rfl rfl ?_
      refine D.done [(0, [], _), (4, [], _), (5, [], _), (16, [], _), (17, [], _), (18, [], _)] ⟨rfl, rfl, rfl, rfl, rfl, rfl, trivial⟩ (hR _ _ _ rfl ?_); clear hR R
      refine G.again (m' := N.length - (k + 1)) (by omega) (by (repeat (first | exact Mem.le.refl _ | assumption | (apply Mem.le.trans; rotate_left; assumption)))) (fr' := [(0, [], _), (4, [], _), (5, [], _), (16, [], _), (17, [], _), (18, [], _)]) ⟨rfl, rfl, rfl, rfl, rfl, rfl, trivial⟩ ⟨k + 1, g2, c2, l2, ⟨by omega, hp2.nodup_iff.2 (List.nodup_cons.2 ⟨fun hm => by have := (hmem k).1 hm; omega, hnd⟩), fun u => by
        rw [hp2.mem_iff, List.mem_cons, hmem]
        constructor
        · rintro (e | ⟨h1, h2⟩)
          · subst e; exact ⟨by omega, h24'⟩
          · exact ⟨by omega, h2⟩
        · rintro ⟨h1, h2⟩
          by_cases e : u = k
          · exact .inl e
          · exact .inr ⟨by omega, h2⟩, hh2⟩, rfl, rfl, rfl⟩
    · skip
      have h24' : ¬ hAt cs k = 0 := fun e => by
        have : (false : Bool) = true := by rw [← h24]; simp [e]
        cases this
      refine G.region rfl (fun R hR => ?_)
      refine D.i64 _ rfl rfl rfl rfl rfl (by omega) (by omega) rfl rfl ?_
      refine D.pure rfl rfl rfl rfl rfl rfl ?_
      refine D.done [(0, [], _), (4, [], _), (5, [], _), (16, [], _), (17, [], _), (18, [], _)] ⟨rfl, rfl, rfl, rfl, rfl, rfl, trivial⟩ (hR _ _ _ rfl ?_); clear hR R
      refine G.again (m' := N.length - (k + 1)) (by omega) (by (repeat (first | exact Mem.le.refl _ | assumption | (apply Mem.le.trans; rotate_left; assumption)))) (fr' := [(0, [], _), (4, [], _), (5, [], _), (16, [], _), (17, [], _), (18, [], _)]) ⟨rfl, rfl, rfl, rfl, rfl, rfl, trivial⟩ ⟨k + 1, g, c, l, ⟨by omega, hnd, fun u => by
        rw [hmem]
        constructor
        · rintro ⟨h1, h2⟩; exact ⟨by omega, h2⟩
        · rintro ⟨h1, h2⟩
          refine ⟨?_, h2⟩
          have : u ≠ k := fun e => h24' (e ▸ h2)
          omega, hheap⟩, rfl, rfl, rfl⟩
  · skip
    simp only [decide_eq_false_iff_not] at h19
    have hkl : k = N.length := by omega
    subst hkl
    have hkahn : Kahn A N.length [] l := kahn_start hnd (fun u => by
      rw [hmem]
      constructor
      · rintro ⟨h1, h2⟩; exact ⟨h1, by rw [← hcs u h1]; exact h2⟩
      · rintro ⟨h1, h2⟩; exact ⟨h1, by rw [hcs u h1]; exact h2⟩)
    refine G.region rfl (fun R hR => ?_)
    refine D.pure rfl rfl rfl rfl rfl rfl ?_
    refine D.done [(0, [], _), (4, [], _), (5, [], _), (8, [], _)] ⟨rfl, rfl, rfl, rfl, trivial⟩ (hR _ _ _ rfl ?_); clear hR R
    refine G.nilArr 3 1 ?_
    refine G.loop (fun fr C' L' μ => ∃ (g c : Nat) (l dn cs : List Nat) (w : Value), (Kahn A N.length dn l ∧ HeapN l.length l ∧ cs.length = N.length ∧ ∀ u, u < N.length → hAt cs u = cnt A dn u) ∧ fr = [(0, [], .pointer (some ⟨b, 0, none⟩)), (4, [], qS g0 N.length N.length), (5, [], qPtr b15), (8, [], w)] ∧ L' = [.arr w 3 1 dn.length (dn.map intN), .obj b15 (.cells ⟨[qS g c l.length]⟩ 133 (0, 0)), .arr (qS g c l.length) 3 1 l.length (l.map intN), .arr (qS g0 N.length N.length) 3 1 N.length (cs.map intN)] ∧ μ = N.length - dn.length) (fr' := [(0, [], _), (4, [], _), (5, [], _), (8, [], _)]) ⟨rfl, rfl, rfl, rfl, trivial⟩ ⟨g, c, l, [], cs, _, ⟨hkahn, hheap, hcl, hcs⟩, rfl, rfl, rfl⟩ (fun fr C1' L1' m hle1 hI => ?_)
    obtain ⟨g, c, l, dn, cs, w, ⟨hka, hh, hcl2, hcs2⟩, rfl, rfl, rfl⟩ := hI
    have hll : l.length ≤ N.length := nodup_len hka.avnd (fun x hx => ((hka.av x).1 hx).1)
    refine G.region rfl (fun R hR => ?_)
    iterate 2 refine D.pure rfl rfl rfl rfl rfl rfl ?_
    refine D.loadL (.tail _ (.head _)) rfl rfl rfl rfl rfl rfl rfl rfl rfl ?_
    refine D.gives2 (qlen_fn _ g c l.length) rfl rfl rfl rfl rfl rfl rfl (fun _ => rfl) ?_
    refine D.pure rfl rfl rfl rfl rfl rfl ?_
    refine D.done [(0, [], _), (4, [], _), (5, [], _), (8, [], _), (35, [], _)] ⟨rfl, rfl, rfl, rfl, rfl, trivial⟩ (hR _ _ _ rfl ?_); clear hR R
    refine G.cond rfl (fun h35 => ?_) (fun h35 => ?_)
    · skip
      have h35' : 0 < l.length := by
        have h : (0 : Int) < l.length := by simpa using h35
        omega
      obtain ⟨i, hi⟩ : ∃ i, hAt l 0 = i := ⟨_, rfl⟩
      have hil : i ∈ l := by rw [← hi]; exact List.mem_of_getElem? (get_hAt h35')
      obtain ⟨hin, hid, hic⟩ := (hka.av i).1 hil
      have hmin : ∀ u ∈ l, i ≤ u := fun u hu => by
        obtain ⟨j, hj⟩ := List.getElem?_of_mem hu
        have := hh.top j (List.getElem?_eq_some_iff.1 hj).1
        rw [hAt_get hj, hi] at this
        exact this
      have hdl : (dn ++ [i]).length ≤ N.length := nodup_len (by
        rw [List.nodup_append]
        exact ⟨hka.nodup, by simp, fun a ha b hb e => by simp only [List.mem_singleton] at hb; subst hb; subst e; exact hid ha⟩) (fun x hx => by
          rcases List.mem_append.1 hx with h | h
          · exact hka.below x h
          · rw [List.mem_singleton.1 h]; exact hin)
      rw [List.length_append, List.length_singleton] at hdl
      obtain ⟨v, hv⟩ : ∃ v, vs[i]? = some v := ⟨vs[i]'(by omega), List.getElem?_eq_getElem (by omega)⟩
      have hvr := hrows i v hv
      obtain ⟨Av, cv, rfl, _⟩ := id hvr
      simp only [List.length_map] at hvr hv
      have hnl : (nexts A i).length ≤ A.length := List.length_filter_le _ _
      have hrv : (vs.map fun v => [v])[i]? = some [Value.slice Av (nexts A i).length cv] := by rw [List.getElem?_map, hv]; rfl
      refine G.perm (L' := [qObj b15 g c l.length, qArr g c l, .arr w 3 1 dn.length (dn.map intN), .arr (qS g0 N.length N.length) 3 1 N.length (cs.map intN)]) ((List.Perm.swap _ _ _).trans ((List.Perm.swap _ _ _).cons _)) ?_
      refine G.regionO [(2, 3)] rfl (fun R hR => ?_)
      iterate 2 refine D.pure rfl rfl rfl rfl rfl rfl ?_
      refine D.call (hpop_fn _ b15 g c l (by omega) h35' hh) rfl (.inr (by decide)) rfl rfl rfl rfl rfl rfl (List.Perm.refl _) (fun _ => rfl) (fun v38 C38 L38 hle38 hq38 => ?_)
      obtain ⟨l2, rfl, rfl, hp2, hh2⟩ := hq38
      rw [hi] at hp2
      rw [hi]
      refine D.assert rfl rfl rfl rfl rfl rfl rfl rfl rfl ?_
      refine D.pure rfl rfl rfl rfl rfl rfl ?_
      refine D.done [(0, [], _), (4, [], _), (5, [], _), (8, [], _), (9, [], _)] ⟨rfl, rfl, rfl, rfl, rfl, trivial⟩ (hR _ _ _ rfl ?_); clear hR R
      refine G.eqL (L' := [.obj b15 (.cells ⟨[qS g c l2.length]⟩ 133 (0, 0)), .arr (qS g c l2.length) 3 1 l2.length (l2.map intN), .arr w 3 1 dn.length (dn.map intN), .arr (qS g0 N.length N.length) 3 1 N.length (cs.map intN)]) rfl ?_
      refine G.region rfl (fun R hR => ?_)
      iterate 2 refine D.pure rfl rfl rfl rfl rfl rfl ?_
      refine D.buildSlice [[.int .i64 i]] rfl rfl rfl rfl rfl rfl rfl rfl rfl rfl rfl rfl (fun _ => rfl) (fun p42 C42 hle42 hs42 => ?_)
      refine D.append (j := 2) rfl rfl rfl rfl rfl rfl rfl rfl rfl rfl rfl hs42 rfl (by simp only [List.length_singleton, maxLen]; omega) (by simp only [List.length_singleton]; omega) (fun _ => rfl) (fun v43 => ?_)
      refine D.pure rfl rfl rfl rfl rfl rfl ?_
      refine D.done [(0, [], _), (4, [], _), (5, [], _), (8, [], _), (9, [], _)] ⟨rfl, rfl, rfl, rfl, rfl, trivial⟩ (hR _ _ _ rfl ?_); clear hR R
      refine G.region rfl (fun R hR => ?_)
      iterate 3 refine D.pure rfl rfl rfl rfl rfl rfl ?_
      refine D.loadP0 (PtrTo.block (Mem.get hobj (by (repeat (first | exact Mem.le.refl _ | assumption | (apply Mem.le.trans; rotate_left; assumption))))) _) rfl rfl rfl rfl rfl rfl rfl rfl ?_
      refine D.pure rfl rfl rfl rfl rfl rfl ?_
      refine D.index0 (hnx.mono (by (repeat (first | exact Mem.le.refl _ | assumption | (apply Mem.le.trans; rotate_left; assumption))))) rfl rfl rfl rfl rfl rfl rfl rfl rfl rfl (by omega) hrv (fun _ => rfl) (fun p49 hp49 => ?_)
      refine D.loadP0 hp49 rfl rfl rfl rfl rfl rfl rfl rfl ?_
      iterate 2 refine D.pure rfl rfl rfl rfl rfl rfl ?_
      refine D.done [(0, [], _), (4, [], _), (5, [], _), (8, [], _), (50, [], _), (51, [], _), (52, [], _)] ⟨rfl, rfl, rfl, rfl, rfl, rfl, rfl, trivial⟩ (hR _ _ _ rfl ?_); clear hR R
      have hl2z : ∀ u ∈ l2, cnt A dn u = 0 := fun u hu => ((hka.av u).1 (hp2.mem_iff.1 (by simp [hu]))).2.2
      have hl2n : l2.Nodup := (List.nodup_cons.1 (hp2.nodup_iff.2 hka.avnd)).2
      refine G.eqL (L' := [.arr v43 3 1 (dn ++ [i]).length ((dn ++ [i]).map intN), .obj b15 (.cells ⟨[qS g c l2.length]⟩ 133 (0, 0)), .arr (qS g c l2.length) 3 1 l2.length (l2.map intN), .arr (qS g0 N.length N.length) 3 1 N.length (cs.map intN)]) (by simp) ?_
      refine G.loop (fun fr C' L' μ => ∃ (k g c : Nat) (cs3 l3 : List Nat), (k ≤ (nexts A i).length ∧ Inner A N.length dn l2 ((nexts A i).take k) cs3 l3 ∧ HeapN l3.length l3) ∧ fr = [(0, [], .pointer (some ⟨b, 0, none⟩)), (4, [], qS g0 N.length N.length), (5, [], qPtr b15), (8, [], v43), (50, [], .slice Av (nexts A i).length cv), (51, [], .int .i64 (nexts A i).length), (52, [], .int .i64 k)] ∧ L' = [.arr v43 3 1 (dn ++ [i]).length ((dn ++ [i]).map intN), .obj b15 (.cells ⟨[qS g c l3.length]⟩ 133 (0, 0)), .arr (qS g c l3.length) 3 1 l3.length (l3.map intN), .arr (qS g0 N.length N.length) 3 1 N.length (cs3.map intN)] ∧ μ = (nexts A i).length - k) (fr' := [(0, [], _), (4, [], _), (5, [], _), (8, [], _), (50, [], _), (51, [], _), (52, [], _)]) ⟨rfl, rfl, rfl, rfl, rfl, rfl, rfl, trivial⟩ ⟨0, g, c, cs, l2, ⟨Nat.zero_le _, Inner.start hcl2 hcs2 hl2n, hh2⟩, rfl, rfl, rfl⟩ (fun fr C2' L2' m hle2 hI => ?_)
      obtain ⟨k, g, c, cs3, l3, ⟨hk3, hin3, hh3⟩, rfl, rfl, rfl⟩ := hI
      refine G.region rfl (fun R hR => ?_)
      refine D.pure rfl rfl rfl rfl rfl rfl ?_
      refine D.done [(0, [], _), (4, [], _), (5, [], _), (8, [], _), (50, [], _), (51, [], _), (52, [], _), (53, [], _)] ⟨rfl, rfl, rfl, rfl, rfl, rfl, rfl, rfl, trivial⟩ (hR _ _ _ rfl ?_); clear hR R
      refine G.cond rfl (fun h53 => ?_) (fun h53 => ?_)
      · skip
        simp only [decide_eq_true_eq] at h53
        have hkl : k < (nexts A i).length := by omega
        obtain ⟨a, ha⟩ : ∃ a, (nexts A i)[k]? = some a := ⟨(nexts A i)[k], List.getElem?_eq_getElem hkl⟩
        have hamem : a ∈ A := (mem_nexts.1 (List.mem_of_getElem? ha)).1
        obtain ⟨hlo, hup⟩ := hb a hamem
        have hra : ((nexts A i).map Arc3.enc)[k]? = some (Arc3.enc a) := by rw [List.getElem?_map, ha]; rfl
        have htk : (nexts A i).take (k + 1) = (nexts A i).take k ++ [a] := by rw [List.take_add_one, ha]; rfl
        have hcl3 := hin3.cl
        have hpos := hin3.pos ha hid hup
        have hct := hin3.ct a.up hup
        have hcn := cnt_len (A := A) (dn := dn) (u := a.up)
        have hl3 : l3.length ≤ N.length := nodup_len hin3.nd (fun x hx => by
          rcases (hin3.mem x).1 hx with h | h
          · exact ((hka.av x).1 (hp2.mem_iff.1 (by simp [h]))).1
          · exact h.1)
        refine G.region rfl (fun R hR => ?_)
        refine D.index0 (hvr.mono (by (repeat (first | exact Mem.le.refl _ | assumption | (apply Mem.le.trans; rotate_left; assumption))))) rfl rfl rfl rfl rfl rfl rfl rfl rfl rfl (by omega) hra (fun _ => rfl) (fun p54 hp54 => ?_)
        refine D.loadP0 hp54 rfl rfl rfl rfl rfl rfl rfl rfl ?_
        refine D.alloc rfl rfl rfl rfl rfl (fun _ => rfl) (fun b11 => ?_)
        refine D.store (j := 0) rfl rfl rfl rfl rfl rfl rfl rfl rfl rfl rfl rfl ?_
        refine D.done [(0, [], _), (4, [], _), (5, [], _), (8, [], _), (11, [], _), (50, [], _), (51, [], _), (52, [], _)] ⟨rfl, rfl, rfl, rfl, rfl, rfl, rfl, rfl, trivial⟩ (hR _ _ _ rfl ?_); clear hR R
        refine G.region rfl (fun R hR => ?_)
        iterate 2 refine D.pure rfl rfl rfl rfl rfl rfl ?_
        refine D.loadL (.head _) rfl rfl rfl rfl rfl rfl rfl rfl rfl ?_
        refine D.indexS (a.up) rfl rfl rfl rfl rfl rfl rfl rfl rfl rfl (fun _ => ⟨by omega, by omega, (by simp)⟩) rfl rfl ?_
        refine D.loadArr (.tail _ (.tail _ (.tail _ (.tail _ (.head _))))) rfl rfl rfl rfl rfl rfl (fun _ => (by rw [nats_at (by omega)]; rfl)) rfl rfl ?_
        refine D.i64 (((hAt cs3 a.up - 1 : Nat) : Int)) rfl rfl rfl rfl (by omega) (by omega) (by omega) rfl rfl ?_
        refine D.indexS (a.up) rfl rfl rfl rfl rfl rfl rfl rfl rfl rfl (fun _ => ⟨by omega, by omega, (by simp)⟩) rfl rfl ?_
        refine D.storeArr (j := 4) rfl rfl rfl rfl rfl rfl rfl rfl rfl rfl rfl (by simp; omega) ?_
        refine D.done [(0, [], _), (4, [], _), (5, [], _), (8, [], _), (11, [], _), (50, [], _), (51, [], _), (52, [], _)] ⟨rfl, rfl, rfl, rfl, rfl, rfl, rfl, rfl, trivial⟩ (hR _ _ _ rfl ?_); clear hR R
        refine G.eqL (L' := [.arr (qS g0 N.length N.length) 3 1 N.length ((cs3.set a.up (hAt cs3 a.up - 1)).map intN), .obj b11 (.cells ⟨Arc3.enc a⟩ 130 (0, 0)), .arr v43 3 1 (dn ++ [i]).length ((dn ++ [i]).map intN), .obj b15 (.cells ⟨[qS g c l3.length]⟩ 133 (0, 0)), .arr (qS g c l3.length) 3 1 l3.length (l3.map intN)]) (by rw [← nats_set (by omega)]; rfl) ?_
        have hcl4 : (cs3.set a.up (hAt cs3 a.up - 1)).length = N.length := by rw [List.length_set]; exact hcl3
        have hhat : hAt (cs3.set a.up (hAt cs3 a.up - 1)) a.up = hAt cs3 a.up - 1 := by rw [hAt_set (by omega), if_pos rfl]
        refine G.region rfl (fun R hR => ?_)
        iterate 2 refine D.pure rfl rfl rfl rfl rfl rfl ?_
        refine D.loadL (.tail _ (.head _)) rfl rfl rfl rfl rfl rfl rfl rfl rfl ?_
        refine D.indexS (a.up) rfl rfl rfl rfl rfl rfl rfl rfl rfl rfl (fun _ => ⟨by omega, by omega, (by simp)⟩) rfl rfl ?_
        refine D.loadArr (.head _) rfl rfl rfl rfl rfl rfl (fun _ => (by rw [nats_at (by omega), hhat]; rfl)) rfl rfl ?_
        refine D.pure rfl rfl rfl rfl rfl rfl ?_
        refine D.done [(0, [], _), (4, [], _), (5, [], _), (8, [], _), (11, [], _), (50, [], _), (51, [], _), (52, [], _), (68, [], _)] ⟨rfl, rfl, rfl, rfl, rfl, rfl, rfl, rfl, rfl, trivial⟩ (hR _ _ _ rfl ?_); clear hR R
        refine G.cond rfl (fun h68 => ?_) (fun h68 => ?_)
        · skip
          have h68' : hAt cs3 a.up = 1 := by
            have h : ((hAt cs3 a.up - 1 : Nat) : Int) = 0 := by simpa using h68
            omega
          refine G.perm (L' := [.obj b15 (.cells ⟨[qS g c l3.length]⟩ 133 (0, 0)), .arr (qS g c l3.length) 3 1 l3.length (l3.map intN), .obj b11 (.cells ⟨Arc3.enc a⟩ 130 (0, 0)), .arr v43 3 1 (dn ++ [i]).length ((dn ++ [i]).map intN), .arr (qS g0 N.length N.length) 3 1 N.length ((cs3.set a.up (hAt cs3 a.up - 1)).map intN)]) (by (refine (ent_perm (j := 3) rfl).trans (List.Perm.cons _ ?_); refine (ent_perm (j := 3) rfl).trans (List.Perm.cons _ ?_); refine (ent_perm (j := 1) rfl).trans (List.Perm.cons _ ?_); refine (ent_perm (j := 1) rfl).trans (List.Perm.cons _ ?_); refine (ent_perm (j := 0) rfl).trans (List.Perm.cons _ ?_); exact List.Perm.refl _)) ?_
          refine G.regionO [(5, 3)] rfl (fun R hR => ?_)
          iterate 3 refine D.pure rfl rfl rfl rfl rfl rfl ?_
          refine D.loadL (.tail _ (.tail _ (.head _))) rfl rfl rfl rfl rfl rfl rfl rfl rfl ?_
          refine D.pure rfl rfl rfl rfl rfl rfl ?_
          refine D.call (hpush_fn _ b15 g c l3 a.up (by omega) hh3) rfl (.inr (by decide)) rfl rfl rfl rfl rfl rfl (List.Perm.refl _) (fun _ => rfl) (fun v74 C74 L74 hle74 hq74 => ?_)
          obtain ⟨g4, c4, l4, rfl, hp4, hh4⟩ := hq74
          refine D.done [(0, [], _), (4, [], _), (5, [], _), (8, [], _), (50, [], _), (51, [], _), (52, [], _)] ⟨rfl, rfl, rfl, rfl, rfl, rfl, rfl, trivial⟩ (hR _ _ _ rfl ?_); clear hR R
          refine G.region rfl (fun R hR => ?_)
          refine D.i64 _ rfl rfl rfl rfl rfl (by omega) (by omega) rfl rfl ?_
          refine D.pure rfl rfl rfl rfl rfl rfl ?_
          refine D.done [(0, [], _), (4, [], _), (5, [], _), (8, [], _), (50, [], _), (51, [], _), (52, [], _)] ⟨rfl, rfl, rfl, rfl, rfl, rfl, rfl, trivial⟩ (hR _ _ _ rfl ?_); clear hR R
          refine G.dropE 2 rfl ?_
          refine G.perm (L' := [.arr v43 3 1 (dn ++ [i]).length ((dn ++ [i]).map intN), .obj b15 (.cells ⟨[qS g4 c4 l4.length]⟩ 133 (0, 0)), .arr (qS g4 c4 l4.length) 3 1 l4.length (l4.map intN), .arr (qS g0 N.length N.length) 3 1 N.length ((cs3.set a.up (hAt cs3 a.up - 1)).map intN)]) (by (refine (ent_perm (j := 2) rfl).trans (List.Perm.cons _ ?_); refine (ent_perm (j := 0) rfl).trans (List.Perm.cons _ ?_); refine (ent_perm (j := 0) rfl).trans (List.Perm.cons _ ?_); refine (ent_perm (j := 0) rfl).trans (List.Perm.cons _ ?_); exact List.Perm.refl _)) ?_
          refine G.again (m' := (nexts A i).length - (k + 1)) (by omega) (by (repeat (first | exact Mem.le.refl _ | assumption | (apply Mem.le.trans; rotate_left; assumption)))) (fr' := [(0, [], _), (4, [], _), (5, [], _), (8, [], _), (50, [], _), (51, [], _), (52, [], _)]) ⟨rfl, rfl, rfl, rfl, rfl, rfl, rfl, trivial⟩ ⟨k + 1, g4, c4, cs3.set a.up (hAt cs3 a.up - 1), l4, ⟨by omega, by rw [htk]; exact hin3.step hup hpos hl2z (.inr ⟨h68', hp4⟩), hh4⟩, rfl, rfl, rfl⟩
        · skip
          have h68' : ¬ hAt cs3 a.up = 1 := fun e => by
            have : (false : Bool) = true := by rw [← h68]; simp [e]
            cases this
          refine G.region rfl (fun R hR => ?_)
          refine D.i64 _ rfl rfl rfl rfl rfl (by omega) (by omega) rfl rfl ?_
          refine D.pure rfl rfl rfl rfl rfl rfl ?_
          refine D.done [(0, [], _), (4, [], _), (5, [], _), (8, [], _), (50, [], _), (51, [], _), (52, [], _)] ⟨rfl, rfl, rfl, rfl, rfl, rfl, rfl, trivial⟩ (hR _ _ _ rfl ?_); clear hR R
          refine G.dropE 1 rfl ?_
          refine G.perm (L' := [.arr v43 3 1 (dn ++ [i]).length ((dn ++ [i]).map intN), .obj b15 (.cells ⟨[qS g c l3.length]⟩ 133 (0, 0)), .arr (qS g c l3.length) 3 1 l3.length (l3.map intN), .arr (qS g0 N.length N.length) 3 1 N.length ((cs3.set a.up (hAt cs3 a.up - 1)).map intN)]) (by (refine (ent_perm (j := 1) rfl).trans (List.Perm.cons _ ?_); refine (ent_perm (j := 1) rfl).trans (List.Perm.cons _ ?_); refine (ent_perm (j := 1) rfl).trans (List.Perm.cons _ ?_); refine (ent_perm (j := 0) rfl).trans (List.Perm.cons _ ?_); exact List.Perm.refl _)) ?_
          refine G.again (m' := (nexts A i).length - (k + 1)) (by omega) (by (repeat (first | exact Mem.le.refl _ | assumption | (apply Mem.le.trans; rotate_left; assumption)))) (fr' := [(0, [], _), (4, [], _), (5, [], _), (8, [], _), (50, [], _), (51, [], _), (52, [], _)]) ⟨rfl, rfl, rfl, rfl, rfl, rfl, rfl, trivial⟩ ⟨k + 1, g, c, cs3.set a.up (hAt cs3 a.up - 1), l3, ⟨by omega, by rw [htk]; exact hin3.step hup hpos hl2z (.inl ⟨h68', rfl⟩), hh3⟩, rfl, rfl, rfl⟩
      · skip
        simp only [decide_eq_false_iff_not] at h53
        have hkl : k = (nexts A i).length := by omega
        subst hkl
        rw [List.take_length] at hin3
        have hdone := hin3.done hka hp2 hmin
        have hal : (dn ++ [i]).length = dn.length + 1 := by simp
        refine G.again (m' := N.length - (dn ++ [i]).length) (by omega) (by (repeat (first | exact Mem.le.refl _ | assumption | (apply Mem.le.trans; rotate_left; assumption)))) (fr' := [(0, [], _), (4, [], _), (5, [], _), (8, [], _)]) ⟨rfl, rfl, rfl, rfl, trivial⟩ ⟨g, c, l3, dn ++ [i], cs3, v43, ⟨hdone.1, hh3, hin3.cl, hdone.2⟩, rfl, rfl, rfl⟩
    · skip
      have h35' : l.length = 0 := by
        have h : ¬ (0 : Int) < l.length := by simpa using h35
        omega
      have hl0 : l = [] := List.eq_nil_of_length_eq_zero h35'
      refine G.rowSlice 0 rfl (fun Aw cw he => ?_)
      subst he
      refine G.draw [0, 1, 2, 3, 4, 5, 6, 7, 8, 9, 10] [] rfl (by kernel_rfl) (fun R hB hR => ?_)
      iterate 6 refine D.pure rfl rfl rfl rfl rfl rfl ?_
      refine D.loadP0 (PtrTo.block (Mem.get hobj (by (repeat (first | exact Mem.le.refl _ | assumption | (apply Mem.le.trans; rotate_left; assumption))))) _) rfl rfl rfl rfl rfl rfl rfl rfl ?_
      iterate 4 refine D.pure rfl rfl rfl rfl rfl rfl ?_
      refine D.done [(2, [], _), (3, [], _)] ⟨rfl, rfl, trivial⟩ (hR _ _ _ rfl ?_); clear hR hB R
      refine G.dropE 3 rfl (G.dropE 2 rfl (G.dropE 1 rfl ?_))
      refine G.eqL (L' := [.arr (.slice Aw dn.length cw) 3 1 dn.length (dn.map encN).flatten]) (by rw [show (dn.map encN).flatten = dn.map intN from flatten_map1 intN _]; rfl) ?_
      refine G.freezeArr 0 (dn.map encN) rfl rfl (by intro r hr; obtain ⟨y, _, rfl⟩ := List.mem_map.1 hr; rfl) (by simp) (fun Cf hf hsd => ?_)
      refine G.retN (G.dropAll (G.fin2 rfl rfl rfl ?_))
      refine ⟨rfl, _, dn, _, rfl, hsd, nodup_len hka.nodup hka.below, hka.below, ?_⟩
      subst hl0
      rcases hka.finish hb with ⟨h1, h2⟩ | ⟨h1, h2⟩
      · exact .inl ⟨by simp [h1], h2⟩
      · refine .inr ⟨?_, h2⟩
        simp; omega
end Go.Proofs.YtfelabnohopfdaaGreatDoor
namespace Go.Proofs.YtfelabnohopfdaaGreatDoor
open Go Go.Jog
set_option maxRecDepth 100000

def nameAt (N : List Str) (i : Nat) : Str := N.getD i []
theorem nameAt_get {N : List Str} {i : Nat} (h : i < N.length) : N[i]? = some (nameAt N i) := by
  rw [List.getElem?_eq_getElem h]; simp [nameAt, List.getD_eq_getElem?_getD, List.getElem?_eq_getElem h]
theorem name_fn (C : Mem) (p v : Value) (N : List Str) (A : List Arc3) (o : List Nat) (hg : Graph C p N A) (hv : Sl C 1 v (o.map encN)) (ho : ∀ x ∈ o, x < N.length) (hol : o.length ≤ 1000000) :
    Pur cx.P 24 [p, v] C fun u C' => Sl C' 1 u ((o.map (nameAt N)).map encS) := by
  obtain ⟨b, bm, vn, va, vx, vs, hgp, hobj, hnames, hat, harcs, hnx, hlen, hrows⟩ := hg
  subst hgp
  obtain ⟨An, cn, rfl, _⟩ := id hnames
  obtain ⟨Av, cv, rfl, _⟩ := id hv
  simp only [List.length_map] at hobj hnames hv ⊢
  refine Fn.intro (by kernel_rfl) Tryz.func24 rfl 26 rfl rfl (fun w0 => ?_)
  refine G.region rfl (fun R hR => ?_)
  refine D.pure rfl rfl rfl rfl rfl rfl ?_
  refine D.done [(0, [], _), (1, [], _)] ⟨rfl, rfl, trivial⟩ (hR _ _ _ rfl ?_); clear hR R
  refine G.region rfl (fun R hR => ?_)
  refine D.pure rfl rfl rfl rfl rfl rfl ?_
  refine D.done [(0, [], _), (1, [], _), (5, [], _)] ⟨rfl, rfl, rfl, trivial⟩ (hR _ _ _ rfl ?_); clear hR R
  refine G.region rfl (fun R hR => ?_)
  iterate 3 refine D.pure rfl rfl rfl rfl rfl rfl ?_
  refine D.done [(0, [], _), (5, [], _), (8, [], _), (9, [], _), (10, [], _)] ⟨rfl, rfl, rfl, rfl, rfl, trivial⟩ (hR _ _ _ rfl ?_); clear hR R
  refine G.nilArr 9 1 ?_
  refine G.loop (fun fr C' L' μ => ∃ (k : Nat) (w : Value), (k ≤ o.length) ∧ fr = [(0, [], .pointer (some ⟨b, 0, none⟩)), (5, [], w), (8, [], .slice Av o.length cv), (9, [], .int .i64 o.length), (10, [], .int .i64 k)] ∧ L' = [.arr w 9 1 (o.take k).length (((o.take k).map (nameAt N)).map encS).flatten] ∧ μ = o.length - k) (fr' := [(0, [], _), (5, [], _), (8, [], _), (9, [], _), (10, [], _)]) ⟨rfl, rfl, rfl, rfl, rfl, trivial⟩ ⟨0, _, Nat.zero_le _, rfl, rfl, rfl⟩ (fun fr C0' L0' m hle0 hI => ?_)
  obtain ⟨k, w, hk, rfl, rfl, rfl⟩ := hI
  refine G.region rfl (fun R hR => ?_)
  refine D.pure rfl rfl rfl rfl rfl rfl ?_
  refine D.done [(0, [], _), (5, [], _), (8, [], _), (9, [], _), (10, [], _), (11, [], _)] ⟨rfl, rfl, rfl, rfl, rfl, rfl, trivial⟩ (hR _ _ _ rfl ?_); clear hR R
  refine G.cond rfl (fun h11 => ?_) (fun h11 => ?_)
  · skip
    simp only [decide_eq_true_eq] at h11
    have hkl : k < o.length := by omega
    obtain ⟨x, hx⟩ : ∃ x, o[k]? = some x := ⟨o[k], List.getElem?_eq_getElem hkl⟩
    have hxn := ho x (List.mem_of_getElem? hx)
    have hrx : (o.map encN)[k]? = some (encN x) := by rw [List.getElem?_map, hx]; rfl
    have hrn : (N.map encS)[x]? = some (encS (nameAt N x)) := by rw [List.getElem?_map, nameAt_get hxn]; rfl
    have htk : o.take (k + 1) = o.take k ++ [x] := by rw [List.take_add_one, hx]; rfl
    have htl : (o.take k).length ≤ o.length := by rw [List.length_take]; omega
    refine G.region rfl (fun R hR => ?_)
    refine D.index0 (hv.mono (by (repeat (first | exact Mem.le.refl _ | assumption | (apply Mem.le.trans; rotate_left; assumption))))) rfl rfl rfl rfl rfl rfl rfl rfl rfl rfl (by omega) hrx (fun _ => rfl) (fun p12 hp12 => ?_)
    refine D.loadP0 hp12 rfl rfl rfl rfl rfl rfl rfl rfl ?_
    refine D.pure rfl rfl rfl rfl rfl rfl ?_
    refine D.done [(0, [], _), (5, [], _), (7, [], _), (8, [], _), (9, [], _), (10, [], _)] ⟨rfl, rfl, rfl, rfl, rfl, rfl, trivial⟩ (hR _ _ _ rfl ?_); clear hR R
    refine G.region rfl (fun R hR => ?_)
    iterate 4 refine D.pure rfl rfl rfl rfl rfl rfl ?_
    refine D.loadP0 (PtrTo.block (Mem.get hobj (by (repeat (first | exact Mem.le.refl _ | assumption | (apply Mem.le.trans; rotate_left; assumption))))) _) rfl rfl rfl rfl rfl rfl rfl rfl ?_
    refine D.pure rfl rfl rfl rfl rfl rfl ?_
    refine D.index0 (hnames.mono (by (repeat (first | exact Mem.le.refl _ | assumption | (apply Mem.le.trans; rotate_left; assumption))))) rfl rfl rfl rfl rfl rfl rfl rfl rfl rfl (by omega) hrn (fun _ => rfl) (fun p20 hp20 => ?_)
    refine D.loadP0 hp20 rfl rfl rfl rfl rfl rfl rfl rfl ?_
    refine D.buildSlice [encS (nameAt N x)] rfl rfl rfl rfl rfl rfl rfl rfl rfl rfl rfl rfl (fun _ => rfl) (fun p22 C22 hle22 hs22 => ?_)
    refine D.append (j := 0) rfl rfl rfl rfl rfl rfl rfl rfl rfl rfl rfl hs22 rfl (by simp only [List.length_singleton, maxLen]; omega) (by simp only [List.length_singleton]; omega) (fun _ => rfl) (fun v23 => ?_)
    refine D.pure rfl rfl rfl rfl rfl rfl ?_
    refine D.done [(0, [], _), (5, [], _), (8, [], _), (9, [], _), (10, [], _)] ⟨rfl, rfl, rfl, rfl, rfl, trivial⟩ (hR _ _ _ rfl ?_); clear hR R
    refine G.region rfl (fun R hR => ?_)
    refine D.i64 _ rfl rfl rfl rfl rfl (by omega) (by omega) rfl rfl ?_
    refine D.pure rfl rfl rfl rfl rfl rfl ?_
    refine D.done [(0, [], _), (5, [], _), (8, [], _), (9, [], _), (10, [], _)] ⟨rfl, rfl, rfl, rfl, rfl, trivial⟩ (hR _ _ _ rfl ?_); clear hR R
    refine G.eqL (L' := [.arr v23 9 1 (o.take (k + 1)).length (((o.take (k + 1)).map (nameAt N)).map encS).flatten]) (by rw [htk]; simp) ?_
    refine G.again (m' := o.length - (k + 1)) (by omega) (by (repeat (first | exact Mem.le.refl _ | assumption | (apply Mem.le.trans; rotate_left; assumption)))) (fr' := [(0, [], _), (5, [], _), (8, [], _), (9, [], _), (10, [], _)]) ⟨rfl, rfl, rfl, rfl, rfl, trivial⟩ ⟨k + 1, v23, by omega, rfl, rfl, rfl⟩
  · skip
    simp only [decide_eq_false_iff_not] at h11
    have hkl : k = o.length := by omega
    subst hkl
    rw [List.take_length]
    refine G.region rfl (fun R hR => ?_)
    iterate 2 refine D.pure rfl rfl rfl rfl rfl rfl ?_
    refine D.done [(4, [], _)] ⟨rfl, trivial⟩ (hR _ _ _ rfl ?_); clear hR R
    refine G.freezeArr 0 ((o.map (nameAt N)).map encS) rfl rfl (by intro r hr; obtain ⟨y, _, rfl⟩ := List.mem_map.1 hr; rfl) (by simp) (fun Cf hf hsd => ?_)
    refine G.retN (G.dropAll (G.fin1 rfl rfl ?_))
    exact ⟨rfl, hsd⟩

end Go.Proofs.YtfelabnohopfdaaGreatDoor
namespace Go.Proofs.YtfelabnohopfdaaGreatDoor
open Go Go.Jog
set_option maxRecDepth 100000

def arcsOf (l : List Rel) : List Arc3 := arcs3 (unitsL l) l
theorem mem_arcAt {N : List Str} {l : List Rel} {i : Nat} {a : Arc3} : a ∈ arcAt N l i ↔ ∃ x, l[i]? = some x ∧ x.kind ≠ 4 ∧ a = ⟨i, posS N x.lower, posS N x.upper⟩ := by
  unfold arcAt
  cases h : l[i]? with
  | none => simp
  | some x => simp [mem_oneIf]
theorem mem_arcs3 {N : List Str} {l : List Rel} {a : Arc3} : a ∈ arcs3 N l ↔ ∃ x, l[a.i]? = some x ∧ x.kind ≠ 4 ∧ a = ⟨a.i, posS N x.lower, posS N x.upper⟩ := by
  unfold arcs3
  rw [mem_cat]
  constructor
  · rintro ⟨i, _, h⟩
    obtain ⟨x, h1, h2, rfl⟩ := mem_arcAt.1 h
    exact ⟨x, h1, h2, rfl⟩
  · rintro ⟨x, h1, h2, h3⟩
    exact ⟨a.i, (List.getElem?_eq_some_iff.1 h1).1, mem_arcAt.2 ⟨x, h1, h2, h3⟩⟩
theorem arcs3_ix {N : List Str} {l : List Rel} : Ix (arcs3 N l) := by
  refine cat_pairwise (fun i _ => ?_) (fun i j hij _ x hx y hy => ?_)
  · unfold arcAt
    split
    · unfold oneIf; split <;> simp
    · exact List.Pairwise.nil
  · obtain ⟨_, _, _, rfl⟩ := mem_arcAt.1 hx
    obtain ⟨_, _, _, rfl⟩ := mem_arcAt.1 hy
    exact hij
theorem gok_of {l : List Rel} (hl : l.length ≤ 100000) : GOk (unitsL l) (arcsOf l) := by
  refine ⟨fun a ha => ?_, arcs3_ix, ?_, ?_, fun a ha => ?_⟩
  · obtain ⟨x, h1, h2, h3⟩ := mem_arcs3.1 ha
    have hm := mem_units (List.mem_of_getElem? h1)
    rw [h3]
    exact ⟨posS_lt hm.1, posS_lt hm.2⟩
  · have := arcAt_len (unitsL l) l l.length
    have e : (arcsOf l).length = (cat (arcAt (unitsL l) l) l.length).length := rfl
    omega
  · have := unitsL_len l; omega
  · obtain ⟨x, h1, _⟩ := mem_arcs3.1 ha
    have := (List.getElem?_eq_some_iff.1 h1).1
    omega
def nilV : Value := .slice none 0 0
def namesOfO (l : List Rel) (o : List Nat) : List Str := o.map (nameAt (unitsL l))
def Back (A : List Arc3) : Prop := ∃ k w, 0 < k ∧ Walk A k w w
def OrdRes (C : Mem) (l : List Rel) (r : Value) : Prop :=
  (errU l ≠ 0 ∧ r = .tuple #[nilV, .int .i64 (errU l)]) ∨ (errU l = 0 ∧ Back (arcsOf l) ∧ r = .tuple #[nilV, .int .i64 27]) ∨
  (errU l = 0 ∧ ∃ o v, TopoLeast (arcsOf l) (unitsL l).length o ∧ r = .tuple #[v, .int .i64 0] ∧ Sl C 1 v ((namesOfO l o).map encS))
theorem order_fn (C : Mem) (v : Value) (l : List Rel) (hv : Sl C 3 v (l.map Rel.enc)) (hl : l.length ≤ 100000) (hsh : ∀ x ∈ l, x.short) : Pur cx.P 12 [v] C fun r C' => OrdRes C' l r := by
  refine Fn.intro (by kernel_rfl) Tryz.func12 rfl 25 rfl rfl (fun w0 => ?_)
  refine G.region rfl (fun R hR => ?_)
  iterate 2 refine D.pure rfl rfl rfl rfl rfl rfl ?_
  refine D.done [(0, [], _)] ⟨rfl, trivial⟩ (hR _ _ _ rfl ?_); clear hR R
  refine G.region rfl (fun R hR => ?_)
  refine D.pure rfl rfl rfl rfl rfl rfl ?_
  refine D.gives2 (check_fn _ _ l hv hl hsh) rfl rfl rfl rfl rfl rfl rfl (fun _ => rfl) ?_
  refine D.pure rfl rfl rfl rfl rfl rfl ?_
  refine D.done [(0, [], _), (4, [], _)] ⟨rfl, rfl, trivial⟩ (hR _ _ _ rfl ?_); clear hR R
  refine G.region rfl (fun R hR => ?_)
  iterate 2 refine D.pure rfl rfl rfl rfl rfl rfl ?_
  refine D.done [(0, [], _), (4, [], _), (11, [], _)] ⟨rfl, rfl, rfl, trivial⟩ (hR _ _ _ rfl ?_); clear hR R
  refine G.cond rfl (fun h11 => ?_) (fun h11 => ?_)
  · skip
    have h11' : errU l ≠ 0 := by simpa using h11
    refine G.region rfl (fun R hR => ?_)
    iterate 3 refine D.pure rfl rfl rfl rfl rfl rfl ?_
    refine D.done [(2, [], _), (3, [], _)] ⟨rfl, rfl, trivial⟩ (hR _ _ _ rfl ?_); clear hR R
    refine G.retN (G.dropAll (G.fin2 rfl rfl rfl ?_))
    exact ⟨rfl, .inl ⟨h11', rfl⟩⟩
  · skip
    have h11' : errU l = 0 := by simpa using h11
    refine G.region rfl (fun R hR => ?_)
    refine D.pure rfl rfl rfl rfl rfl rfl ?_
    refine D.callP (build_fn _ _ l (hv.mono (by (repeat (first | exact Mem.le.refl _ | assumption | (apply Mem.le.trans; rotate_left; assumption))))) hl) rfl rfl rfl rfl rfl rfl rfl (fun _ => rfl) (fun v14 C14 hle14 hq14 => ?_)
    refine D.pure rfl rfl rfl rfl rfl rfl ?_
    refine D.done [(5, [], _)] ⟨rfl, trivial⟩ (hR _ _ _ rfl ?_); clear hR R
    refine G.region rfl (fun R hR => ?_)
    refine D.pure rfl rfl rfl rfl rfl rfl ?_
    refine D.callP (sorted_fn _ _ _ _ hq14 (gok_of hl)) rfl rfl rfl rfl rfl rfl rfl (fun _ => rfl) (fun v17 C17 hle17 hq17 => ?_)
    obtain ⟨vo, o, ok, rfl, hso, hol, hon, hout⟩ := hq17
    iterate 5 refine D.pure rfl rfl rfl rfl rfl rfl ?_
    refine D.done [(5, [], _), (6, [], _), (7, [], _)] ⟨rfl, rfl, rfl, trivial⟩ (hR _ _ _ rfl ?_); clear hR R
    refine G.region rfl (fun R hR => ?_)
    iterate 2 refine D.pure rfl rfl rfl rfl rfl rfl ?_
    refine D.done [(5, [], _), (6, [], _), (21, [], _)] ⟨rfl, rfl, rfl, trivial⟩ (hR _ _ _ rfl ?_); clear hR R
    refine G.cond rfl (fun h21 => ?_) (fun h21 => ?_)
    · skip
      have h21' : ok = false := by simpa using h21
      subst h21'
      refine G.region rfl (fun R hR => ?_)
      iterate 2 refine D.pure rfl rfl rfl rfl rfl rfl ?_
      refine D.done [(2, [], _), (3, [], _)] ⟨rfl, rfl, trivial⟩ (hR _ _ _ rfl ?_); clear hR R
      refine G.retN (G.dropAll (G.fin2 rfl rfl rfl ?_))
      refine ⟨rfl, .inr (.inl ⟨h11', ?_, rfl⟩)⟩
      rcases hout with ⟨h, _⟩ | ⟨_, h⟩
      · cases h
      · exact h
    · skip
      have h21' : ok = true := by simpa using h21
      subst h21'
      have hnl := (gok_of hl).names
      refine G.region rfl (fun R hR => ?_)
      iterate 2 refine D.pure rfl rfl rfl rfl rfl rfl ?_
      refine D.callP (name_fn _ _ _ _ _ o (hq14.mono (by (repeat (first | exact Mem.le.refl _ | assumption | (apply Mem.le.trans; rotate_left; assumption))))) (hso.mono (by (repeat (first | exact Mem.le.refl _ | assumption | (apply Mem.le.trans; rotate_left; assumption))))) hon (by omega)) rfl rfl rfl rfl rfl rfl rfl (fun _ => rfl) (fun v24 C24 hle24 hq24 => ?_)
      iterate 2 refine D.pure rfl rfl rfl rfl rfl rfl ?_
      refine D.done [(2, [], _), (3, [], _)] ⟨rfl, rfl, trivial⟩ (hR _ _ _ rfl ?_); clear hR R
      refine G.retN (G.dropAll (G.fin2 rfl rfl rfl ?_))
      refine ⟨rfl, .inr (.inr ⟨h11', o, _, ?_, rfl, hq24⟩)⟩
      rcases hout with ⟨_, h⟩ | ⟨h, _⟩
      · exact h
      · cases h
end Go.Proofs.YtfelabnohopfdaaGreatDoor
namespace Go.Proofs.YtfelabnohopfdaaGreatDoor
open Go Go.Jog
set_option maxRecDepth 100000

theorem take_snoc {α : Type} {l : List α} {k : Nat} {x : α} (h : l[k]? = some x) : l.take (k + 1) = l.take k ++ [x] := by rw [List.take_add_one, h]; rfl
def idxS (N : List Str) (s : Str) : Int := if s ∈ N then (posS N s : Int) else -1
theorem posS_take : ∀ {N : List Str} {s : Str} {k : Nat}, N[k]? = some s → s ∉ N.take k → posS N s = k
  | [], _, _, h, _ => by simp at h
  | x :: N, s, 0, h, _ => by simp at h; simp [posS, h]
  | x :: N, s, k + 1, h, hn => by
    rw [List.take_succ_cons, List.mem_cons, not_or] at hn
    simp only [posS, if_neg (Ne.symm hn.1)]
    rw [posS_take (k := k) (by simpa using h) hn.2]
theorem fits_fn (C : Mem) (A : Option Addr) (n c : Nat) : Gives cx.P 8 [.slice A n c] C (.bool (decide ((n : Int) ≤ 8))) := by
  refine Fn.intro (by kernel_rfl) Tryz.func8 rfl 6 rfl rfl (fun w0 => ?_)
  refine G.region rfl (fun R hR => ?_)
  refine D.pure rfl rfl rfl rfl rfl rfl ?_
  refine D.done [(0, [], _)] ⟨rfl, trivial⟩ (hR _ _ _ rfl ?_); clear hR R
  refine G.region rfl (fun R hR => ?_)
  iterate 4 refine D.pure rfl rfl rfl rfl rfl rfl ?_
  refine D.done [(2, [], _)] ⟨rfl, trivial⟩ (hR _ _ _ rfl ?_); clear hR R
  refine G.retN (G.dropAll (G.fin1 rfl rfl ?_))
  exact ⟨rfl, rfl⟩
end Go.Proofs.YtfelabnohopfdaaGreatDoor
namespace Go.Proofs.YtfelabnohopfdaaGreatDoor
open Go Go.Jog
set_option maxRecDepth 100000

def nameI (i : Nat) : Str := [UInt8.ofNat (65 + i)]
theorem lname_fn (C : Mem) (i : Nat) (hi : i < 100) : Gives cx.P 20 [.int .i64 i] C (strV (nameI i)) := by
  refine Fn.intro (by kernel_rfl) Tryz.func20 rfl 8 rfl rfl (fun w0 => ?_)
  refine G.region rfl (fun R hR => ?_)
  refine D.pure rfl rfl rfl rfl rfl rfl ?_
  refine D.done [(0, [], _)] ⟨rfl, trivial⟩ (hR _ _ _ rfl ?_); clear hR R
  refine G.region rfl (fun R hR => ?_)
  refine D.pure rfl rfl rfl rfl rfl rfl ?_
  refine D.i64 (((65 + i : Nat) : Int)) rfl rfl rfl rfl (by omega) (by omega) (by omega) rfl rfl ?_
  refine D.conv (c := ((65 + i : Nat) : Int)) rfl rfl rfl rfl rfl rfl rfl rfl (by rw [IntKind.wrap_u8]; omega) (fun _ => rfl) ?_
  refine D.buildSlice [[.int .u8 ((65 + i : Nat) : Int)]] rfl rfl rfl rfl rfl rfl rfl rfl rfl rfl rfl rfl (fun _ => rfl) (fun p6 C6 hle6 hs6 => ?_)
  have hb : (UInt8.ofNat (65 + i)).toNat = 65 + i := by rw [UInt8.toNat_ofNat']; omega
  have hs7 : Sl C6 1 p6 ((nameI i).map fun b => [.int .u8 b.toNat]) := by
    show Sl C6 1 p6 [[.int .u8 ((UInt8.ofNat (65 + i)).toNat : Int)]]
    rw [hb]; exact hs6
  refine D.strOf hs7 rfl rfl rfl rfl rfl rfl rfl rfl rfl rfl rfl (fun _ => rfl) ?_
  refine D.pure rfl rfl rfl rfl rfl rfl ?_
  refine D.done [(2, [], _)] ⟨rfl, trivial⟩ (hR _ _ _ rfl ?_); clear hR R
  refine G.retN (G.dropAll (G.fin1 rfl rfl ?_))
  exact ⟨rfl, rfl⟩
structure Seen where
  a : UInt8
  b : UInt8
  c : UInt8
  deriving Inhabited
def Seen.enc (x : Seen) : List Value := [.int .u8 x.a.toNat, .int .u8 x.b.toNat, .int .u8 x.c.toNat]
def upN (x : Seen) : Nat := x.b.toNat % 6
def lowN (x : Seen) : Nat := if x.b.toNat % 6 = x.c.toNat % 6 then (x.b.toNat % 6 + 1) % 6 else x.c.toNat % 6
def mkR (x : Seen) : Rel := ⟨((1 + x.a.toNat % 4 : Nat) : Int), nameI (upN x), nameI (lowN x)⟩
def makeL (l : List Seen) : List Rel := (l.take 8).map mkR
theorem make_fn (C : Mem) (v : Value) (l : List Seen) (hv : Sl C 3 v (l.map Seen.enc)) : Pur cx.P 9 [v] C fun u C' => Sl C' 3 u ((makeL l).map Rel.enc) := by
  obtain ⟨A, c, rfl, _⟩ := id hv
  simp only [List.length_map] at hv ⊢
  refine Fn.intro (by kernel_rfl) Tryz.func9 rfl 54 rfl rfl (fun w0 => ?_)
  refine G.region rfl (fun R hR => ?_)
  refine D.pure rfl rfl rfl rfl rfl rfl ?_
  refine D.done [(0, [], _)] ⟨rfl, trivial⟩ (hR _ _ _ rfl ?_); clear hR R
  refine G.region rfl (fun R hR => ?_)
  refine D.pure rfl rfl rfl rfl rfl rfl ?_
  refine D.done [(0, [], _), (3, [], _)] ⟨rfl, rfl, trivial⟩ (hR _ _ _ rfl ?_); clear hR R
  refine G.region rfl (fun R hR => ?_)
  refine D.pure rfl rfl rfl rfl rfl rfl ?_
  refine D.done [(0, [], _), (3, [], _), (4, [], _)] ⟨rfl, rfl, rfl, trivial⟩ (hR _ _ _ rfl ?_); clear hR R
  refine G.nilArr 33 3 ?_
  refine G.loop (fun fr C' L' μ => ∃ (k : Nat) (w3 : Value), (k ≤ l.length ∧ k ≤ 8) ∧ fr = [(0, [], .slice A l.length c), (3, [], w3), (4, [], .int .i64 k)] ∧ L' = [.arr w3 33 3 k (((l.take k).map mkR).map Rel.enc).flatten] ∧ μ = 8 - k) (fr' := [(0, [], _), (3, [], _), (4, [], _)]) ⟨rfl, rfl, rfl, trivial⟩ ⟨0, _, ⟨Nat.zero_le _, by omega⟩, rfl, rfl, rfl⟩ (fun fr C0' L0' m hle0 hI => ?_)
  obtain ⟨k, w3, ⟨hk, hk8⟩, rfl, rfl, rfl⟩ := hI
  refine G.region rfl (fun R hR => ?_)
  iterate 7 refine D.pure rfl rfl rfl rfl rfl rfl ?_
  refine D.pickAnd rfl rfl rfl rfl rfl rfl rfl rfl ?_
  refine D.done [(0, [], _), (3, [], _), (4, [], _), (14, [], _)] ⟨rfl, rfl, rfl, rfl, trivial⟩ (hR _ _ _ rfl ?_); clear hR R
  refine G.cond rfl (fun h14 => ?_) (fun h14 => ?_)
  · skip
    simp only [Bool.and_eq_true, decide_eq_true_eq] at h14
    have hkl : k < l.length := by omega
    obtain ⟨x, hx⟩ : ∃ x, l[k]? = some x := ⟨l[k], List.getElem?_eq_getElem hkl⟩
    have hrow : (l.map Seen.enc)[k]? = some x.enc := by rw [List.getElem?_map, hx]; rfl
    have hxa := x.a.toNat_lt
    have hxb := x.b.toNat_lt
    have hxc := x.c.toNat_lt
    have htk : (l.take (k + 1)).map mkR = (l.take k).map mkR ++ [mkR x] := by rw [List.take_add_one, hx]; simp
    refine G.draw [0, 1, 2, 3, 4, 5, 6, 7, 8, 9, 10, 11, 12, 13, 14, 15] [(6, 0), (13, 0)] rfl (by kernel_rfl) (fun R hB hR => ?_)
    iterate 2 refine D.pure rfl rfl rfl rfl rfl rfl ?_
    refine D.index0 (hv.mono (by (repeat (first | exact Mem.le.refl _ | assumption | (apply Mem.le.trans; rotate_left; assumption))))) rfl rfl rfl rfl rfl rfl rfl rfl rfl rfl (by omega) hrow (fun _ => rfl) (fun p19 hp19 => ?_)
    refine D.fieldP0 hp19 rfl rfl rfl rfl rfl rfl rfl rfl rfl rfl (fun _ => rfl) (fun p20 hp20 => ?_)
    refine D.loadP0 hp20 rfl rfl rfl rfl rfl rfl rfl rfl ?_
    refine D.rem rfl rfl rfl rfl rfl rfl (by omega) (by omega) rfl rfl ?_
    refine D.convQ (c := (upN x : Int)) rfl rfl rfl rfl rfl rfl rfl rfl (by rw [IntKind.wrap_i64]; unfold upN; omega) rfl rfl ?_
    iterate 2 refine D.pure rfl rfl rfl rfl rfl rfl ?_
    refine D.index0 (hv.mono (by (repeat (first | exact Mem.le.refl _ | assumption | (apply Mem.le.trans; rotate_left; assumption))))) rfl rfl rfl rfl rfl rfl rfl rfl rfl rfl (by omega) hrow (fun _ => rfl) (fun p26 hp26 => ?_)
    refine D.fieldP0 hp26 rfl rfl rfl rfl rfl rfl rfl rfl rfl rfl (fun _ => rfl) (fun p27 hp27 => ?_)
    refine D.loadP0 hp27 rfl rfl rfl rfl rfl rfl rfl rfl ?_
    refine D.rem rfl rfl rfl rfl rfl rfl (by omega) (by omega) rfl rfl ?_
    refine D.convQ (c := ((x.c.toNat % 6 : Nat) : Int)) rfl rfl rfl rfl rfl rfl rfl rfl (by rw [IntKind.wrap_i64]; omega) rfl rfl ?_
    iterate 2 refine D.pure rfl rfl rfl rfl rfl rfl ?_
    refine D.done [(0, [], _), (3, [], _), (4, [], _), (5, [], _), (6, [], _)] ⟨rfl, rfl, rfl, rfl, rfl, trivial⟩ (hR _ _ _ rfl ?_); clear hR hB R
    refine G.region rfl (fun R hR => ?_)
    iterate 3 refine D.pure rfl rfl rfl rfl rfl rfl ?_
    refine D.done [(0, [], _), (3, [], _), (4, [], _), (5, [], _), (6, [], _), (33, [], _)] ⟨rfl, rfl, rfl, rfl, rfl, rfl, trivial⟩ (hR _ _ _ rfl ?_); clear hR R
    refine G.cut (fun fr C' L' μ => (True) ∧ fr = [(0, [], .slice A l.length c), (3, [], w3), (4, [], .int .i64 k), (5, [], .int .i64 (upN x)), (6, [], .int .i64 (lowN x))] ∧ L' = [.arr w3 33 3 k (((l.take k).map mkR).map Rel.enc).flatten]) ?_ (fun fr C33 L33 μ hle33 hI => ?_)
    · skip
      refine G.cond rfl (fun h33 => ?_) (fun h33 => ?_)
      · skip
        have h33' : upN x = x.c.toNat % 6 := by
          have h : (upN x : Int) = ((x.c.toNat % 6 : Nat) : Int) := by simpa using h33
          omega
        have hup6 : upN x < 6 := by unfold upN; omega
        refine G.region rfl (fun R hR => ?_)
        refine D.pure rfl rfl rfl rfl rfl rfl ?_
        refine D.i64 _ rfl rfl rfl rfl rfl (by omega) (by omega) rfl rfl ?_
        refine D.rem rfl rfl rfl rfl rfl rfl (by omega) (by omega) rfl rfl ?_
        refine D.pure rfl rfl rfl rfl rfl rfl ?_
        refine D.done [(0, [], _), (3, [], _), (4, [], _), (5, [], _), (6, [], _)] ⟨rfl, rfl, rfl, rfl, rfl, trivial⟩ (hR _ _ _ rfl ?_); clear hR R
        have hlow : ((upN x : Int) + 1) % 6 = (lowN x : Int) := by
          unfold lowN
          have : x.b.toNat % 6 = x.c.toNat % 6 := h33'
          rw [if_pos this]; unfold upN; omega
        refine G.meet 0 (Mem.le.refl _) (fr' := [(0, [], _), (3, [], _), (4, [], _), (5, [], _), (6, [], _)]) ⟨rfl, rfl, rfl, rfl, rfl, trivial⟩ ⟨trivial, by rw [← hlow], rfl⟩
      · skip
        have h33' : ¬ upN x = x.c.toNat % 6 := fun e => by
          have : (false : Bool) = true := by rw [← h33]; simp [e]
          cases this
        have hlow : x.c.toNat % 6 = lowN x := by
          unfold lowN
          rw [if_neg (show ¬ x.b.toNat % 6 = x.c.toNat % 6 from h33')]
        refine G.meet 0 (Mem.le.refl _) (fr' := [(0, [], _), (3, [], _), (4, [], _), (5, [], _), (6, [], _)]) ⟨rfl, rfl, rfl, rfl, rfl, trivial⟩ ⟨trivial, by rw [← hlow], rfl⟩
    · skip
      obtain ⟨htriv, rfl, rfl⟩ := hI
      have hup6 : upN x < 6 := by unfold upN; omega
      have hlow6 : lowN x < 6 := by unfold lowN; split <;> omega
      refine G.draw [0, 1, 2, 3, 4, 5, 6, 7, 8, 9, 10, 11, 12, 13, 14, 15, 16] [(10, 1), (12, 1), (7, 0)] rfl (by kernel_rfl) (fun R hB hR => ?_)
      iterate 3 refine D.pure rfl rfl rfl rfl rfl rfl ?_
      refine D.index0 (hv.mono (by (repeat (first | exact Mem.le.refl _ | assumption | (apply Mem.le.trans; rotate_left; assumption))))) rfl rfl rfl rfl rfl rfl rfl rfl rfl rfl (by omega) hrow (fun _ => rfl) (fun p40 hp40 => ?_)
      refine D.fieldP0 hp40 rfl rfl rfl rfl rfl rfl rfl rfl rfl rfl (fun _ => rfl) (fun p41 hp41 => ?_)
      refine D.loadP0 hp41 rfl rfl rfl rfl rfl rfl rfl rfl ?_
      refine D.rem rfl rfl rfl rfl rfl rfl (by omega) (by omega) rfl rfl ?_
      refine D.convQ (c := ((x.a.toNat % 4 : Nat) : Int)) rfl rfl rfl rfl rfl rfl rfl rfl (by rw [IntKind.wrap_i64]; omega) rfl rfl ?_
      refine D.i64 (((1 + x.a.toNat % 4 : Nat) : Int)) rfl rfl rfl rfl (by omega) (by omega) (by omega) rfl rfl ?_
      refine D.pure rfl rfl rfl rfl rfl rfl ?_
      refine D.gives (fun _ => (lname_fn _ (upN x) (by omega))) rfl rfl rfl rfl rfl rfl rfl rfl rfl ?_
      refine D.pure rfl rfl rfl rfl rfl rfl ?_
      refine D.gives (fun _ => (lname_fn _ (lowN x) (by omega))) rfl rfl rfl rfl rfl rfl rfl rfl rfl ?_
      refine D.build (mkR x).enc rfl rfl rfl rfl rfl rfl rfl rfl ?_
      refine D.buildSlice [(mkR x).enc] rfl rfl rfl rfl rfl rfl rfl rfl rfl rfl rfl rfl (fun _ => rfl) (fun p51 C51 hle51 hs51 => ?_)
      refine D.append (j := 0) rfl rfl rfl rfl rfl rfl rfl rfl rfl rfl rfl hs51 rfl (by simp only [List.length_singleton, maxLen]; omega) (by simp only [List.length_singleton]; omega) (fun _ => rfl) (fun v52 => ?_)
      refine D.pure rfl rfl rfl rfl rfl rfl ?_
      refine D.done [(0, [], _), (3, [], _), (4, [], _)] ⟨rfl, rfl, rfl, trivial⟩ (hR _ _ _ rfl ?_); clear hR hB R
      refine G.region rfl (fun R hR => ?_)
      refine D.pure rfl rfl rfl rfl rfl rfl ?_
      refine D.i64 (((k + 1 : Nat) : Int)) rfl rfl rfl rfl (by omega) (by omega) (by omega) rfl rfl ?_
      refine D.pure rfl rfl rfl rfl rfl rfl ?_
      refine D.done [(0, [], _), (3, [], _), (4, [], _)] ⟨rfl, rfl, rfl, trivial⟩ (hR _ _ _ rfl ?_); clear hR R
      refine G.eqL (L' := [.arr v52 33 3 (k + 1) (((l.take (k + 1)).map mkR).map Rel.enc).flatten]) (by rw [htk]; simp) ?_
      refine G.again (m' := 8 - (k + 1)) (by omega) (by (repeat (first | exact Mem.le.refl _ | assumption | (apply Mem.le.trans; rotate_left; assumption)))) (fr' := [(0, [], _), (3, [], _), (4, [], _)]) ⟨rfl, rfl, rfl, trivial⟩ ⟨k + 1, v52, ⟨by omega, by omega⟩, rfl, rfl, rfl⟩
  · skip
    simp only [Bool.and_eq_false_iff, decide_eq_false_iff_not] at h14
    refine G.region rfl (fun R hR => ?_)
    iterate 2 refine D.pure rfl rfl rfl rfl rfl rfl ?_
    refine D.done [(2, [], _)] ⟨rfl, trivial⟩ (hR _ _ _ rfl ?_); clear hR R
    refine G.freezeArr 0 (((l.take k).map mkR).map Rel.enc) rfl rfl (by intro r hr; obtain ⟨y, _, rfl⟩ := List.mem_map.1 hr; exact rel_len y) (by simp; omega) (fun Cf hlef hsf => ?_)
    refine G.retN (G.dropAll (G.fin1 rfl rfl ?_))
    refine ⟨rfl, ?_⟩
    have e : l.take k = l.take 8 := by
      rcases h14 with h | h
      · rw [List.take_of_length_le (by omega), List.take_of_length_le (by omega)]
      · congr 1; omega
    rw [makeL, ← e]
    exact hsf
end Go.Proofs.YtfelabnohopfdaaGreatDoor
namespace Go.Proofs.YtfelabnohopfdaaGreatDoor
open Go Go.Jog
set_option maxRecDepth 100000

def gR (l : List Rel) (i : Int) : Rel := l.getD i.toNat default
theorem gR_at {l : List Rel} {i : Int} (h0 : 0 ≤ i) (h1 : i < l.length) : l[i.toNat]? = some (gR l i) ∧ (l.map Rel.enc)[i.toNat]? = some (gR l i).enc := by
  have e : l[i.toNat]? = some (gR l i) := by
    unfold gR
    rw [List.getD_eq_getElem?_getD, List.getElem?_eq_getElem (by omega)]; rfl
  exact ⟨e, by rw [List.getElem?_map, e]; rfl⟩
def arcB (l : List Rel) (i : Int) : Bool := decide (0 ≤ i) && decide (i < l.length) && decide (1 ≤ (gR l i).kind) && decide ((gR l i).kind ≤ 3)
theorem arcB_in {l : List Rel} {i : Int} (h : arcB l i = true) : 0 ≤ i ∧ i < l.length := by
  unfold arcB at h
  simp at h
  omega
theorem carc_fn (C : Mem) (v : Value) (l : List Rel) (i : Int) (hv : Sl C 3 v (l.map Rel.enc)) : Gives cx.P 25 [v, .int .i64 i] C (.bool (arcB l i)) := by
  obtain ⟨A, c, rfl, _⟩ := id hv
  simp only [List.length_map] at hv ⊢
  refine Fn.intro (by kernel_rfl) Tryz.func25 rfl 29 rfl rfl (fun w0 => ?_)
  refine G.region rfl (fun R hR => ?_)
  refine D.pure rfl rfl rfl rfl rfl rfl ?_
  refine D.done [(0, [], _), (1, [], _)] ⟨rfl, rfl, trivial⟩ (hR _ _ _ rfl ?_); clear hR R
  refine G.region rfl (fun R hR => ?_)
  iterate 7 refine D.pure rfl rfl rfl rfl rfl rfl ?_
  refine D.pickAnd rfl rfl rfl rfl rfl rfl rfl rfl ?_
  iterate 3 refine D.pure rfl rfl rfl rfl rfl rfl ?_
  refine D.index rfl rfl rfl rfl rfl rfl rfl rfl rfl rfl (fun hg => ⟨hv, (by have h : (decide (0 ≤ i) && decide (i < (l.length : Int))) = true := hg.1; simp at h; omega), (by have h : (decide (0 ≤ i) && decide (i < (l.length : Int))) = true := hg.1; simp at h; exact (gR_at h.1 h.2).2)⟩) (fun _ => rfl) rfl (fun p16 hp16 => ?_)
  refine D.fieldP rfl rfl rfl rfl rfl rfl rfl rfl rfl rfl hp16 (fun _ => rfl) rfl (fun p17 hp17 => ?_)
  refine D.loadP rfl rfl rfl rfl rfl rfl hp17 rfl rfl rfl ?_
  refine D.pure rfl rfl rfl rfl rfl rfl ?_
  refine D.pickAnd rfl rfl rfl rfl rfl rfl rfl rfl ?_
  iterate 3 refine D.pure rfl rfl rfl rfl rfl rfl ?_
  refine D.index rfl rfl rfl rfl rfl rfl rfl rfl rfl rfl (fun hg => ⟨hv, (by have h : (decide (0 ≤ i) && decide (i < (l.length : Int)) && decide (1 ≤ (gR l i).kind)) = true := hg.1; simp at h; omega), (by have h : (decide (0 ≤ i) && decide (i < (l.length : Int)) && decide (1 ≤ (gR l i).kind)) = true := hg.1; simp at h; exact (gR_at h.1.1 h.1.2).2)⟩) (fun _ => rfl) rfl (fun p24 hp24 => ?_)
  refine D.fieldP rfl rfl rfl rfl rfl rfl rfl rfl rfl rfl hp24 (fun _ => rfl) rfl (fun p25 hp25 => ?_)
  refine D.loadP rfl rfl rfl rfl rfl rfl hp25 rfl rfl rfl ?_
  refine D.pure rfl rfl rfl rfl rfl rfl ?_
  refine D.pickAnd rfl rfl rfl rfl rfl rfl rfl rfl ?_
  refine D.pure rfl rfl rfl rfl rfl rfl ?_
  refine D.done [(4, [], _)] ⟨rfl, trivial⟩ (hR _ _ _ rfl ?_); clear hR R
  refine G.retN (G.dropAll (G.fin1 rfl rfl ?_))
  exact ⟨rfl, rfl⟩
theorem larc55_fn (C : Mem) (v : Value) (l : List Rel) (i : Int) (hv : Sl C 3 v (l.map Rel.enc)) : Gives cx.P 11 [v, .int .i64 i] C (.bool (arcB l i)) := by
  obtain ⟨A, c, rfl, _⟩ := id hv
  simp only [List.length_map] at hv ⊢
  refine Fn.intro (by kernel_rfl) Tryz.func11 rfl 29 rfl rfl (fun w0 => ?_)
  refine G.region rfl (fun R hR => ?_)
  refine D.pure rfl rfl rfl rfl rfl rfl ?_
  refine D.done [(0, [], _), (1, [], _)] ⟨rfl, rfl, trivial⟩ (hR _ _ _ rfl ?_); clear hR R
  refine G.region rfl (fun R hR => ?_)
  iterate 7 refine D.pure rfl rfl rfl rfl rfl rfl ?_
  refine D.pickAnd rfl rfl rfl rfl rfl rfl rfl rfl ?_
  iterate 3 refine D.pure rfl rfl rfl rfl rfl rfl ?_
  refine D.index rfl rfl rfl rfl rfl rfl rfl rfl rfl rfl (fun hg => ⟨hv, (by have h : (decide (0 ≤ i) && decide (i < (l.length : Int))) = true := hg.1; simp at h; omega), (by have h : (decide (0 ≤ i) && decide (i < (l.length : Int))) = true := hg.1; simp at h; exact (gR_at h.1 h.2).2)⟩) (fun _ => rfl) rfl (fun p16 hp16 => ?_)
  refine D.fieldP rfl rfl rfl rfl rfl rfl rfl rfl rfl rfl hp16 (fun _ => rfl) rfl (fun p17 hp17 => ?_)
  refine D.loadP rfl rfl rfl rfl rfl rfl hp17 rfl rfl rfl ?_
  refine D.pure rfl rfl rfl rfl rfl rfl ?_
  refine D.pickAnd rfl rfl rfl rfl rfl rfl rfl rfl ?_
  iterate 3 refine D.pure rfl rfl rfl rfl rfl rfl ?_
  refine D.index rfl rfl rfl rfl rfl rfl rfl rfl rfl rfl (fun hg => ⟨hv, (by have h : (decide (0 ≤ i) && decide (i < (l.length : Int)) && decide (1 ≤ (gR l i).kind)) = true := hg.1; simp at h; omega), (by have h : (decide (0 ≤ i) && decide (i < (l.length : Int)) && decide (1 ≤ (gR l i).kind)) = true := hg.1; simp at h; exact (gR_at h.1.1 h.1.2).2)⟩) (fun _ => rfl) rfl (fun p24 hp24 => ?_)
  refine D.fieldP rfl rfl rfl rfl rfl rfl rfl rfl rfl rfl hp24 (fun _ => rfl) rfl (fun p25 hp25 => ?_)
  refine D.loadP rfl rfl rfl rfl rfl rfl hp25 rfl rfl rfl ?_
  refine D.pure rfl rfl rfl rfl rfl rfl ?_
  refine D.pickAnd rfl rfl rfl rfl rfl rfl rfl rfl ?_
  refine D.pure rfl rfl rfl rfl rfl rfl ?_
  refine D.done [(4, [], _)] ⟨rfl, trivial⟩ (hR _ _ _ rfl ?_); clear hR R
  refine G.retN (G.dropAll (G.fin1 rfl rfl ?_))
  exact ⟨rfl, rfl⟩
/-- The unit that arcs lead to. -/
def stepsM (l : List Rel) (ix : Int) : Str → List Int → Option Str
  | u, [] => some u
  | u, i :: r => if arcB l i && !(i == ix) && decide ((gR l i).lower = u) then stepsM l ix (gR l i).upper r else none
def impB (l : List Rel) (ix : Int) (bs : List Int) : Bool := arcB l ix && !(decide (bs.length = 0)) && (match stepsM l ix (gR l ix).lower bs with
  | some u => decide (u = (gR l ix).upper)
  | none => false)
theorem implied_fn (C : Mem) (v vb : Value) (l : List Rel) (ix : Int) (bs : List Int) (hv : Sl C 3 v (l.map Rel.enc)) (hb : Sl C 1 vb (bs.map encI)) : Gives cx.P 14 [v, .int .i64 ix, vb] C (.bool (impB l ix bs)) := by
  obtain ⟨A, c, rfl, hl1, hl2, _⟩ := id hv
  obtain ⟨Ab, cb, rfl, hb1, hb2, _⟩ := id hb
  have hmx : maxLen ≤ 9223372036854775807 := by simp [maxLen]
  simp only [List.length_map] at hv hb hb1 hl1 ⊢
  refine Fn.intro (by kernel_rfl) Tryz.func14 rfl 61 rfl rfl (fun w0 => ?_)
  refine G.region rfl (fun R hR => ?_)
  refine D.pure rfl rfl rfl rfl rfl rfl ?_
  refine D.done [(0, [], _), (1, [], _), (2, [], _)] ⟨rfl, rfl, rfl, trivial⟩ (hR _ _ _ rfl ?_); clear hR R
  refine G.region rfl (fun R hR => ?_)
  iterate 2 refine D.pure rfl rfl rfl rfl rfl rfl ?_
  refine D.gives2 (carc_fn _ _ l ix hv) rfl rfl rfl rfl rfl rfl rfl (fun _ => rfl) ?_
  iterate 5 refine D.pure rfl rfl rfl rfl rfl rfl ?_
  refine D.pickOr rfl rfl rfl rfl rfl rfl rfl rfl ?_
  refine D.done [(0, [], _), (1, [], _), (2, [], _), (18, [], _)] ⟨rfl, rfl, rfl, rfl, trivial⟩ (hR _ _ _ rfl ?_); clear hR R
  refine G.cond rfl (fun h18 => ?_) (fun h18 => ?_)
  · skip
    have hno : impB l ix bs = false := by
      unfold impB
      cases h1 : arcB l ix with
      | false => rfl
      | true =>
        rw [h1] at h18
        have h2 : bs.length = 0 := by simpa using h18
        simp [h2]
    refine G.region rfl (fun R hR => ?_)
    refine D.pure rfl rfl rfl rfl rfl rfl ?_
    refine D.done [(6, [], _)] ⟨rfl, trivial⟩ (hR _ _ _ rfl ?_); clear hR R
    refine G.retN (G.dropAll (G.fin1 rfl rfl ?_))
    exact ⟨by rw [hno], rfl⟩
  · skip
    have h1 : arcB l ix = true := by
      cases h1 : arcB l ix with
      | true => rfl
      | false => rw [h1] at h18; cases h18
    have h2 : ¬ bs.length = 0 := by
      rw [h1] at h18
      simpa using h18
    obtain ⟨hx0, hx1⟩ := arcB_in h1
    have hI : impB l ix bs = (match stepsM l ix (gR l ix).lower bs with
      | some u => decide (u = (gR l ix).upper)
      | none => false) := by
      unfold impB
      rw [h1]; simp [h2]
    refine G.region rfl (fun R hR => ?_)
    iterate 2 refine D.pure rfl rfl rfl rfl rfl rfl ?_
    refine D.index0 (hv.mono (by (repeat (first | exact Mem.le.refl _ | assumption | (apply Mem.le.trans; rotate_left; assumption))))) rfl rfl rfl rfl rfl rfl rfl rfl rfl rfl (by omega) (gR_at hx0 hx1).2 (fun _ => rfl) (fun p21 hp21 => ?_)
    refine D.fieldP0 hp21 rfl rfl rfl rfl rfl rfl rfl rfl rfl rfl (fun _ => rfl) (fun p22 hp22 => ?_)
    refine D.loadP0 hp22 rfl rfl rfl rfl rfl rfl rfl rfl ?_
    refine D.pure rfl rfl rfl rfl rfl rfl ?_
    refine D.done [(0, [], _), (1, [], _), (2, [], _), (7, [], _)] ⟨rfl, rfl, rfl, rfl, trivial⟩ (hR _ _ _ rfl ?_); clear hR R
    refine G.region rfl (fun R hR => ?_)
    iterate 3 refine D.pure rfl rfl rfl rfl rfl rfl ?_
    refine D.done [(0, [], _), (1, [], _), (7, [], _), (24, [], _), (25, [], _), (26, [], _)] ⟨rfl, rfl, rfl, rfl, rfl, rfl, trivial⟩ (hR _ _ _ rfl ?_); clear hR R
    refine G.loop (fun fr C' L' μ => ∃ (k : Nat) (u : Str), (k ≤ bs.length ∧ stepsM l ix (gR l ix).lower bs = stepsM l ix u (bs.drop k)) ∧ fr = [(0, [], .slice A l.length c), (1, [], .int .i64 ix), (7, [], strV u), (24, [], .slice Ab bs.length cb), (25, [], .int .i64 bs.length), (26, [], .int .i64 k)] ∧ L' = [] ∧ μ = bs.length - k) (fr' := [(0, [], _), (1, [], _), (7, [], _), (24, [], _), (25, [], _), (26, [], _)]) ⟨rfl, rfl, rfl, rfl, rfl, rfl, trivial⟩ ⟨0, (gR l ix).lower, ⟨Nat.zero_le _, rfl⟩, rfl, rfl, rfl⟩ (fun fr C0' L0' m hle0 hI => ?_)
    obtain ⟨k, u, ⟨hk, hst⟩, rfl, rfl, rfl⟩ := hI
    refine G.region rfl (fun R hR => ?_)
    refine D.pure rfl rfl rfl rfl rfl rfl ?_
    refine D.done [(0, [], _), (1, [], _), (7, [], _), (24, [], _), (25, [], _), (26, [], _), (27, [], _)] ⟨rfl, rfl, rfl, rfl, rfl, rfl, rfl, trivial⟩ (hR _ _ _ rfl ?_); clear hR R
    refine G.cond rfl (fun h27 => ?_) (fun h27 => ?_)
    · skip
      have hkl : k < bs.length := by simpa using h27
      obtain ⟨i, hi⟩ : ∃ i, bs[k]? = some i := ⟨bs[k], List.getElem?_eq_getElem hkl⟩
      have hrow : (bs.map encI)[k]? = some (encI i) := by rw [List.getElem?_map, hi]; rfl
      have hdr : bs.drop k = i :: bs.drop (k + 1) := by
        rw [List.drop_eq_getElem_cons hkl]
        congr 1
        exact (List.getElem?_eq_some_iff.1 hi).2
      refine G.region rfl (fun R hR => ?_)
      refine D.index0 (hb.mono (by (repeat (first | exact Mem.le.refl _ | assumption | (apply Mem.le.trans; rotate_left; assumption))))) rfl rfl rfl rfl rfl rfl rfl rfl rfl rfl (by omega) hrow (fun _ => rfl) (fun p28 hp28 => ?_)
      refine D.loadP0 hp28 rfl rfl rfl rfl rfl rfl rfl rfl ?_
      refine D.pure rfl rfl rfl rfl rfl rfl ?_
      refine D.done [(0, [], _), (1, [], _), (7, [], _), (9, [], _), (24, [], _), (25, [], _), (26, [], _)] ⟨rfl, rfl, rfl, rfl, rfl, rfl, rfl, trivial⟩ (hR _ _ _ rfl ?_); clear hR R
      refine G.region rfl (fun R hR => ?_)
      iterate 2 refine D.pure rfl rfl rfl rfl rfl rfl ?_
      refine D.gives2 (carc_fn _ _ l i (hv.mono (by (repeat (first | exact Mem.le.refl _ | assumption | (apply Mem.le.trans; rotate_left; assumption)))))) rfl rfl rfl rfl rfl rfl rfl (fun _ => rfl) ?_
      iterate 5 refine D.pure rfl rfl rfl rfl rfl rfl ?_
      refine D.pickOr rfl rfl rfl rfl rfl rfl rfl rfl ?_
      iterate 3 refine D.pure rfl rfl rfl rfl rfl rfl ?_
      refine D.index rfl rfl rfl rfl rfl rfl rfl rfl rfl rfl (fun hg => ⟨hv.mono (by (repeat (first | exact Mem.le.refl _ | assumption | (apply Mem.le.trans; rotate_left; assumption)))), (by have h : (!arcB l i || (i == ix)) = false := hg.1; simp at h; exact (arcB_in h.1).1), (by have h : (!arcB l i || (i == ix)) = false := hg.1; simp at h; exact (gR_at (arcB_in h.1).1 (arcB_in h.1).2).2)⟩) (fun _ => rfl) rfl (fun p42 hp42 => ?_)
      refine D.fieldP rfl rfl rfl rfl rfl rfl rfl rfl rfl rfl hp42 (fun _ => rfl) rfl (fun p43 hp43 => ?_)
      refine D.loadP rfl rfl rfl rfl rfl rfl hp43 rfl rfl rfl ?_
      iterate 2 refine D.pure rfl rfl rfl rfl rfl rfl ?_
      refine D.pickOr rfl rfl rfl rfl rfl rfl rfl rfl ?_
      refine D.done [(0, [], _), (1, [], _), (9, [], _), (24, [], _), (25, [], _), (26, [], _), (47, [], _)] ⟨rfl, rfl, rfl, rfl, rfl, rfl, rfl, trivial⟩ (hR _ _ _ rfl ?_); clear hR R
      refine G.cond rfl (fun h47 => ?_) (fun h47 => ?_)
      · skip
        have hno : stepsM l ix (gR l ix).lower bs = none := by
          rw [hst, hdr, stepsM, if_neg]
          intro h
          simp at h h47
          obtain ⟨⟨e1, e2⟩, e3⟩ := h
          rw [e1] at h47
          simp [e2, e3] at h47
        refine G.region rfl (fun R hR => ?_)
        refine D.pure rfl rfl rfl rfl rfl rfl ?_
        refine D.done [(6, [], _)] ⟨rfl, trivial⟩ (hR _ _ _ rfl ?_); clear hR R
        refine G.retN (G.dropAll (G.fin1 rfl rfl ?_))
        exact ⟨by rw [hI, hno], rfl⟩
      · skip
        have hok : (arcB l i && !(i == ix) && decide ((gR l i).lower = u)) = true := by
          simp at h47
          simp [h47.1.1, h47.1.2, h47.2]
        have hin := arcB_in (l := l) (i := i) (by simp at hok; exact hok.1.1)
        refine G.region rfl (fun R hR => ?_)
        iterate 2 refine D.pure rfl rfl rfl rfl rfl rfl ?_
        refine D.index0 (hv.mono (by (repeat (first | exact Mem.le.refl _ | assumption | (apply Mem.le.trans; rotate_left; assumption))))) rfl rfl rfl rfl rfl rfl rfl rfl rfl rfl (by omega) (gR_at hin.1 hin.2).2 (fun _ => rfl) (fun p50 hp50 => ?_)
        refine D.fieldP0 hp50 rfl rfl rfl rfl rfl rfl rfl rfl rfl rfl (fun _ => rfl) (fun p51 hp51 => ?_)
        refine D.loadP0 hp51 rfl rfl rfl rfl rfl rfl rfl rfl ?_
        refine D.pure rfl rfl rfl rfl rfl rfl ?_
        refine D.done [(0, [], _), (1, [], _), (7, [], _), (24, [], _), (25, [], _), (26, [], _)] ⟨rfl, rfl, rfl, rfl, rfl, rfl, trivial⟩ (hR _ _ _ rfl ?_); clear hR R
        refine G.region rfl (fun R hR => ?_)
        refine D.i64 _ rfl rfl rfl rfl rfl (by omega) (by omega) rfl rfl ?_
        refine D.pure rfl rfl rfl rfl rfl rfl ?_
        refine D.done [(0, [], _), (1, [], _), (7, [], _), (24, [], _), (25, [], _), (26, [], _)] ⟨rfl, rfl, rfl, rfl, rfl, rfl, trivial⟩ (hR _ _ _ rfl ?_); clear hR R
        refine G.again (m' := bs.length - (k + 1)) (by omega) (by (repeat (first | exact Mem.le.refl _ | assumption | (apply Mem.le.trans; rotate_left; assumption)))) (fr' := [(0, [], _), (1, [], _), (7, [], _), (24, [], _), (25, [], _), (26, [], _)]) ⟨rfl, rfl, rfl, rfl, rfl, rfl, trivial⟩ ⟨k + 1, (gR l i).upper, ⟨by omega, by rw [hst, hdr, stepsM, if_pos hok]⟩, rfl, rfl, rfl⟩
    · skip
      have hkl : bs.length ≤ k := by
        have : ¬ k < bs.length := by simpa using h27
        omega
      refine G.region rfl (fun R hR => ?_)
      iterate 3 refine D.pure rfl rfl rfl rfl rfl rfl ?_
      refine D.index0 (hv.mono (by (repeat (first | exact Mem.le.refl _ | assumption | (apply Mem.le.trans; rotate_left; assumption))))) rfl rfl rfl rfl rfl rfl rfl rfl rfl rfl (by omega) (gR_at hx0 hx1).2 (fun _ => rfl) (fun p57 hp57 => ?_)
      refine D.fieldP0 hp57 rfl rfl rfl rfl rfl rfl rfl rfl rfl rfl (fun _ => rfl) (fun p58 hp58 => ?_)
      refine D.loadP0 hp58 rfl rfl rfl rfl rfl rfl rfl rfl ?_
      iterate 2 refine D.pure rfl rfl rfl rfl rfl rfl ?_
      refine D.done [(6, [], _)] ⟨rfl, trivial⟩ (hR _ _ _ rfl ?_); clear hR R
      refine G.retN (G.dropAll (G.fin1 rfl rfl ?_))
      refine ⟨?_, rfl⟩
      rw [hI, hst, List.drop_of_length_le hkl, stepsM]
      simp [eqStr]
def posZ (N : List Str) (s : Str) : Nat := if s ∈ N then posS N s else 0
theorem look_at (N : List Str) (s : Str) : lookV (.int .i64 0) true (mget (atM N 0) s) = .tuple #[.int .i64 (posZ N s), .bool (decide (s ∈ N))] := by
  rw [mget_atM]
  by_cases h : s ∈ N
  · simp [h, posZ, lookV]
  · simp [h, posZ, lookV]
theorem nodup_snoc {α : Type} {l : List α} {x : α} (h : l.Nodup) (hx : x ∉ l) : (l ++ [x]).Nodup := by
  rw [List.nodup_append]
  exact ⟨h, by simp, fun a ha b hb e => by simp only [List.mem_singleton] at hb; subst hb; subst e; exact hx ha⟩
/-- One relation is kept. -/
def keptB (l : List Rel) (o : List Str) (k : Nat) : Bool := decide ((gR l k).upper ∈ o) && decide ((gR l k).lower ∈ o) && !(arcB l k && decide (posZ o (gR l k).upper ≤ posZ o (gR l k).lower))
def ordB (l : List Rel) (o : List Str) : Bool := decide o.Nodup && (List.range l.length).all (keptB l o)
set_option maxHeartbeats 1000000 in
theorem corder_fn (C : Mem) (v vo : Value) (l : List Rel) (o : List Str) (hv : Sl C 3 v (l.map Rel.enc)) (hvo : Sl C 1 vo (o.map encS)) : Gives cx.P 13 [v, vo] C (.bool (ordB l o)) := by
  obtain ⟨A, c, rfl, hl1, hl2, _⟩ := id hv
  obtain ⟨Ao, co, rfl, ho1, ho2, _⟩ := id hvo
  have hmx : maxLen ≤ 9223372036854775807 := by simp [maxLen]
  simp only [List.length_map] at hv hvo hl1 ho1 ⊢
  refine Fn.intro (by kernel_rfl) Tryz.func13 rfl 73 rfl rfl (fun w0 => ?_)
  refine G.region rfl (fun R hR => ?_)
  refine D.pure rfl rfl rfl rfl rfl rfl ?_
  refine D.done [(0, [], _), (1, [], _)] ⟨rfl, rfl, trivial⟩ (hR _ _ _ rfl ?_); clear hR R
  refine G.region rfl (fun R hR => ?_)
  refine D.makeMap keyS rfl rfl rfl rfl (fun _ => rfl) (fun b16 => ?_)
  refine D.pure rfl rfl rfl rfl rfl rfl ?_
  refine D.done [(0, [], _), (1, [], _), (5, [], _)] ⟨rfl, rfl, rfl, trivial⟩ (hR _ _ _ rfl ?_); clear hR R
  refine G.region rfl (fun R hR => ?_)
  iterate 3 refine D.pure rfl rfl rfl rfl rfl rfl ?_
  refine D.done [(0, [], _), (5, [], _), (17, [], _), (18, [], _), (19, [], _)] ⟨rfl, rfl, rfl, rfl, rfl, trivial⟩ (hR _ _ _ rfl ?_); clear hR R
  refine G.loop (fun fr C' L' μ => ∃ (k : Nat), (k ≤ o.length ∧ (o.take k).Nodup) ∧ fr = [(0, [], .slice A l.length c), (5, [], .map (some b16)), (17, [], .slice Ao o.length co), (18, [], .int .i64 o.length), (19, [], .int .i64 k)] ∧ L' = [.obj b16 (mapOf keyS.enc (atM (o.take k) 0))] ∧ μ = o.length - k) (fr' := [(0, [], _), (5, [], _), (17, [], _), (18, [], _), (19, [], _)]) ⟨rfl, rfl, rfl, rfl, rfl, trivial⟩ ⟨0, ⟨Nat.zero_le _, by simp⟩, rfl, rfl, rfl⟩ (fun fr C0' L0' m hle0 hI => ?_)
  obtain ⟨k, ⟨hk, hnd⟩, rfl, rfl, rfl⟩ := hI
  refine G.region rfl (fun R hR => ?_)
  refine D.pure rfl rfl rfl rfl rfl rfl ?_
  refine D.done [(0, [], _), (5, [], _), (17, [], _), (18, [], _), (19, [], _), (20, [], _)] ⟨rfl, rfl, rfl, rfl, rfl, rfl, trivial⟩ (hR _ _ _ rfl ?_); clear hR R
  refine G.cond rfl (fun h20 => ?_) (fun h20 => ?_)
  · skip
    have hkl : k < o.length := by simpa using h20
    obtain ⟨s, hs⟩ : ∃ s, o[k]? = some s := ⟨o[k], List.getElem?_eq_getElem hkl⟩
    have hrs : (o.map encS)[k]? = some (encS s) := by rw [List.getElem?_map, hs]; rfl
    have htk : o.take (k + 1) = o.take k ++ [s] := by rw [List.take_add_one, hs]; rfl
    refine G.region rfl (fun R hR => ?_)
    refine D.pure rfl rfl rfl rfl rfl rfl ?_
    refine D.index0 (hvo.mono (by (repeat (first | exact Mem.le.refl _ | assumption | (apply Mem.le.trans; rotate_left; assumption))))) rfl rfl rfl rfl rfl rfl rfl rfl rfl rfl (by omega) hrs (fun _ => rfl) (fun p22 hp22 => ?_)
    refine D.loadP0 hp22 rfl rfl rfl rfl rfl rfl rfl rfl ?_
    iterate 2 refine D.pure rfl rfl rfl rfl rfl rfl ?_
    refine D.done [(0, [], _), (5, [], _), (6, [], _), (7, [], _), (17, [], _), (18, [], _), (19, [], _)] ⟨rfl, rfl, rfl, rfl, rfl, rfl, rfl, trivial⟩ (hR _ _ _ rfl ?_); clear hR R
    refine G.region rfl (fun R hR => ?_)
    iterate 2 refine D.pure rfl rfl rfl rfl rfl rfl ?_
    refine D.lookupL keyS (.head _) rfl rfl rfl rfl rfl rfl rfl rfl (by kernel_rfl) rfl (look_at (o.take k) s) rfl rfl ?_
    iterate 5 refine D.pure rfl rfl rfl rfl rfl rfl ?_
    refine D.done [(0, [], _), (5, [], _), (6, [], _), (7, [], _), (9, [], _), (17, [], _), (18, [], _), (19, [], _)] ⟨rfl, rfl, rfl, rfl, rfl, rfl, rfl, rfl, trivial⟩ (hR _ _ _ rfl ?_); clear hR R
    refine G.region rfl (fun R hR => ?_)
    refine D.pure rfl rfl rfl rfl rfl rfl ?_
    refine D.done [(0, [], _), (5, [], _), (6, [], _), (7, [], _), (17, [], _), (18, [], _), (19, [], _), (30, [], _)] ⟨rfl, rfl, rfl, rfl, rfl, rfl, rfl, rfl, trivial⟩ (hR _ _ _ rfl ?_); clear hR R
    refine G.cond rfl (fun h30 => ?_) (fun h30 => ?_)
    · skip
      have h38' : s ∈ o.take k := by simpa using h30
      have hno : ordB l o = false := by
        unfold ordB
        have hn : ¬ o.Nodup := fun hn => by
          have h2 := hn.sublist (List.take_sublist (k + 1) o)
          rw [htk, List.nodup_append] at h2
          exact h2.2.2 s h38' s (by simp) rfl
        simp [hn]
      refine G.region rfl (fun R hR => ?_)
      refine D.pure rfl rfl rfl rfl rfl rfl ?_
      refine D.done [(4, [], _)] ⟨rfl, trivial⟩ (hR _ _ _ rfl ?_); clear hR R
      refine G.retN (G.dropAll (G.fin1 rfl rfl ?_))
      exact ⟨by rw [hno], rfl⟩
    · skip
      have h38' : s ∉ o.take k := by simpa using h30
      have hset := mset_atM (i := 0) h38'
      rw [← htk, List.length_take, Nat.min_eq_left (by omega), Nat.zero_add] at hset
      refine G.region rfl (fun R hR => ?_)
      iterate 3 refine D.pure rfl rfl rfl rfl rfl rfl ?_
      refine D.mapUpdate keyS (j := 0) rfl rfl rfl rfl rfl rfl rfl rfl rfl rfl (by kernel_rfl) ?_
      refine D.done [(0, [], _), (5, [], _), (17, [], _), (18, [], _), (19, [], _)] ⟨rfl, rfl, rfl, rfl, rfl, trivial⟩ (hR _ _ _ rfl ?_); clear hR R
      refine G.region rfl (fun R hR => ?_)
      refine D.i64 _ rfl rfl rfl rfl rfl (by omega) (by omega) rfl rfl ?_
      refine D.pure rfl rfl rfl rfl rfl rfl ?_
      refine D.done [(0, [], _), (5, [], _), (17, [], _), (18, [], _), (19, [], _)] ⟨rfl, rfl, rfl, rfl, rfl, trivial⟩ (hR _ _ _ rfl ?_); clear hR R
      refine G.eqL (L' := [.obj b16 (mapOf keyS.enc (atM (o.take (k + 1)) 0))]) (by rw [← hset]; rfl) ?_
      refine G.again (m' := o.length - (k + 1)) (by omega) (by (repeat (first | exact Mem.le.refl _ | assumption | (apply Mem.le.trans; rotate_left; assumption)))) (fr' := [(0, [], _), (5, [], _), (17, [], _), (18, [], _), (19, [], _)]) ⟨rfl, rfl, rfl, rfl, rfl, trivial⟩ ⟨k + 1, ⟨by omega, by rw [htk]; exact nodup_snoc hnd h38'⟩, rfl, rfl, rfl⟩
  · skip
    have hkl : o.length ≤ k := by
      have : ¬ k < o.length := by simpa using h20
      omega
    rw [List.take_of_length_le hkl] at hnd ⊢
    refine G.region rfl (fun R hR => ?_)
    iterate 3 refine D.pure rfl rfl rfl rfl rfl rfl ?_
    refine D.done [(0, [], _), (5, [], _), (35, [], _), (36, [], _), (37, [], _)] ⟨rfl, rfl, rfl, rfl, rfl, trivial⟩ (hR _ _ _ rfl ?_); clear hR R
    refine G.loop (fun fr C' L' μ => ∃ (k : Nat), (k ≤ l.length ∧ ∀ j, j < k → keptB l o j = true) ∧ fr = [(0, [], .slice A l.length c), (5, [], .map (some b16)), (35, [], .slice A l.length c), (36, [], .int .i64 l.length), (37, [], .int .i64 k)] ∧ L' = [.obj b16 (mapOf keyS.enc (atM o 0))] ∧ μ = l.length - k) (fr' := [(0, [], _), (5, [], _), (35, [], _), (36, [], _), (37, [], _)]) ⟨rfl, rfl, rfl, rfl, rfl, trivial⟩ ⟨0, ⟨Nat.zero_le _, fun j hj => by omega⟩, rfl, rfl, rfl⟩ (fun fr C1' L1' m hle1 hI => ?_)
    obtain ⟨k, ⟨hk2, hall⟩, rfl, rfl, rfl⟩ := hI
    refine G.region rfl (fun R hR => ?_)
    refine D.pure rfl rfl rfl rfl rfl rfl ?_
    refine D.done [(0, [], _), (5, [], _), (35, [], _), (36, [], _), (37, [], _), (38, [], _)] ⟨rfl, rfl, rfl, rfl, rfl, rfl, trivial⟩ (hR _ _ _ rfl ?_); clear hR R
    refine G.cond rfl (fun h38 => ?_) (fun h38 => ?_)
    · skip
      have hkl2 : k < l.length := by simpa using h38
      have hrx := (gR_at (l := l) (i := (k : Int)) (by omega) (by omega)).2
      refine G.region rfl (fun R hR => ?_)
      refine D.pure rfl rfl rfl rfl rfl rfl ?_
      refine D.index0 (hv.mono (by (repeat (first | exact Mem.le.refl _ | assumption | (apply Mem.le.trans; rotate_left; assumption))))) rfl rfl rfl rfl rfl rfl rfl rfl rfl rfl (by omega) hrx (fun _ => rfl) (fun p40 hp40 => ?_)
      refine D.loadP0 hp40 rfl rfl rfl rfl rfl rfl rfl rfl ?_
      refine D.alloc rfl rfl rfl rfl rfl (fun _ => rfl) (fun b11 => ?_)
      refine D.pure rfl rfl rfl rfl rfl rfl ?_
      refine D.store (j := 0) rfl rfl rfl rfl rfl rfl rfl rfl rfl rfl rfl rfl ?_
      refine D.done [(0, [], _), (5, [], _), (10, [], _), (11, [], _), (35, [], _), (36, [], _), (37, [], _)] ⟨rfl, rfl, rfl, rfl, rfl, rfl, rfl, trivial⟩ (hR _ _ _ rfl ?_); clear hR R
      refine G.region rfl (fun R hR => ?_)
      iterate 2 refine D.pure rfl rfl rfl rfl rfl rfl ?_
      refine D.loadL (.head _) rfl rfl rfl rfl rfl rfl rfl rfl rfl ?_
      refine D.lookupL keyS (.tail _ (.head _)) rfl rfl rfl rfl rfl rfl rfl rfl (by kernel_rfl) rfl (look_at o (gR l k).upper) rfl rfl ?_
      iterate 5 refine D.pure rfl rfl rfl rfl rfl rfl ?_
      refine D.done [(0, [], _), (5, [], _), (10, [], _), (11, [], _), (12, [], _), (13, [], _), (35, [], _), (36, [], _), (37, [], _)] ⟨rfl, rfl, rfl, rfl, rfl, rfl, rfl, rfl, rfl, trivial⟩ (hR _ _ _ rfl ?_); clear hR R
      refine G.region rfl (fun R hR => ?_)
      iterate 2 refine D.pure rfl rfl rfl rfl rfl rfl ?_
      refine D.loadL (.head _) rfl rfl rfl rfl rfl rfl rfl rfl rfl ?_
      refine D.lookupL keyS (.tail _ (.head _)) rfl rfl rfl rfl rfl rfl rfl rfl (by kernel_rfl) rfl (look_at o (gR l k).lower) rfl rfl ?_
      iterate 5 refine D.pure rfl rfl rfl rfl rfl rfl ?_
      refine D.done [(0, [], _), (5, [], _), (10, [], _), (12, [], _), (13, [], _), (14, [], _), (15, [], _), (35, [], _), (36, [], _), (37, [], _)] ⟨rfl, rfl, rfl, rfl, rfl, rfl, rfl, rfl, rfl, rfl, trivial⟩ (hR _ _ _ rfl ?_); clear hR R
      refine G.region rfl (fun R hR => ?_)
      iterate 5 refine D.pure rfl rfl rfl rfl rfl rfl ?_
      refine D.pickOr rfl rfl rfl rfl rfl rfl rfl rfl ?_
      iterate 3 refine D.pure rfl rfl rfl rfl rfl rfl ?_
      refine D.gives (fun _ => (carc_fn _ _ l k (hv.mono (by (repeat (first | exact Mem.le.refl _ | assumption | (apply Mem.le.trans; rotate_left; assumption))))))) rfl rfl rfl rfl rfl rfl rfl rfl rfl ?_
      iterate 4 refine D.pure rfl rfl rfl rfl rfl rfl ?_
      refine D.pickAnd rfl rfl rfl rfl rfl rfl rfl rfl ?_
      refine D.pickOr rfl rfl rfl rfl rfl rfl rfl rfl ?_
      refine D.done [(0, [], _), (5, [], _), (35, [], _), (36, [], _), (37, [], _), (71, [], _)] ⟨rfl, rfl, rfl, rfl, rfl, rfl, trivial⟩ (hR _ _ _ rfl ?_); clear hR R
      refine G.cond rfl (fun h71 => ?_) (fun h71 => ?_)
      · skip
        have hkp : keptB l o k = false := by
          unfold keptB
          cases h1 : decide ((gR l k).upper ∈ o) <;> cases h2 : decide ((gR l k).lower ∈ o) <;> try rfl
          rw [h1, h2] at h71
          simp at h71
          simp [h71.1, h71.2]
        have hno : ordB l o = false := by
          unfold ordB
          have : ((List.range l.length).all (keptB l o)) = false := by
            rw [List.all_eq_false]
            exact ⟨k, List.mem_range.2 hkl2, by rw [hkp]; decide⟩
          rw [this, Bool.and_false]
        refine G.region rfl (fun R hR => ?_)
        refine D.pure rfl rfl rfl rfl rfl rfl ?_
        refine D.done [(4, [], _)] ⟨rfl, trivial⟩ (hR _ _ _ rfl ?_); clear hR R
        refine G.retN (G.dropAll (G.fin1 rfl rfl ?_))
        exact ⟨by rw [hno], rfl⟩
      · skip
        have hkp : keptB l o k = true := by
          unfold keptB
          cases h1 : decide ((gR l k).upper ∈ o) <;> cases h2 : decide ((gR l k).lower ∈ o) <;> rw [h1, h2] at h71 <;> first
            | (simp at h71; done)
            | skip
          simp at h71
          simp
          cases h3 : arcB l k with
          | false => exact .inl rfl
          | true => exact .inr (by have := h71 h3; omega)
        refine G.region rfl (fun R hR => ?_)
        refine D.i64 _ rfl rfl rfl rfl rfl (by omega) (by omega) rfl rfl ?_
        refine D.pure rfl rfl rfl rfl rfl rfl ?_
        refine D.done [(0, [], _), (5, [], _), (35, [], _), (36, [], _), (37, [], _)] ⟨rfl, rfl, rfl, rfl, rfl, trivial⟩ (hR _ _ _ rfl ?_); clear hR R
        refine G.dropE 0 rfl ?_
        refine G.again (m' := l.length - (k + 1)) (by omega) (by (repeat (first | exact Mem.le.refl _ | assumption | (apply Mem.le.trans; rotate_left; assumption)))) (fr' := [(0, [], _), (5, [], _), (35, [], _), (36, [], _), (37, [], _)]) ⟨rfl, rfl, rfl, rfl, rfl, trivial⟩ ⟨k + 1, ⟨by omega, fun j hj => by
          by_cases e : j = k
          · rw [e]; exact hkp
          · exact hall j (by omega)⟩, rfl, rfl, rfl⟩
    · skip
      have hkl2 : l.length ≤ k := by
        have : ¬ k < l.length := by simpa using h38
        omega
      refine G.region rfl (fun R hR => ?_)
      refine D.pure rfl rfl rfl rfl rfl rfl ?_
      refine D.done [(4, [], _)] ⟨rfl, trivial⟩ (hR _ _ _ rfl ?_); clear hR R
      refine G.retN (G.dropAll (G.fin1 rfl rfl ?_))
      refine ⟨?_, rfl⟩
      have h1 : ((List.range l.length).all (keptB l o)) = true := by
        rw [List.all_eq_true]
        exact fun j hj => hall j (by have := List.mem_range.1 hj; omega)
      unfold ordB
      rw [h1]
      simp [hnd]
end Go.Proofs.YtfelabnohopfdaaGreatDoor
namespace Go.Proofs.YtfelabnohopfdaaGreatDoor
open Go Go.Jog
set_option maxRecDepth 100000

def cI (c : List Int) (k : Nat) : Int := c.getD k 0
theorem cI_at {c : List Int} {k : Nat} (h : k < c.length) : c[k]? = some (cI c k) := by
  unfold cI; rw [List.getD_eq_getElem?_getD, List.getElem?_eq_getElem h]; rfl
end Go.Proofs.YtfelabnohopfdaaGreatDoor
namespace Go.Proofs.YtfelabnohopfdaaGreatDoor
open Go Go.Jog
set_option maxRecDepth 100000

def kl : List Rel := [⟨1, [66], [65]⟩, ⟨1, [67], [66]⟩, ⟨1, [67], [65]⟩]
theorem kn1 (C : Mem) : Gives cx.P 6 [strV [51, 47, 54]] C (.bool false) := by
  have h := number_fn C [51, 47, 54] (by decide)
  rw [show (readM [51, 47, 54]).isSome = false by decide +kernel] at h
  exact h
theorem kn2 (C : Mem) : Gives cx.P 6 [strV [45, 51, 47, 50]] C (.bool true) := by
  have h := number_fn C [45, 51, 47, 50] (by decide)
  rw [show (readM [45, 51, 47, 50]).isSome = true by decide +kernel] at h
  exact h
theorem ki1 (C : Mem) (v vb : Value) (hv : Sl C 3 v (kl.map Rel.enc)) (hb : Sl C 1 vb (([0, 1] : List Int).map encI)) : Gives cx.P 14 [v, .int .i64 2, vb] C (.bool true) := by
  have h := implied_fn C v vb kl 2 [0, 1] hv hb
  rw [show impB kl 2 [0, 1] = true by decide +kernel] at h
  exact h
theorem ki2 (C : Mem) (v vb : Value) (hv : Sl C 3 v (kl.map Rel.enc)) (hb : Sl C 1 vb (([1, 0] : List Int).map encI)) : Gives cx.P 14 [v, .int .i64 2, vb] C (.bool false) := by
  have h := implied_fn C v vb kl 2 [1, 0] hv hb
  rw [show impB kl 2 [1, 0] = false by decide +kernel] at h
  exact h
theorem ko1 (C : Mem) (v vo : Value) (hv : Sl C 3 v (kl.map Rel.enc)) (ho : Sl C 1 vo (([[65], [66], [67]] : List Str).map encS)) : Gives cx.P 13 [v, vo] C (.bool true) := by
  have h := corder_fn C v vo kl [[65], [66], [67]] hv ho
  rw [show ordB kl [[65], [66], [67]] = true by decide +kernel] at h
  exact h
theorem ko2 (C : Mem) (v vo : Value) (hv : Sl C 3 v (kl.map Rel.enc)) (ho : Sl C 1 vo (([[66], [65], [67]] : List Str).map encS)) : Gives cx.P 13 [v, vo] C (.bool false) := by
  have h := corder_fn C v vo kl [[66], [65], [67]] hv ho
  rw [show ordB kl [[66], [65], [67]] = false by decide +kernel] at h
  exact h
def kr : List (List Str × Str) := [([[45, 49]], [45, 49]), ([[49]], [51])]
theorem kp1 (C : Mem) (hT : Tabs C) (v vo vp : Value) (A : Option Addr) (n c : Nat) (hv : RowsIn C v kr) (ho : Sl C 1 vo (([[49]] : List Str).map encS)) (hp : Sl C 1 vp (([[49]] : List Str).map encS)) (hd : Sl C 1 (.slice A n c) (([[49], [48]] : List Str).map encS)) : Gives cx.P 16 [v, vo, vp, .agg ⟨[.slice A n c]⟩] C (.bool true) := by
  have h := optimal_fn C hT v vo vp A n c kr [[49]] [[49]] [[49], [48]] hv ho hp hd (by decide) (by decide) (by decide) (by decide) (by decide) (by decide) (by decide) (by decide)
  rw [show optM kr [[49]] [[49]] [[49], [48]] = true by decide +kernel] at h
  exact h
theorem kp2 (C : Mem) (hT : Tabs C) (v vo vp : Value) (A : Option Addr) (n c : Nat) (hv : RowsIn C v kr) (ho : Sl C 1 vo (([[49]] : List Str).map encS)) (hp : Sl C 1 vp (([[50]] : List Str).map encS)) (hd : Sl C 1 (.slice A n c) (([[49], [48]] : List Str).map encS)) : Gives cx.P 16 [v, vo, vp, .agg ⟨[.slice A n c]⟩] C (.bool false) := by
  have h := optimal_fn C hT v vo vp A n c kr [[49]] [[50]] [[49], [48]] hv ho hp hd (by decide) (by decide) (by decide) (by decide) (by decide) (by decide) (by decide) (by decide)
  rw [show optM kr [[49]] [[50]] [[49], [48]] = false by decide +kernel] at h
  exact h
set_option maxHeartbeats 2000000 in
theorem known_fn (C : Mem) (hT : Tabs C) : Gives cx.P 5 [] C (.bool true) := by
  refine Fn.intro (by kernel_rfl) Tryz.func5 rfl 63 rfl rfl (fun w0 => ?_)
  refine G.region rfl (fun R hR => ?_)
  refine D.pure rfl rfl rfl rfl rfl rfl ?_
  refine D.done [] trivial (hR _ _ _ rfl ?_); clear hR R
  refine G.region rfl (fun R hR => ?_)
  refine D.build (Rel.mk 1 [66] [65]).enc rfl rfl rfl rfl rfl rfl rfl rfl ?_
  refine D.build (Rel.mk 1 [67] [66]).enc rfl rfl rfl rfl rfl rfl rfl rfl ?_
  refine D.build (Rel.mk 1 [67] [65]).enc rfl rfl rfl rfl rfl rfl rfl rfl ?_
  refine D.buildSlice (kl.map Rel.enc) rfl rfl rfl rfl rfl rfl rfl rfl rfl rfl rfl rfl (fun _ => rfl) (fun p8 C8 hle8 hs8 => ?_)
  refine D.pure rfl rfl rfl rfl rfl rfl ?_
  refine D.done [(1, [], _)] ⟨rfl, trivial⟩ (hR _ _ _ rfl ?_); clear hR R
  refine G.region rfl (fun R hR => ?_)
  refine D.buildSliceV [[strV [45, 49]]] rfl rfl rfl rfl rfl rfl rfl rfl rfl rfl rfl rfl (fun _ => rfl) (fun b9 C9 hle9 hs9 => ?_)
  refine D.build (RV.mk (some ⟨b9, 0, none⟩) 1 1 [45, 49]).enc rfl rfl rfl rfl rfl rfl rfl rfl ?_
  refine D.buildSliceV [[strV [49]]] rfl rfl rfl rfl rfl rfl rfl rfl rfl rfl rfl rfl (fun _ => rfl) (fun b11 C11 hle11 hs11 => ?_)
  refine D.build (RV.mk (some ⟨b11, 0, none⟩) 1 1 [51]).enc rfl rfl rfl rfl rfl rfl rfl rfl ?_
  refine D.buildSlice [(RV.mk (some ⟨b9, 0, none⟩) 1 1 [45, 49]).enc, (RV.mk (some ⟨b11, 0, none⟩) 1 1 [51]).enc] rfl rfl rfl rfl rfl rfl rfl rfl rfl rfl rfl rfl (fun _ => rfl) (fun p13 C13 hle13 hs13 => ?_)
  refine D.pure rfl rfl rfl rfl rfl rfl ?_
  refine D.done [(1, [], _), (2, [], _)] ⟨rfl, rfl, trivial⟩ (hR _ _ _ rfl ?_); clear hR R
  have hri : RowsIn C13 p13 kr := by
    refine ⟨[⟨some ⟨b9, 0, none⟩, 1, 1, [45, 49]⟩, ⟨some ⟨b11, 0, none⟩, 1, 1, [51]⟩], hs13, rfl, ?_⟩
    intro i r row hr hw
    match i with
    | 0 => cases hr; cases hw; exact ⟨hs9.mono (by (repeat (first | exact Mem.le.refl _ | assumption | (apply Mem.le.trans; rotate_left; assumption)))), rfl⟩
    | 1 => cases hr; cases hw; exact ⟨hs11.mono (by (repeat (first | exact Mem.le.refl _ | assumption | (apply Mem.le.trans; rotate_left; assumption)))), rfl⟩
    | i + 2 => simp at hr
  refine G.region rfl (fun R hR => ?_)
  refine D.buildSlice [[strV [49]]] rfl rfl rfl rfl rfl rfl rfl rfl rfl rfl rfl rfl (fun _ => rfl) (fun p14 C14 hle14 hs14 => ?_)
  refine D.pure rfl rfl rfl rfl rfl rfl ?_
  refine D.done [(1, [], _), (2, [], _), (3, [], _)] ⟨rfl, rfl, rfl, trivial⟩ (hR _ _ _ rfl ?_); clear hR R
  refine G.region rfl (fun R hR => ?_)
  refine D.buildSliceV [[strV [49]], [strV [48]]] rfl rfl rfl rfl rfl rfl rfl rfl rfl rfl rfl rfl (fun _ => rfl) (fun b15 C15 hle15 hs15 => ?_)
  refine D.build [.slice (some ⟨b15, 0, none⟩) 2 2] rfl rfl rfl rfl rfl rfl rfl rfl ?_
  refine D.alloc rfl rfl rfl rfl rfl (fun _ => rfl) (fun b4 => ?_)
  refine D.store (j := 0) rfl rfl rfl rfl rfl rfl rfl rfl rfl rfl rfl rfl ?_
  refine D.done [(1, [], _), (2, [], _), (3, [], _), (4, [], _)] ⟨rfl, rfl, rfl, rfl, trivial⟩ (hR _ _ _ rfl ?_); clear hR R
  refine G.region rfl (fun R hR => ?_)
  refine D.gives2 (kn1 _) rfl rfl rfl rfl rfl rfl rfl (fun _ => rfl) ?_
  iterate 2 refine D.pure rfl rfl rfl rfl rfl rfl ?_
  refine D.gives (fun _ => (kn2 _)) rfl rfl rfl rfl rfl rfl rfl rfl rfl ?_
  refine D.pickAnd rfl rfl rfl rfl rfl rfl rfl rfl ?_
  iterate 2 refine D.pure rfl rfl rfl rfl rfl rfl ?_
  refine D.buildSliceG [[.int .i64 0], [.int .i64 1]] rfl rfl rfl rfl rfl rfl rfl rfl rfl rfl rfl rfl (fun _ => rfl) rfl rfl (fun b24 C24 hle24 hs24 => ?_)
  refine D.gives (fun _ => (ki1 _ _ _ (hs8.mono (by (repeat (first | exact Mem.le.refl _ | assumption | (apply Mem.le.trans; rotate_left; assumption))))) ((hs24 ⟨rfl, trivial⟩).mono (by (repeat (first | exact Mem.le.refl _ | assumption | (apply Mem.le.trans; rotate_left; assumption))))))) rfl rfl rfl rfl rfl rfl rfl rfl rfl ?_
  refine D.pickAnd rfl rfl rfl rfl rfl rfl rfl rfl ?_
  iterate 2 refine D.pure rfl rfl rfl rfl rfl rfl ?_
  refine D.buildSliceG [[.int .i64 1], [.int .i64 0]] rfl rfl rfl rfl rfl rfl rfl rfl rfl rfl rfl rfl (fun _ => rfl) rfl rfl (fun b29 C29 hle29 hs29 => ?_)
  refine D.gives (fun _ => (ki2 _ _ _ (hs8.mono (by (repeat (first | exact Mem.le.refl _ | assumption | (apply Mem.le.trans; rotate_left; assumption))))) ((hs29 ⟨rfl, trivial⟩).mono (by (repeat (first | exact Mem.le.refl _ | assumption | (apply Mem.le.trans; rotate_left; assumption))))))) rfl rfl rfl rfl rfl rfl rfl rfl rfl ?_
  refine D.pure rfl rfl rfl rfl rfl rfl ?_
  refine D.pickAnd rfl rfl rfl rfl rfl rfl rfl rfl ?_
  iterate 2 refine D.pure rfl rfl rfl rfl rfl rfl ?_
  refine D.buildSliceG [[strV [65]], [strV [66]], [strV [67]]] rfl rfl rfl rfl rfl rfl rfl rfl rfl rfl rfl rfl (fun _ => rfl) rfl rfl (fun b35 C35 hle35 hs35 => ?_)
  refine D.gives (fun _ => (ko1 _ _ _ (hs8.mono (by (repeat (first | exact Mem.le.refl _ | assumption | (apply Mem.le.trans; rotate_left; assumption))))) ((hs35 ⟨rfl, trivial⟩).mono (by (repeat (first | exact Mem.le.refl _ | assumption | (apply Mem.le.trans; rotate_left; assumption))))))) rfl rfl rfl rfl rfl rfl rfl rfl rfl ?_
  refine D.pickAnd rfl rfl rfl rfl rfl rfl rfl rfl ?_
  iterate 2 refine D.pure rfl rfl rfl rfl rfl rfl ?_
  refine D.buildSliceG [[strV [66]], [strV [65]], [strV [67]]] rfl rfl rfl rfl rfl rfl rfl rfl rfl rfl rfl rfl (fun _ => rfl) rfl rfl (fun b40 C40 hle40 hs40 => ?_)
  refine D.gives (fun _ => (ko2 _ _ _ (hs8.mono (by (repeat (first | exact Mem.le.refl _ | assumption | (apply Mem.le.trans; rotate_left; assumption))))) ((hs40 ⟨rfl, trivial⟩).mono (by (repeat (first | exact Mem.le.refl _ | assumption | (apply Mem.le.trans; rotate_left; assumption))))))) rfl rfl rfl rfl rfl rfl rfl rfl rfl ?_
  refine D.pure rfl rfl rfl rfl rfl rfl ?_
  refine D.pickAnd rfl rfl rfl rfl rfl rfl rfl rfl ?_
  iterate 4 refine D.pure rfl rfl rfl rfl rfl rfl ?_
  refine D.loadL (.head _) rfl rfl rfl rfl rfl rfl rfl rfl rfl ?_
  refine D.gives (fun _ => (kp1 _ (hT.mono (by (repeat (first | exact Mem.le.refl _ | assumption | (apply Mem.le.trans; rotate_left; assumption))))) _ _ _ _ _ _ (hri.mono (by (repeat (first | exact Mem.le.refl _ | assumption | (apply Mem.le.trans; rotate_left; assumption))))) (hs14.mono (by (repeat (first | exact Mem.le.refl _ | assumption | (apply Mem.le.trans; rotate_left; assumption))))) (hs14.mono (by (repeat (first | exact Mem.le.refl _ | assumption | (apply Mem.le.trans; rotate_left; assumption))))) (hs15.mono (by (repeat (first | exact Mem.le.refl _ | assumption | (apply Mem.le.trans; rotate_left; assumption))))))) rfl rfl rfl rfl rfl rfl rfl rfl rfl ?_
  refine D.pickAnd rfl rfl rfl rfl rfl rfl rfl rfl ?_
  iterate 3 refine D.pure rfl rfl rfl rfl rfl rfl ?_
  refine D.buildSliceG [[strV [50]]] rfl rfl rfl rfl rfl rfl rfl rfl rfl rfl rfl rfl (fun _ => rfl) rfl rfl (fun b54 C54 hle54 hs54 => ?_)
  refine D.loadL (.head _) rfl rfl rfl rfl rfl rfl rfl rfl rfl ?_
  refine D.gives (fun _ => (kp2 _ (hT.mono (by (repeat (first | exact Mem.le.refl _ | assumption | (apply Mem.le.trans; rotate_left; assumption))))) _ _ _ _ _ _ (hri.mono (by (repeat (first | exact Mem.le.refl _ | assumption | (apply Mem.le.trans; rotate_left; assumption))))) (hs14.mono (by (repeat (first | exact Mem.le.refl _ | assumption | (apply Mem.le.trans; rotate_left; assumption))))) ((hs54 ⟨rfl, trivial⟩).mono (by (repeat (first | exact Mem.le.refl _ | assumption | (apply Mem.le.trans; rotate_left; assumption))))) (hs15.mono (by (repeat (first | exact Mem.le.refl _ | assumption | (apply Mem.le.trans; rotate_left; assumption))))))) rfl rfl rfl rfl rfl rfl rfl rfl rfl ?_
  refine D.pure rfl rfl rfl rfl rfl rfl ?_
  refine D.pickAnd rfl rfl rfl rfl rfl rfl rfl rfl ?_
  refine D.pure rfl rfl rfl rfl rfl rfl ?_
  refine D.build nil3 rfl rfl rfl rfl rfl rfl rfl rfl ?_
  refine D.gives (fun _ => (map0_fn _)) rfl rfl rfl rfl rfl rfl rfl rfl rfl ?_
  refine D.pickAnd rfl rfl rfl rfl rfl rfl rfl rfl ?_
  refine D.pure rfl rfl rfl rfl rfl rfl ?_
  refine D.done [(0, [], _)] ⟨rfl, trivial⟩ (hR _ _ _ rfl ?_); clear hR R
  refine G.retN (G.dropAll (G.fin1 rfl rfl ?_))
  exact ⟨rfl, rfl⟩
end Go.Proofs.YtfelabnohopfdaaGreatDoor
namespace Go.Proofs.YtfelabnohopfdaaGreatDoor
open Go Go.Jog Go.ChangeShapes Go.WideShapes Go.ChangeAt Go.RowKit
set_option maxRecDepth 100000

theorem own : ownKnob Tryz.prog.godebug = none := by kernel_rfl
section
variable {H : Type} {enc : TypeId × Value → H} {W : World} {spare : Nat → Bool} {held : Bool}
theorem u8_of {n : Nat} {c : Value} {y : DataW H × List MemPlace} (h : DataW.trod enc Tryz.prog W 0 spare held n 5 [c] = some y) : ∃ b : UInt8, c = .int .u8 b.toNat := by
  obtain ⟨m, h1, _, h3⟩ := DataW.trod_int Tryz.underlying5 h
  simp only [List.cons.injEq, and_true] at h1
  subst h1
  have hb : 0 ≤ m ∧ m < 256 := by
    simp [Lit.wf, IntKind.min, IntKind.max, IntKind.signed, IntKind.bits] at h3
    omega
  refine ⟨UInt8.ofNat m.toNat, ?_⟩
  congr 1
  simp only [UInt8.toNat_ofNat']
  omega
theorem seen_of {n : Nat} {cs : List Value} {y : DataW H × List MemPlace} (h : DataW.trod enc Tryz.prog W 0 spare held n 61 cs = some y) : ∃ z : Seen, cs = z.enc := by
  obtain ⟨y0, y1, y2, n', _, hl, h0, h1, h2⟩ := Go.Deep.trod_struct3 Tryz.underlying61 h
  have hc : Tryz.prog.cellsOf 61 = 3 := by kernel_rfl
  have hi : Tryz.prog.cellsOf 5 = 1 := by kernel_rfl
  rw [hc] at hl
  match cs, hl with
  | [c0, c1, c2], _ =>
    simp only [hi] at h0 h1 h2
    obtain ⟨b0, rfl⟩ := u8_of h0
    obtain ⟨b1, rfl⟩ := u8_of h1
    obtain ⟨b2, rfl⟩ := u8_of h2
    exact ⟨⟨b0, b1, b2⟩, rfl⟩
theorem seens_of {fuel : Nat} {v : Value} {x : DataW H × List MemPlace} (h : DataW.trod enc Tryz.prog W 0 spare held fuel 25 [v] = some x) : ∃ l : List Seen, Sl (memOf W) 3 v (l.map Seen.enc) :=
  sl_of_arg Seen.enc Tryz.underlying25 (by kernel_rfl) (by decide) (fun n cs y hl hy => seen_of hy) h
end

def layCells (cs : Array Value) : Obj → Obj
  | .cells _ t frozen => .cells cs t frozen
  | o => o
def db32Cells : Array Value := (Lib.deBruijn32tab.map fun z : Nat => Value.int .u8 (z : Int)).toArray
def db64Cells : Array Value := (Lib.deBruijn64tab.map fun z : Nat => Value.int .u8 (z : Int)).toArray
def pow10Cells : Array Value := (Lib.pow10Tab.map fun z => Value.int .u64 z).toArray
/-- A world for the witness: the library's tables as the text lays them. -/
noncomputable def laidWorld (os : Os) : World :=
  { World.holding Tryz.prog os ⟨#[], #[], []⟩ with heap := (((World.holding Tryz.prog os ⟨#[], #[], []⟩).heap.modify 2 (layCells db32Cells)).modify 3 (layCells db64Cells)).modify 1 (layCells pow10Cells) }
theorem tabs_of {W : World} (h : laidMet Tryz.prog [("math/bits.deBruijn32tab", Rows.laid_math_bits_deBruijn32tab), ("math/bits.deBruijn64tab", Rows.laid_math_bits_deBruijn64tab), ("internal/strconv.uint64pow10", Rows.laid_internal_strconv_uint64pow10)] W) : Tabs (memOf W) := by
  have h2 := h.tail.tail
  have e2 : (Rows.laid_internal_strconv_uint64pow10 : DataW Unit) = Lib.tabData .u64 Lib.pow10Tab := by rfl
  rw [e2] at h2
  have t2 := Lib.tabIs_of_head (g := 1) (t := 239) (e := 178) (n := 20) (by kernel_rfl) (by kernel_rfl) Tryz.underlying239 Tryz.underlying178 (by kernel_rfl) (by kernel_rfl) h2
  exact ⟨VarC.ofWorld t2⟩
theorem laidOut' : laidOutB Tryz.prog = true := by kernel_rfl
section
variable {H : Type} {enc : TypeId × Value → H} {W : World} {spare : Nat → Bool} {held : Bool}
theorem str_of {n : Nat} {c : Value} {y : DataW H × List MemPlace} (h : DataW.trod enc Tryz.prog W 0 spare held n 9 [c] = some y) : ∃ s : Str, c = strV s := by
  obtain ⟨⟨⟨l⟩⟩, h1, _⟩ := DataW.trod_string Tryz.underlying9 h
  simp only [List.cons.injEq, and_true] at h1
  exact ⟨l, h1⟩
theorem strs_of {fuel : Nat} {v : Value} {x : DataW H × List MemPlace} (h : DataW.trod enc Tryz.prog W 0 spare held fuel 26 [v] = some x) : ∃ l : List Str, Sl (memOf W) 1 v (l.map encS) :=
  sl_of_arg encS Tryz.underlying26 (by kernel_rfl) (by decide) (fun n cs y hl hy => by
    match cs, hl with
    | [c], _ =>
      obtain ⟨s, rfl⟩ := str_of hy
      exact ⟨s, rfl⟩) h
end
section
variable {H : Type} {enc : TypeId × Value → H} {W : World} {spare : Nat → Bool} {held : Bool}
theorem int_of {n : Nat} {c : Value} {y : DataW H × List MemPlace} (h : DataW.trod enc Tryz.prog W 0 spare held n 3 [c] = some y) : ∃ m : Int, c = .int .i64 m := by
  obtain ⟨m, h1, _⟩ := DataW.trod_int Tryz.underlying3 h
  simp only [List.cons.injEq, and_true] at h1
  exact ⟨m, h1⟩
theorem ints_of {fuel : Nat} {v : Value} {x : DataW H × List MemPlace} (h : DataW.trod enc Tryz.prog W 0 spare held fuel 27 [v] = some x) : ∃ l : List Int, Sl (memOf W) 1 v (l.map encI) :=
  sl_of_arg encI Tryz.underlying27 (by kernel_rfl) (by decide) (fun n cs y hl hy => by
    match cs, hl with
    | [c], _ =>
      obtain ⟨s, rfl⟩ := int_of hy
      exact ⟨s, rfl⟩) h
end
end Go.Proofs.YtfelabnohopfdaaGreatDoor
