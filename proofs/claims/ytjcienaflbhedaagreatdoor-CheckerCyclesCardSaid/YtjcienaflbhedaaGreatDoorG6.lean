/- Laws that the proofs of this seat share, part 6. -/
import Derived.Test.YtjcienaflbhedaaGreatDoorG5
import Derived.Test.YtjcienaflbhedaaGreatDoorShelf
import Derived.Test.YtjcienaflbhedaaGreatDoorCards
import Derived.Test.YtjcienaflbhedaaGreatDoorTie
import Derived.Stop.LaidErr
import Derived.Lib.LaidTab
import Derived.Carry
import Derived.Deep.Strs
namespace Go.Proofs.YtjcienaflbhedaaGreatDoor
open Go Go.Jog
set_option maxRecDepth 100000

def errU (l : List Rel) : Int := if 200 < l.length then 4 else if errs l ≠ 0 then errs l else if 60 < (unitsL l).length then 4 else 0

theorem check_fn (C : Mem) (v : Value) (l : List Rel) (hv : Sl C 3 v (l.map Rel.enc)) (hl : l.length ≤ 100000) (hsh : ∀ x ∈ l, x.short) : Gives cx.P 25 [v] C (.int .i64 (errU l)) := by
  have hv0 := hv
  obtain ⟨A, c, rfl, _⟩ := hv0
  refine Fn.intro (by kernel_rfl) Tryz.func25 rfl 25 rfl rfl (fun w0 => ?_)
  refine G.region rfl (fun R hR => ?_)
  refine D.pure rfl rfl rfl rfl rfl rfl ?_
  refine D.done [(0, [], _)] ⟨rfl, trivial⟩ (hR _ _ _ rfl ?_); clear hR R
  refine G.region rfl (fun R hR => ?_)
  iterate 3 refine D.pure rfl rfl rfl rfl rfl rfl ?_
  refine D.done [(0, [], _), (8, [], _)] ⟨rfl, rfl, trivial⟩ (hR _ _ _ rfl ?_); clear hR R
  refine G.cond rfl (fun h8 => ?_) (fun h8 => ?_)
  · skip
    simp at h8
    refine G.region rfl (fun R hR => ?_)
    refine D.pure rfl rfl rfl rfl rfl rfl ?_
    refine D.done [(2, [], _)] ⟨rfl, trivial⟩ (hR _ _ _ rfl ?_); clear hR R
    refine G.retN (G.dropAll (G.fin1 rfl rfl ?_))
    refine ⟨?_, rfl⟩
    rw [errU, if_pos (by omega)]
  · skip
    simp at h8
    refine G.region rfl (fun R hR => ?_)
    iterate 3 refine D.pure rfl rfl rfl rfl rfl rfl ?_
    refine D.done [(0, [], _), (9, [], _), (10, [], _), (11, [], _)] ⟨rfl, rfl, rfl, rfl, trivial⟩ (hR _ _ _ rfl ?_); clear hR R
    refine G.loop (fun fr C' L' μ => ∃ (k : Nat), (k ≤ l.length ∧ ∀ y ∈ l.take k, errOf y = 0) ∧ fr = [(0, [], .slice A (l.map Rel.enc).length c), (9, [], .slice A (l.map Rel.enc).length c), (10, [], .int .i64 (l.map Rel.enc).length), (11, [], .int .i64 k)] ∧ L' = [] ∧ μ = l.length - k) (fr' := [(0, [], _), (9, [], _), (10, [], _), (11, [], _)]) ⟨rfl, rfl, rfl, rfl, trivial⟩ ⟨0, ⟨Nat.zero_le _, fun y hy => by simp at hy⟩, rfl, rfl, rfl⟩ (fun fr C0' L0' m hle0 hI => ?_)
    obtain ⟨k, ⟨hk, hz⟩, rfl, rfl, rfl⟩ := hI
    refine G.region rfl (fun R hR => ?_)
    refine D.pure rfl rfl rfl rfl rfl rfl ?_
    refine D.done [(0, [], _), (9, [], _), (10, [], _), (11, [], _), (12, [], _)] ⟨rfl, rfl, rfl, rfl, rfl, trivial⟩ (hR _ _ _ rfl ?_); clear hR R
    refine G.cond rfl (fun h12 => ?_) (fun h12 => ?_)
    · skip
      simp only [List.length_map, decide_eq_true_eq] at h12
      have hkl : k < l.length := by omega
      obtain ⟨x, hx⟩ : ∃ x, l[k]? = some x := ⟨l[k], List.getElem?_eq_getElem hkl⟩
      have hxs := hsh x (List.mem_of_getElem? hx)
      have hv1 := hv.mono hle0
      have htk : l.take (k + 1) = l.take k ++ [x] := by rw [List.take_add_one, hx]; rfl
      refine G.region rfl (fun R hR => ?_)
      refine D.index0 (hv.mono hle0) rfl rfl rfl rfl rfl rfl rfl rfl rfl rfl (by omega) (row := x.enc) (by simp [hx]) (fun _ => rfl) (fun p13 hp13 => ?_)
      refine D.loadP0 hp13 rfl rfl rfl rfl rfl rfl rfl rfl ?_
      refine D.alloc rfl rfl rfl rfl rfl (fun _ => rfl) (fun b4 => ?_)
      refine D.store (j := 0) rfl rfl rfl rfl rfl rfl rfl rfl rfl rfl rfl rfl ?_
      refine D.done [(0, [], _), (4, [], _), (9, [], _), (10, [], _), (11, [], _)] ⟨rfl, rfl, rfl, rfl, rfl, trivial⟩ (hR _ _ _ rfl ?_); clear hR R
      refine G.region rfl (fun R hR => ?_)
      refine D.loadL (.head _) rfl rfl rfl rfl rfl rfl rfl rfl rfl ?_
      refine D.gives2 (check_spec _ x hxs.1 hxs.2) rfl rfl rfl rfl rfl rfl rfl (fun _ => rfl) ?_
      refine D.pure rfl rfl rfl rfl rfl rfl ?_
      refine D.done [(0, [], _), (5, [], _), (9, [], _), (10, [], _), (11, [], _)] ⟨rfl, rfl, rfl, rfl, rfl, trivial⟩ (hR _ _ _ rfl ?_); clear hR R
      refine G.region rfl (fun R hR => ?_)
      iterate 2 refine D.pure rfl rfl rfl rfl rfl rfl ?_
      refine D.done [(0, [], _), (5, [], _), (9, [], _), (10, [], _), (11, [], _), (18, [], _)] ⟨rfl, rfl, rfl, rfl, rfl, rfl, trivial⟩ (hR _ _ _ rfl ?_); clear hR R
      refine G.cond rfl (fun h18 => ?_) (fun h18 => ?_)
      · skip
        have h18' : errOf x ≠ 0 := by simpa using h18
        have he := errs_at hx hz h18'
        refine G.region rfl (fun R hR => ?_)
        iterate 2 refine D.pure rfl rfl rfl rfl rfl rfl ?_
        refine D.done [(2, [], _)] ⟨rfl, trivial⟩ (hR _ _ _ rfl ?_); clear hR R
        refine G.retN (G.dropAll (G.fin1 rfl rfl ?_))
        refine ⟨?_, rfl⟩
        rw [errU, if_neg (by omega), he, if_pos h18']
      · skip
        have h18' : errOf x = 0 := by simpa using h18
        refine G.region rfl (fun R hR => ?_)
        refine D.i64 _ rfl rfl rfl rfl rfl (by omega) (by omega) rfl rfl ?_
        refine D.pure rfl rfl rfl rfl rfl rfl ?_
        refine D.done [(0, [], _), (9, [], _), (10, [], _), (11, [], _)] ⟨rfl, rfl, rfl, rfl, trivial⟩ (hR _ _ _ rfl ?_); clear hR R
        refine G.dropE 0 rfl ?_
        refine G.again (m' := l.length - (k + 1)) (by omega) hle0 (fr' := [(0, [], _), (9, [], _), (10, [], _), (11, [], _)]) ⟨rfl, rfl, rfl, rfl, trivial⟩ ⟨k + 1, ⟨by omega, fun y hy => by
          rw [htk] at hy
          rcases List.mem_append.1 hy with h | h
          · exact hz y h
          · rw [List.mem_singleton.1 h]; exact h18'⟩, rfl, rfl, rfl⟩
    · skip
      simp only [List.length_map, decide_eq_false_iff_not] at h12
      have hkl : k = l.length := by omega
      subst hkl
      rw [List.take_length] at hz
      have he := errs_zero hz
      have hul := unitsL_len l
      refine G.region rfl (fun R hR => ?_)
      refine D.pure rfl rfl rfl rfl rfl rfl ?_
      refine D.callP (units_fn _ _ l (hv.mono hle0) hl) rfl rfl rfl rfl rfl rfl rfl (fun _ => rfl) (fun v22 C22 hle22 hq22 => ?_)
      obtain ⟨Au, cu, hvu, _⟩ := id hq22
      subst hvu
      iterate 2 refine D.pure rfl rfl rfl rfl rfl rfl ?_
      refine D.done [(24, [], _)] ⟨rfl, trivial⟩ (hR _ _ _ rfl ?_); clear hR R
      refine G.cond rfl (fun h24 => ?_) (fun h24 => ?_)
      · skip
        simp at h24
        refine G.region rfl (fun R hR => ?_)
        refine D.pure rfl rfl rfl rfl rfl rfl ?_
        refine D.done [(2, [], _)] ⟨rfl, trivial⟩ (hR _ _ _ rfl ?_); clear hR R
        refine G.retN (G.dropAll (G.fin1 rfl rfl ?_))
        refine ⟨?_, rfl⟩
        rw [errU, if_neg (by omega), he, if_neg (by simp), if_pos (by omega)]
      · skip
        simp at h24
        refine G.region rfl (fun R hR => ?_)
        refine D.pure rfl rfl rfl rfl rfl rfl ?_
        refine D.done [(2, [], _)] ⟨rfl, trivial⟩ (hR _ _ _ rfl ?_); clear hR R
        refine G.retN (G.dropAll (G.fin1 rfl rfl ?_))
        refine ⟨?_, rfl⟩
        rw [errU, if_neg (by omega), he, if_neg (by simp), if_neg (by omega)]
end Go.Proofs.YtjcienaflbhedaaGreatDoor
namespace Go.Proofs.YtjcienaflbhedaaGreatDoor
open Go Go.Jog
set_option maxRecDepth 100000

def encI (x : Int) : List Value := [.int .i64 x]
abbrev intV (x : Int) : Value := .int .i64 x
def aboveI (A : List Arc3) (ab : Int) : List Arc3 := A.filter fun a => decide (ab < (a.i : Int))
theorem mem_aboveI {A : List Arc3} {ab : Int} {a : Arc3} : a ∈ aboveI A ab ↔ a ∈ A ∧ ab < (a.i : Int) := by simp [aboveI]
theorem aboveI_neg {A : List Arc3} : aboveI A (-1) = A := by
  unfold aboveI
  rw [List.filter_eq_self]
  intro a _
  simp; omega
theorem aboveI_nat {A : List Arc3} {i : Nat} : aboveI A (i : Int) = above A i := by
  unfold aboveI above
  congr 1
  funext a
  simp
theorem ints_at {d : List Int} {u : Nat} (h : u < d.length) : ((d.map intV).drop u).take 1 = [intV (dAt d u)] := by
  have h1 : (d.map intV)[u]? = some (intV (dAt d u)) := by
    rw [List.getElem?_map, List.getElem?_eq_getElem h, Option.map_some, dAt_get (List.getElem?_eq_getElem h)]
  obtain ⟨h2, h3⟩ := List.getElem?_eq_some_iff.1 h1
  rw [List.drop_eq_getElem_cons h2, h3]; rfl
theorem ints_set {d : List Int} {u : Nat} {x : Int} (h : u < d.length) : storeInto (d.map intV) [intV x] u = (d.set u x).map intV := by
  have := row_write (enc := fun v : Int => [intV v]) (s := 1) (fun _ => rfl) (l := d) (i := u) x h
  rw [flatten_map1 intV, flatten_map1 intV, Nat.mul_one] at this
  exact this
theorem ints_flat (d : List Int) : d.map intV = (d.map encI).flatten := (flatten_map1 intV d).symm
theorem fin_le {d : List Int} : fin d ≤ d.length := List.countP_le_length

set_option maxHeartbeats 2000000 in
theorem distances_fn (C : Mem) (p : Value) (N : List Str) (A : List Arc3) (to : Nat) (ab : Int) (hg : Graph C p N A) (hto : to < N.length) (hb : Below N.length A) (hA : A.length ≤ 100000) (hN : N.length ≤ 200000) :
    Pur cx.P 55 [p, .int .i64 to, .int .i64 ab] C fun u C' => ∃ d, IsDist (aboveI A ab) to N.length d ∧ (∀ u, u < d.length → -1 ≤ dAt d u ∧ dAt d u ≤ 1000000) ∧ Sl C' 1 u (d.map encI) := by
  obtain ⟨b, bm, vn, va, vx, vs, hgp, hobj, hnames, hat, harcs, hnx, hlen, hrows⟩ := hg
  subst hgp
  obtain ⟨An, cn, rfl, _⟩ := id hnames
  obtain ⟨Aa, ca, rfl, _⟩ := id harcs
  simp only [List.length_map] at hobj hnames harcs
  have hbI : Below N.length (aboveI A ab) := fun a ha => hb a (mem_aboveI.1 ha).1
  refine Fn.intro (by kernel_rfl) Tryz.func55 rfl 77 rfl rfl (fun w0 => ?_)
  refine G.region rfl (fun R hR => ?_)
  refine D.pure rfl rfl rfl rfl rfl rfl ?_
  refine D.done [(0, [], _), (1, [], _), (2, [], _)] ⟨rfl, rfl, rfl, trivial⟩ (hR _ _ _ rfl ?_); clear hR R
  refine G.regionO [(6, 3)] rfl (fun R hR => ?_)
  refine D.buildSlice [[.int .i64 (-1)]] rfl rfl rfl rfl rfl rfl rfl rfl rfl rfl rfl rfl (fun _ => rfl) (fun p11 C11 hle11 hs11 => ?_)
  iterate 3 refine D.pure rfl rfl rfl rfl rfl rfl ?_
  refine D.loadP0 (PtrTo.block (Mem.get hobj (by (repeat (first | exact Mem.le.refl _ | assumption | (apply Mem.le.trans; rotate_left; assumption))))) _) rfl rfl rfl rfl rfl rfl rfl rfl ?_
  refine D.pure rfl rfl rfl rfl rfl rfl ?_
  refine D.call (repeat_fn _ _ N.length (-1) hs11 (by omega)) rfl (.inr (by decide)) rfl rfl rfl rfl rfl rfl (List.Perm.refl _) (fun _ => rfl) (fun v17 C17 L17 hle17 hq17 => ?_)
  refine D.pure rfl rfl rfl rfl rfl rfl ?_
  refine D.done [(0, [], _), (1, [], _), (2, [], _), (7, [], _)] ⟨rfl, rfl, rfl, rfl, trivial⟩ (hR _ _ _ rfl ?_); clear hR R
  obtain ⟨b17, rfl, rfl⟩ := hq17
  refine G.region rfl (fun R hR => ?_)
  iterate 2 refine D.pure rfl rfl rfl rfl rfl rfl ?_
  refine D.indexS (to) rfl rfl rfl rfl rfl rfl rfl rfl rfl rfl (fun _ => ⟨by omega, by omega, (by simp)⟩) rfl rfl ?_
  refine D.storeArr (j := 0) rfl rfl rfl rfl rfl rfl rfl rfl rfl rfl rfl (by rw [List.length_replicate]; show to + 1 ≤ _; omega) ?_
  refine D.done [(0, [], _), (2, [], _), (7, [], _)] ⟨rfl, rfl, rfl, trivial⟩ (hR _ _ _ rfl ?_); clear hR R
  refine G.region rfl (fun R hR => ?_)
  refine D.pure rfl rfl rfl rfl rfl rfl ?_
  refine D.done [(0, [], _), (2, [], _), (7, [], _), (8, [], _)] ⟨rfl, rfl, rfl, rfl, trivial⟩ (hR _ _ _ rfl ?_); clear hR R
  refine G.eqL (L' := [.arr (.slice (some ⟨b17, 0, none⟩) N.length N.length) 3 1 N.length (((List.replicate N.length (-1)).set to 0).map intV)]) (by rw [← ints_set (by simpa using hto), List.map_replicate]; rfl) ?_
  refine G.loop (fun fr C' L' μ => ∃ (d : List Int) (ch : Bool), (Rel0 (aboveI A ab) to N.length d ∧ (ch = false → ∀ a ∈ aboveI A ab, Tight d a)) ∧ fr = [(0, [], .pointer (some ⟨b, 0, none⟩)), (2, [], .int .i64 ab), (7, [], .slice (some ⟨b17, 0, none⟩) N.length N.length), (8, [], .bool ch)] ∧ L' = [.arr (.slice (some ⟨b17, 0, none⟩) N.length N.length) 3 1 N.length (d.map intV)] ∧ μ = 2 * wt N.length d + (if ch then 1 else 0)) (fr' := [(0, [], _), (2, [], _), (7, [], _), (8, [], _)]) ⟨rfl, rfl, rfl, rfl, trivial⟩ ⟨_, true, ⟨rel0_start hto, (fun h => (by cases h))⟩, rfl, rfl, rfl⟩ (fun fr C0' L0' m hle0 hI => ?_)
  obtain ⟨d, ch, ⟨hrel, hti⟩, rfl, rfl, rfl⟩ := hI
  refine G.region rfl (fun R hR => ?_)
  refine D.pure rfl rfl rfl rfl rfl rfl ?_
  refine D.done [(0, [], _), (2, [], _), (7, [], _), (21, [], _)] ⟨rfl, rfl, rfl, rfl, trivial⟩ (hR _ _ _ rfl ?_); clear hR R
  refine G.cond rfl (fun h21 => ?_) (fun h21 => ?_)
  · skip
    have h21' : ch = true := h21
    subst h21'
    refine G.region rfl (fun R hR => ?_)
    refine D.pure rfl rfl rfl rfl rfl rfl ?_
    refine D.done [(0, [], _), (2, [], _), (7, [], _), (8, [], _)] ⟨rfl, rfl, rfl, rfl, trivial⟩ (hR _ _ _ rfl ?_); clear hR R
    refine G.region rfl (fun R hR => ?_)
    iterate 3 refine D.pure rfl rfl rfl rfl rfl rfl ?_
    refine D.loadP0 (PtrTo.block (Mem.get hobj (by (repeat (first | exact Mem.le.refl _ | assumption | (apply Mem.le.trans; rotate_left; assumption))))) _) rfl rfl rfl rfl rfl rfl rfl rfl ?_
    iterate 2 refine D.pure rfl rfl rfl rfl rfl rfl ?_
    refine D.done [(0, [], _), (2, [], _), (7, [], _), (8, [], _), (25, [], _), (26, [], _), (27, [], _)] ⟨rfl, rfl, rfl, rfl, rfl, rfl, rfl, trivial⟩ (hR _ _ _ rfl ?_); clear hR R
    refine G.loop (fun fr C' L' μ => ∃ (k : Nat) (d2 : List Int) (c2 : Bool), (k ≤ A.length ∧ Rel0 (aboveI A ab) to N.length d2 ∧ (c2 = true → wt N.length d2 < wt N.length d) ∧ (c2 = false → d2 = d ∧ ∀ a ∈ A.take k, a ∈ aboveI A ab → Tight d a)) ∧ fr = [(0, [], .pointer (some ⟨b, 0, none⟩)), (2, [], .int .i64 ab), (7, [], .slice (some ⟨b17, 0, none⟩) N.length N.length), (8, [], .bool c2), (25, [], .slice Aa A.length ca), (26, [], .int .i64 A.length), (27, [], .int .i64 k)] ∧ L' = [.arr (.slice (some ⟨b17, 0, none⟩) N.length N.length) 3 1 N.length (d2.map intV)] ∧ μ = A.length - k) (fr' := [(0, [], _), (2, [], _), (7, [], _), (8, [], _), (25, [], _), (26, [], _), (27, [], _)]) ⟨rfl, rfl, rfl, rfl, rfl, rfl, rfl, trivial⟩ ⟨0, d, false, ⟨Nat.zero_le _, hrel, (fun h => (by cases h)), fun _ => ⟨rfl, fun a ha => by simp at ha⟩⟩, rfl, rfl, rfl⟩ (fun fr C1' L1' m hle1 hI => ?_)
    obtain ⟨k, d2, c2, ⟨hk, hr2, hc2t, hc2f⟩, rfl, rfl, rfl⟩ := hI
    refine G.region rfl (fun R hR => ?_)
    refine D.pure rfl rfl rfl rfl rfl rfl ?_
    refine D.done [(0, [], _), (2, [], _), (7, [], _), (8, [], _), (25, [], _), (26, [], _), (27, [], _), (28, [], _)] ⟨rfl, rfl, rfl, rfl, rfl, rfl, rfl, rfl, trivial⟩ (hR _ _ _ rfl ?_); clear hR R
    refine G.cond rfl (fun h28 => ?_) (fun h28 => ?_)
    · skip
      simp only [decide_eq_true_eq] at h28
      have hkl : k < A.length := by omega
      obtain ⟨a, ha⟩ : ∃ a, A[k]? = some a := ⟨A[k], List.getElem?_eq_getElem hkl⟩
      have hamem : a ∈ A := List.mem_of_getElem? ha
      obtain ⟨hlo, hup⟩ := hb a hamem
      have hlen2 := hr2.len
      have hs1 := hr2.small a.up hup
      have hs2 := hr2.small a.lo hlo
      have hs3 := hr2.neg a.up hup
      have hs4 := hr2.neg a.lo hlo
      have hfl := fin_le (d := d2)
      have hau := ints_at (d := d2) (u := a.up) (by omega)
      have hal := ints_at (d := d2) (u := a.lo) (by omega)
      refine G.region rfl (fun R hR => ?_)
      refine D.index0 (harcs.mono (by (repeat (first | exact Mem.le.refl _ | assumption | (apply Mem.le.trans; rotate_left; assumption))))) rfl rfl rfl rfl rfl rfl rfl rfl rfl rfl (by omega) (row := Arc3.enc a) (by simp [ha]) (fun _ => rfl) (fun p29 hp29 => ?_)
      refine D.loadP0 hp29 rfl rfl rfl rfl rfl rfl rfl rfl ?_
      refine D.alloc rfl rfl rfl rfl rfl (fun _ => rfl) (fun b10 => ?_)
      refine D.store (j := 0) rfl rfl rfl rfl rfl rfl rfl rfl rfl rfl rfl rfl ?_
      refine D.done [(0, [], _), (2, [], _), (7, [], _), (8, [], _), (10, [], _), (25, [], _), (26, [], _), (27, [], _)] ⟨rfl, rfl, rfl, rfl, rfl, rfl, rfl, rfl, trivial⟩ (hR _ _ _ rfl ?_); clear hR R
      refine G.draw [0, 1, 2, 3, 4, 5, 6, 7, 8, 9, 10, 11, 12, 13, 14, 15, 16, 17, 18, 19, 20, 21, 22, 23, 24, 25, 26, 27, 28, 29, 30, 31, 32, 33] [] rfl (by kernel_rfl) (fun R hB hR => ?_)
      refine D.pure rfl rfl rfl rfl rfl rfl ?_
      refine D.loadL (.head _) rfl rfl rfl rfl rfl rfl rfl rfl rfl ?_
      iterate 5 refine D.pure rfl rfl rfl rfl rfl rfl ?_
      refine D.loadL (.head _) rfl rfl rfl rfl rfl rfl rfl rfl rfl ?_
      refine D.indexS (a.up) rfl rfl rfl rfl rfl rfl rfl rfl rfl rfl (fun _ => ⟨by omega, by omega, (by simp)⟩) rfl rfl ?_
      refine D.loadArr (.tail _ (.head _)) rfl rfl rfl rfl rfl rfl (fun _ => (by rw [hau]; rfl)) rfl rfl ?_
      refine D.pure rfl rfl rfl rfl rfl rfl ?_
      refine D.pickAnd rfl rfl rfl rfl rfl rfl rfl rfl ?_
      iterate 3 refine D.pure rfl rfl rfl rfl rfl rfl ?_
      refine D.loadL (.head _) rfl rfl rfl rfl rfl rfl rfl rfl rfl ?_
      refine D.indexS (a.lo) rfl rfl rfl rfl rfl rfl rfl rfl rfl rfl (fun _ => ⟨by omega, by omega, (by simp)⟩) rfl rfl ?_
      refine D.loadArr (.tail _ (.head _)) rfl rfl rfl rfl rfl rfl (fun _ => (by rw [hal]; rfl)) rfl rfl ?_
      iterate 4 refine D.pure rfl rfl rfl rfl rfl rfl ?_
      refine D.loadL (.head _) rfl rfl rfl rfl rfl rfl rfl rfl rfl ?_
      refine D.indexS (a.lo) rfl rfl rfl rfl rfl rfl rfl rfl rfl rfl (fun _ => ⟨by omega, by omega, (by simp)⟩) rfl rfl ?_
      refine D.loadArr (.tail _ (.head _)) rfl rfl rfl rfl rfl rfl (fun _ => (by rw [hal]; rfl)) rfl rfl ?_
      iterate 2 refine D.pure rfl rfl rfl rfl rfl rfl ?_
      refine D.loadL (.head _) rfl rfl rfl rfl rfl rfl rfl rfl rfl ?_
      refine D.indexS (a.up) rfl rfl rfl rfl rfl rfl rfl rfl rfl rfl (fun _ => ⟨by omega, by omega, (by simp)⟩) rfl rfl ?_
      refine D.loadArr (.tail _ (.head _)) rfl rfl rfl rfl rfl rfl (fun _ => (by rw [hau]; rfl)) rfl rfl ?_
      refine D.i64 _ rfl rfl rfl rfl rfl (by omega) (by omega) rfl rfl ?_
      refine D.pure rfl rfl rfl rfl rfl rfl ?_
      refine D.pickOr rfl rfl rfl rfl rfl rfl rfl rfl ?_
      refine D.pickAnd rfl rfl rfl rfl rfl rfl rfl rfl ?_
      refine D.done [(0, [], _), (2, [], _), (7, [], _), (8, [], _), (10, [], _), (25, [], _), (26, [], _), (27, [], _), (64, [], _)] ⟨rfl, rfl, rfl, rfl, rfl, rfl, rfl, rfl, rfl, trivial⟩ (hR _ _ _ rfl ?_); clear hR hB R
      refine G.cond rfl (fun h64 => ?_) (fun h64 => ?_)
      · skip
        have h64' : ab < (a.i : Int) ∧ 0 ≤ dAt d2 a.up ∧ (dAt d2 a.lo < 0 ∨ dAt d2 a.up + 1 < dAt d2 a.lo) := by simpa [and_assoc] using h64
        have hst := rel0_step hr2 (mem_aboveI.2 ⟨hamem, h64'.1⟩) hlo hup h64'.2.1 h64'.2.2
        have hwle : wt N.length d2 ≤ wt N.length d := by
          cases c2 with
          | true => exact Nat.le_of_lt (hc2t rfl)
          | false => rw [(hc2f rfl).1]; exact Nat.le_refl _
        refine G.draw [0, 1, 2, 3, 4, 5, 6, 7, 8, 9, 10, 11] [] rfl (by kernel_rfl) (fun R hB hR => ?_)
        iterate 2 refine D.pure rfl rfl rfl rfl rfl rfl ?_
        refine D.loadL (.head _) rfl rfl rfl rfl rfl rfl rfl rfl rfl ?_
        iterate 2 refine D.pure rfl rfl rfl rfl rfl rfl ?_
        refine D.loadL (.head _) rfl rfl rfl rfl rfl rfl rfl rfl rfl ?_
        refine D.indexS (a.up) rfl rfl rfl rfl rfl rfl rfl rfl rfl rfl (fun _ => ⟨by omega, by omega, (by simp)⟩) rfl rfl ?_
        refine D.loadArr (.tail _ (.head _)) rfl rfl rfl rfl rfl rfl (fun _ => (by rw [hau]; rfl)) rfl rfl ?_
        refine D.i64 _ rfl rfl rfl rfl rfl (by omega) (by omega) rfl rfl ?_
        refine D.indexS (a.lo) rfl rfl rfl rfl rfl rfl rfl rfl rfl rfl (fun _ => ⟨by omega, by omega, (by simp)⟩) rfl rfl ?_
        refine D.storeArr (j := 1) rfl rfl rfl rfl rfl rfl rfl rfl rfl rfl rfl (by rw [List.length_map]; show a.lo + 1 ≤ _; omega) ?_
        refine D.pure rfl rfl rfl rfl rfl rfl ?_
        refine D.done [(0, [], _), (2, [], _), (7, [], _), (8, [], _), (25, [], _), (26, [], _), (27, [], _)] ⟨rfl, rfl, rfl, rfl, rfl, rfl, rfl, trivial⟩ (hR _ _ _ rfl ?_); clear hR hB R
        refine G.region rfl (fun R hR => ?_)
        refine D.i64 _ rfl rfl rfl rfl rfl (by omega) (by omega) rfl rfl ?_
        refine D.pure rfl rfl rfl rfl rfl rfl ?_
        refine D.done [(0, [], _), (2, [], _), (7, [], _), (8, [], _), (25, [], _), (26, [], _), (27, [], _)] ⟨rfl, rfl, rfl, rfl, rfl, rfl, rfl, trivial⟩ (hR _ _ _ rfl ?_); clear hR R
        refine G.dropE 1 rfl ?_
        refine G.eqL (L' := [.arr (.slice (some ⟨b17, 0, none⟩) N.length N.length) 3 1 N.length ((d2.set a.lo (dAt d2 a.up + 1)).map intV)]) (by rw [← ints_set (by omega)]; rfl) ?_
        refine G.again (m' := A.length - (k + 1)) (by omega) hle1 (fr' := [(0, [], _), (2, [], _), (7, [], _), (8, [], _), (25, [], _), (26, [], _), (27, [], _)]) ⟨rfl, rfl, rfl, rfl, rfl, rfl, rfl, trivial⟩ ⟨k + 1, d2.set a.lo (dAt d2 a.up + 1), true, ⟨by omega, hst.1, fun _ => by omega, (fun h => (by cases h))⟩, rfl, rfl, rfl⟩
      · skip
        have h64' : ¬ (ab < (a.i : Int) ∧ 0 ≤ dAt d2 a.up ∧ (dAt d2 a.lo < 0 ∨ dAt d2 a.up + 1 < dAt d2 a.lo)) := by
          intro hh
          have : (false : Bool) = true := by rw [← h64]; simpa [and_assoc] using hh
          cases this
        refine G.region rfl (fun R hR => ?_)
        refine D.i64 _ rfl rfl rfl rfl rfl (by omega) (by omega) rfl rfl ?_
        refine D.pure rfl rfl rfl rfl rfl rfl ?_
        refine D.done [(0, [], _), (2, [], _), (7, [], _), (8, [], _), (25, [], _), (26, [], _), (27, [], _)] ⟨rfl, rfl, rfl, rfl, rfl, rfl, rfl, trivial⟩ (hR _ _ _ rfl ?_); clear hR R
        refine G.dropE 0 rfl ?_
        refine G.again (m' := A.length - (k + 1)) (by omega) hle1 (fr' := [(0, [], _), (2, [], _), (7, [], _), (8, [], _), (25, [], _), (26, [], _), (27, [], _)]) ⟨rfl, rfl, rfl, rfl, rfl, rfl, rfl, trivial⟩ ⟨k + 1, d2, c2, ⟨by omega, hr2, hc2t, fun hf => by
          obtain ⟨e1, e2⟩ := hc2f hf
          subst e1
          refine ⟨rfl, fun a' ha' hab' => ?_⟩
          rw [List.take_add_one, ha] at ha'
          rcases List.mem_append.1 ha' with h | h
          · exact e2 a' h hab'
          · have : a' = a := by simpa using h
            subst this
            intro h0
            have hi := (mem_aboveI.1 hab').2
            exact ⟨by omega, by omega⟩⟩, rfl, rfl, rfl⟩
    · skip
      simp only [decide_eq_false_iff_not] at h28
      have hkl : k = A.length := by omega
      subst hkl
      rw [List.take_length] at hc2f
      have hm3 : 2 * wt N.length d2 + (if c2 = true then 1 else 0) < 2 * wt N.length d + (if true = true then 1 else 0) := by
        cases c2 with
        | true => have := hc2t rfl; simp; omega
        | false => rw [(hc2f rfl).1]; simp
      refine G.again (m' := 2 * wt N.length d2 + (if c2 then 1 else 0)) (by omega) (hle0.trans hle1) (fr' := [(0, [], _), (2, [], _), (7, [], _), (8, [], _)]) ⟨rfl, rfl, rfl, rfl, trivial⟩ ⟨d2, c2, ⟨hr2, fun hf a ha => by
        obtain ⟨e1, e2⟩ := hc2f hf
        subst e1
        exact e2 a (mem_aboveI.1 ha).1 ha⟩, rfl, rfl, rfl⟩
  · skip
    have h21' : ch = false := h21
    refine G.region rfl (fun R hR => ?_)
    iterate 2 refine D.pure rfl rfl rfl rfl rfl rfl ?_
    refine D.done [(6, [], _)] ⟨rfl, trivial⟩ (hR _ _ _ rfl ?_); clear hR R
    refine G.eqL (L' := [.arr (.slice (some ⟨b17, 0, none⟩) N.length N.length) 3 1 N.length (d.map encI).flatten]) (by rw [ints_flat]) ?_
    have hdl := hrel.len
    refine G.freezeArr 0 (d.map encI) rfl rfl (by intro r hr; obtain ⟨y, _, rfl⟩ := List.mem_map.1 hr; rfl) (by rw [List.length_map, hdl]) (fun Cf hf hsd => ?_)
    refine G.retN (G.dropAll (G.fin1 rfl rfl ?_))
    refine ⟨rfl, d, rel0_done hrel hbI (hti h21'), fun u hu => ⟨hrel.neg u (by omega), by have := hrel.small u (by omega); have := fin_le (d := d); omega⟩, ?_⟩
    exact hsd
end Go.Proofs.YtjcienaflbhedaaGreatDoor
namespace Go.Proofs.YtjcienaflbhedaaGreatDoor
open Go Go.Jog
set_option maxRecDepth 100000

/-- The closure's answer at an arc. -/
def okArc (a : Arc3) (d : List Int) (at_ : Nat) (b : Arc3) : Bool := decide (a.i < b.i) && (dAt d b.up == dAt d at_ - 1)
abbrev atObj (b : Nat) (at_ : Nat) : Ent := .obj b (.cells ⟨[.int .i64 at_]⟩ 3 (0, 0))
structure Env1 (C : Mem) (a : Arc3) (d : List Int) (b8 b9 : Nat) : Prop where
  arc : C b8 = some (.cells ⟨Arc3.enc a⟩ 132 (0, 0))
  dist : ∃ dv, C b9 = some (.cells ⟨[dv]⟩ 32 (0, 0)) ∧ Sl C 1 dv (d.map encI)
theorem Env1.mono {C D : Mem} {a : Arc3} {d : List Int} {b8 b9 : Nat} (h : Env1 C a d b8 b9) (hl : C.le D) : Env1 D a d b8 b9 :=
  ⟨Mem.get h.arc hl, let ⟨dv, h1, h2⟩ := h.dist; ⟨dv, Mem.get h1 hl, h2.mono hl⟩⟩

theorem ints_row {d : List Int} {u : Nat} (h : u < d.length) : (d.map encI)[u]? = some [.int .i64 (dAt d u)] := by
  rw [List.getElem?_map, List.getElem?_eq_getElem h, Option.map_some, dAt_get (List.getElem?_eq_getElem h)]; rfl

theorem closure_fn (C : Mem) (a b : Arc3) (d : List Int) (at_ b8 b9 b11 : Nat) (he : Env1 C a d b8 b9) (hat : at_ < d.length) (hb : b.up < d.length) (hd : ∀ u, u < d.length → -1 ≤ dAt d u ∧ dAt d u ≤ 1000000) :
    Jog.Fn cx.P 57 [.agg ⟨Arc3.enc b⟩, .pointer (some ⟨b8, 0, none⟩), .pointer (some ⟨b9, 0, none⟩), .pointer (some ⟨b11, 0, none⟩)] C [atObj b11 at_]
      fun u C' L' => u = .bool (okArc a d at_ b) ∧ L' = [atObj b11 at_] := by
  obtain ⟨hob, dv, hdb, hds⟩ := he
  have hd1 := hd at_ hat
  have hd2 := hd b.up hb
  have hds0 := hds
  obtain ⟨A, c, rfl, _⟩ := hds0
  refine Fn.intro (by kernel_rfl) Tryz.func57 rfl 24 rfl rfl (fun w0 => ?_)
  refine G.eqL (L' := [.obj b11 (.cells ⟨[.int .i64 at_]⟩ 3 (0, 0))]) rfl ?_
  refine G.region rfl (fun R hR => ?_)
  refine D.box rfl rfl rfl rfl rfl rfl (fun _ => rfl) (fun b4 => ?_)
  refine D.pure rfl rfl rfl rfl rfl rfl ?_
  refine D.done [(1, [], _), (2, [], _), (3, [], _), (4, [], _)] ⟨rfl, rfl, rfl, rfl, trivial⟩ (hR _ _ _ rfl ?_); clear hR R
  refine G.draw [0, 1, 2, 3, 4, 5, 6, 7, 8, 9, 10, 11, 12, 13, 14, 15, 16, 17, 18] [] rfl (by kernel_rfl) (fun R hB hR => ?_)
  refine D.pure rfl rfl rfl rfl rfl rfl ?_
  refine D.loadL (.head _) rfl rfl rfl rfl rfl rfl rfl rfl rfl ?_
  refine D.pure rfl rfl rfl rfl rfl rfl ?_
  refine D.loadP0 (PtrTo.block (Mem.get hob (by (repeat (first | exact Mem.le.refl _ | assumption | (apply Mem.le.trans; rotate_left; assumption))))) _) rfl rfl rfl rfl rfl rfl rfl rfl ?_
  iterate 2 refine D.pure rfl rfl rfl rfl rfl rfl ?_
  refine D.loadP rfl rfl rfl rfl rfl rfl (fun _ => PtrTo.block (Mem.get hdb (by (repeat (first | exact Mem.le.refl _ | assumption | (apply Mem.le.trans; rotate_left; assumption))))) _) rfl rfl rfl ?_
  refine D.pure rfl rfl rfl rfl rfl rfl ?_
  refine D.loadL (.head _) rfl rfl rfl rfl rfl rfl rfl rfl rfl ?_
  refine D.index rfl rfl rfl rfl rfl rfl rfl rfl rfl rfl (fun hg => ⟨(hds.mono (by (repeat (first | exact Mem.le.refl _ | assumption | (apply Mem.le.trans; rotate_left; assumption))))), by omega, (ints_row (u := b.up) hb)⟩) (fun _ => rfl) rfl (fun p15 hp15 => ?_)
  refine D.loadP rfl rfl rfl rfl rfl rfl hp15 rfl rfl rfl ?_
  refine D.loadP rfl rfl rfl rfl rfl rfl (fun _ => PtrTo.block (Mem.get hdb (by (repeat (first | exact Mem.le.refl _ | assumption | (apply Mem.le.trans; rotate_left; assumption))))) _) rfl rfl rfl ?_
  refine D.loadL (.tail _ (.head _)) rfl rfl rfl rfl rfl rfl rfl rfl rfl ?_
  refine D.index rfl rfl rfl rfl rfl rfl rfl rfl rfl rfl (fun hg => ⟨(hds.mono (by (repeat (first | exact Mem.le.refl _ | assumption | (apply Mem.le.trans; rotate_left; assumption))))), by omega, (ints_row (u := at_) hat)⟩) (fun _ => rfl) rfl (fun p19 hp19 => ?_)
  refine D.loadP rfl rfl rfl rfl rfl rfl hp19 rfl rfl rfl ?_
  refine D.i64 _ rfl rfl rfl rfl rfl (by omega) (by omega) rfl rfl ?_
  refine D.pure rfl rfl rfl rfl rfl rfl ?_
  refine D.pickAnd rfl rfl rfl rfl rfl rfl rfl rfl ?_
  refine D.pure rfl rfl rfl rfl rfl rfl ?_
  refine D.done [(5, [], _)] ⟨rfl, trivial⟩ (hR _ _ _ rfl ?_); clear hR hB R
  refine G.dropE 0 rfl ?_
  refine G.retN (G.fin1 rfl rfl ?_)
  exact ⟨by simp [okArc], rfl⟩

/-- slices.IndexFunc with the closure. -/
def idxArc (a : Arc3) (d : List Int) (at_ : Nat) : List Arc3 → Nat → Int
  | [], _ => -1
  | b :: l, i => if okArc a d at_ b = true then (i : Int) else idxArc a d at_ l (i + 1)
theorem idxArc_miss {a : Arc3} {d : List Int} {at_ : Nat} : ∀ {l : List Arc3} {i : Nat}, (∀ b ∈ l, okArc a d at_ b = false) → idxArc a d at_ l i = -1
  | [], _, _ => rfl
  | b :: l, i, h => by rw [idxArc, h b (by simp)]; exact idxArc_miss (fun c hc => h c (by simp [hc]))
theorem idxArc_hit {a : Arc3} {d : List Int} {at_ : Nat} : ∀ {l : List Arc3} {i k : Nat} {b : Arc3}, l[k]? = some b → okArc a d at_ b = true → (∀ c ∈ l.take k, okArc a d at_ c = false) → idxArc a d at_ l i = ((i + k : Nat) : Int)
  | [], _, _, _, h, _, _ => by simp at h
  | c :: l, i, 0, b, h, h1, _ => by
    simp at h; subst h
    rw [idxArc, if_pos h1]; rfl
  | c :: l, i, k + 1, b, h, h1, h2 => by
    rw [idxArc, h2 c (by simp), if_neg (by simp), idxArc_hit (k := k) (by simpa using h) h1 (fun e he => h2 e (by simp [he]))]
    congr 1; omega
theorem indexFunc_fn (C : Mem) (v : Value) (a : Arc3) (l : List Arc3) (d : List Int) (at_ b8 b9 b11 : Nat) (he : Env1 C a d b8 b9) (hv : Sl C 3 v (l.map Arc3.enc)) (hl : l.length ≤ 100000) (hat : at_ < d.length) (hb : ∀ b ∈ l, b.up < d.length) (hd : ∀ u, u < d.length → -1 ≤ dAt d u ∧ dAt d u ≤ 1000000) :
    Jog.Fn cx.P 56 [v, .func (.func 57) #[] #[.pointer (some ⟨b8, 0, none⟩), .pointer (some ⟨b9, 0, none⟩), .pointer (some ⟨b11, 0, none⟩)]] C [atObj b11 at_]
      fun u C' L' => u = .int .i64 (idxArc a d at_ l 0) ∧ L' = [atObj b11 at_] := by
  have hv0 := hv
  obtain ⟨A, c, rfl, _⟩ := hv0
  simp only [List.length_map] at hv ⊢
  refine Fn.intro (by kernel_rfl) Tryz.func56 rfl 19 rfl rfl (fun w0 => ?_)
  refine G.eqL (L' := [.obj b11 (.cells ⟨[.int .i64 at_]⟩ 3 (0, 0))]) rfl ?_
  refine G.region rfl (fun R hR => ?_)
  refine D.pure rfl rfl rfl rfl rfl rfl ?_
  refine D.done [(0, [], _), (1, [], _)] ⟨rfl, rfl, trivial⟩ (hR _ _ _ rfl ?_); clear hR R
  refine G.region rfl (fun R hR => ?_)
  iterate 3 refine D.pure rfl rfl rfl rfl rfl rfl ?_
  refine D.done [(0, [], _), (1, [], _), (7, [], _), (8, [], _)] ⟨rfl, rfl, rfl, rfl, trivial⟩ (hR _ _ _ rfl ?_); clear hR R
  refine G.loop (fun fr C' L' μ => ∃ (k : Nat), (k ≤ l.length ∧ ∀ b ∈ l.take k, okArc a d at_ b = false) ∧ fr = [(0, [], .slice A l.length c), (1, [], .func (.func 57) #[] #[.pointer (some ⟨b8, 0, none⟩), .pointer (some ⟨b9, 0, none⟩), .pointer (some ⟨b11, 0, none⟩)]), (7, [], .int .i64 l.length), (8, [], .int .i64 k)] ∧ L' = [.obj b11 (.cells ⟨[.int .i64 at_]⟩ 3 (0, 0))] ∧ μ = l.length - k) (fr' := [(0, [], _), (1, [], _), (7, [], _), (8, [], _)]) ⟨rfl, rfl, rfl, rfl, trivial⟩ ⟨0, ⟨Nat.zero_le _, fun b hb => by simp at hb⟩, rfl, rfl, rfl⟩ (fun fr C0' L0' m hle0 hI => ?_)
  obtain ⟨k, ⟨hk, hz⟩, rfl, rfl, rfl⟩ := hI
  refine G.region rfl (fun R hR => ?_)
  refine D.pure rfl rfl rfl rfl rfl rfl ?_
  refine D.done [(0, [], _), (1, [], _), (7, [], _), (8, [], _), (9, [], _)] ⟨rfl, rfl, rfl, rfl, rfl, trivial⟩ (hR _ _ _ rfl ?_); clear hR R
  refine G.cond rfl (fun h9 => ?_) (fun h9 => ?_)
  · skip
    simp only [decide_eq_true_eq] at h9
    have hkl : k < l.length := by omega
    obtain ⟨x, hx⟩ : ∃ x, l[k]? = some x := ⟨l[k], List.getElem?_eq_getElem hkl⟩
    refine G.region rfl (fun R hR => ?_)
    iterate 2 refine D.pure rfl rfl rfl rfl rfl rfl ?_
    refine D.done [(0, [], _), (1, [], _), (5, [], _), (7, [], _), (8, [], _)] ⟨rfl, rfl, rfl, rfl, rfl, trivial⟩ (hR _ _ _ rfl ?_); clear hR R
    refine G.regionO [(5, 3)] rfl (fun R hR => ?_)
    iterate 3 refine D.pure rfl rfl rfl rfl rfl rfl ?_
    refine D.index0 (hv.mono (by (repeat (first | exact Mem.le.refl _ | assumption | (apply Mem.le.trans; rotate_left; assumption))))) rfl rfl rfl rfl rfl rfl rfl rfl rfl rfl (by omega) (row := Arc3.enc x) (by simp [hx]) (fun _ => rfl) (fun p14 hp14 => ?_)
    refine D.loadP0 hp14 rfl rfl rfl rfl rfl rfl rfl rfl ?_
    refine D.call (closure_fn _ a x d at_ b8 b9 b11 (he.mono (by (repeat (first | exact Mem.le.refl _ | assumption | (apply Mem.le.trans; rotate_left; assumption))))) hat (hb x (List.mem_of_getElem? hx)) hd) rfl (.inr (by decide)) rfl rfl rfl rfl rfl rfl (List.Perm.refl _) (fun _ => rfl) (fun v16 C16 L16 hle16 hq16 => ?_)
    obtain ⟨rfl, rfl⟩ := hq16
    refine D.done [(0, [], _), (1, [], _), (5, [], _), (7, [], _), (8, [], _), (16, [], _)] ⟨rfl, rfl, rfl, rfl, rfl, rfl, trivial⟩ (hR _ _ _ rfl ?_); clear hR R
    refine G.cond rfl (fun h16 => ?_) (fun h16 => ?_)
    · skip
      refine G.region rfl (fun R hR => ?_)
      iterate 2 refine D.pure rfl rfl rfl rfl rfl rfl ?_
      refine D.done [(4, [], _)] ⟨rfl, trivial⟩ (hR _ _ _ rfl ?_); clear hR R
      refine G.retN (G.fin1 rfl rfl ?_)
      exact ⟨by rw [idxArc_hit hx h16 hz, Nat.zero_add], rfl⟩
    · skip
      refine G.region rfl (fun R hR => ?_)
      refine D.i64 _ rfl rfl rfl rfl rfl (by omega) (by omega) rfl rfl ?_
      refine D.pure rfl rfl rfl rfl rfl rfl ?_
      refine D.done [(0, [], _), (1, [], _), (7, [], _), (8, [], _)] ⟨rfl, rfl, rfl, rfl, trivial⟩ (hR _ _ _ rfl ?_); clear hR R
      refine G.again (m' := l.length - (k + 1)) (by omega) (by (repeat (first | exact Mem.le.refl _ | assumption | (apply Mem.le.trans; rotate_left; assumption)))) (fr' := [(0, [], _), (1, [], _), (7, [], _), (8, [], _)]) ⟨rfl, rfl, rfl, rfl, trivial⟩ ⟨k + 1, ⟨by omega, fun b hbm => by
        rw [List.take_add_one, hx] at hbm
        rcases List.mem_append.1 hbm with h | h
        · exact hz b h
        · have : b = x := by simpa using h
          subst this
          exact h16⟩, rfl, rfl, rfl⟩
  · skip
    simp only [decide_eq_false_iff_not] at h9
    have hkl : k = l.length := by omega
    subst hkl
    refine G.region rfl (fun R hR => ?_)
    refine D.pure rfl rfl rfl rfl rfl rfl ?_
    refine D.done [(4, [], _)] ⟨rfl, trivial⟩ (hR _ _ _ rfl ?_); clear hR R
    refine G.retN (G.fin1 rfl rfl ?_)
    exact ⟨by rw [List.take_length] at hz; rw [idxArc_miss hz], rfl⟩
end Go.Proofs.YtjcienaflbhedaaGreatDoor
namespace Go.Proofs.YtjcienaflbhedaaGreatDoor
open Go Go.Jog
set_option maxRecDepth 100000

/-- Arcs come in the order of their numbers. -/
def Ix (A : List Arc3) : Prop := A.Pairwise fun a b => a.i < b.i
theorem Ix.inj {A : List Arc3} (h : Ix A) : ∀ a ∈ A, ∀ b ∈ A, a.i = b.i → a = b := by
  induction A with
  | nil => intro a ha; cases ha
  | cons x A ih =>
    obtain ⟨h1, h2⟩ := List.pairwise_cons.1 h
    intro a ha b hb e
    rcases List.mem_cons.1 ha with e1 | ha1
    · rcases List.mem_cons.1 hb with e2 | hb1
      · rw [e1, e2]
      · have := h1 b hb1; rw [e1] at e; omega
    · rcases List.mem_cons.1 hb with e2 | hb1
      · have := h1 a ha1; rw [e2] at e; omega
      · exact ih h2 a ha1 b hb1 e
theorem Ix.le {A : List Arc3} (h : Ix A) {k : Nat} {a b : Arc3} (ha : A[k]? = some a) (hb : b ∈ A) (hn : b ∉ A.take k) : a.i ≤ b.i := by
  obtain ⟨j, hj⟩ := List.getElem?_of_mem hb
  have hkj : k ≤ j := Nat.le_of_not_lt (fun hlt => hn (List.mem_of_getElem? (i := j) (by rw [List.getElem?_take, if_pos hlt]; exact hj)))
  rcases Nat.lt_or_ge k j with h1 | h1
  · obtain ⟨a1, a2⟩ := List.getElem?_eq_some_iff.1 ha
    obtain ⟨b1, b2⟩ := List.getElem?_eq_some_iff.1 hj
    have := List.pairwise_iff_getElem.1 h k j a1 b1 h1
    rw [a2, b2] at this
    omega
  · have : k = j := by omega
    subst this
    rw [ha] at hj
    cases hj
    exact Nat.le_refl _
theorem Ix.nexts {A : List Arc3} (h : Ix A) (i : Nat) : Ix (nexts A i) := List.Pairwise.filter _ h
theorem mem_nexts {A : List Arc3} {i : Nat} {a : Arc3} : a ∈ nexts A i ↔ a ∈ A ∧ a.lo = i := by simp [nexts]

def LInv (A T : List Arc3) (least : Nat) : Prop :=
  (∀ a ∈ T, ∀ j, Walk A j a.up a.lo → 0 < least ∧ least ≤ j + 1) ∧ (least ≠ 0 → ∃ a ∈ A, ∃ j, Walk A j a.up a.lo ∧ j + 1 = least)
theorem LInv.start {A : List Arc3} : LInv A [] 0 := ⟨fun a ha => (by cases ha), fun h => absurd rfl h⟩
theorem LInv.put {A T : List Arc3} {least n : Nat} {a : Arc3} {d : List Int} (h : LInv A T least) (ha : a ∈ A) (hd : IsDist A a.lo n d) (hn : a.up < n) (hc : 0 ≤ dAt d a.up ∧ (least = 0 ∨ dAt d a.up + 1 < least)) :
    LInv A (T ++ [a]) ((dAt d a.up).toNat + 1) := by
  rcases hd.2 a.up hn with ⟨e, _⟩ | ⟨k, e, hw, hm⟩
  · omega
  · have ek : (dAt d a.up).toNat = k := by omega
    rw [ek]
    refine ⟨fun b hb j hj => ⟨by omega, ?_⟩, fun _ => ⟨a, ha, k, hw, rfl⟩⟩
    rcases List.mem_append.1 hb with hb | hb
    · have := h.1 b hb j hj; omega
    · rw [List.mem_singleton.1 hb] at hj
      have := hm j hj; omega
theorem LInv.keep {A T : List Arc3} {least n : Nat} {a : Arc3} {d : List Int} (h : LInv A T least) (hd : IsDist A a.lo n d) (hn : a.up < n) (hc : ¬ (0 ≤ dAt d a.up ∧ (least = 0 ∨ dAt d a.up + 1 < least))) : LInv A (T ++ [a]) least := by
  refine ⟨fun b hb j hj => ?_, h.2⟩
  rcases List.mem_append.1 hb with hb | hb
  · exact h.1 b hb j hj
  · rw [List.mem_singleton.1 hb] at hj
    rcases hd.2 a.up hn with ⟨_, hno⟩ | ⟨k, e, hw, hm⟩
    · exact absurd hj (hno _)
    · have := hm j hj; omega
theorem LInv.min {A : List Arc3} {least : Nat} (h : LInv A A least) : ∀ k w, 0 < k → Walk A k w w → 0 < least ∧ least ≤ k := fun k w hk hw => by
  obtain ⟨q, rfl⟩ : ∃ q, k = q + 1 := ⟨k - 1, by omega⟩
  obtain ⟨a, ha, hlo, hw⟩ := Walk.succ.1 hw
  subst hlo
  exact h.1 a ha q hw

theorem first_of {α : Type} {P : α → Bool} : ∀ {l : List α} {x : α}, x ∈ l → P x = true → ∃ (k : Nat) (y : α), l[k]? = some y ∧ P y = true ∧ ∀ c ∈ l.take k, P c = false
  | y :: l, x, hx, hp => by
    by_cases hy : P y = true
    · exact ⟨0, y, rfl, hy, fun c hc => by simp at hc⟩
    · have hy' : P y = false := by simpa using hy
      rcases List.mem_cons.1 hx with rfl | hx
      · exact absurd hp hy
      · obtain ⟨k, z, h1, h2, h3⟩ := first_of hx hp
        refine ⟨k + 1, z, by simpa using h1, h2, fun c hc => ?_⟩
        rw [List.take_succ_cons] at hc
        rcases List.mem_cons.1 hc with rfl | hc
        · exact hy'
        · exact h3 c hc

/-- The next arc of the greedy way. -/
theorem greedy_next {A : List Arc3} {a : Arc3} {n m at_ : Nat} {p : List Arc3} {d : List Int} (hix : Ix A) (hb : Below n A) (hd : IsDist (above A a.i) a.lo n d) (hat : at_ < n) (hne : at_ ≠ a.lo) (hpos : 0 ≤ dAt d at_)
    (hg : Greedy (above A a.i) a.up a.lo m p at_) (hm : (p.length : Int) + dAt d at_ = m) :
    ∃ (k : Nat) (b : Arc3), (nexts A at_)[k]? = some b ∧ okArc a d at_ b = true ∧ (∀ c ∈ (nexts A at_).take k, okArc a d at_ c = false) ∧ b.up < n ∧ 0 ≤ dAt d b.up ∧ dAt d b.up = dAt d at_ - 1 ∧
      Greedy (above A a.i) a.up a.lo m (p ++ [b]) b.up ∧ ((p ++ [b]).length : Int) + dAt d b.up = m := by
  have hba : Below n (above A a.i) := fun x hx => hb x (mem_above.1 hx).1
  rcases hd.2 at_ hat with ⟨e, _⟩ | ⟨q, e, hw, hmin⟩
  · omega
  obtain ⟨r, rfl⟩ : ∃ r, q = r + 1 := by
    cases q with
    | zero => exact absurd (Walk.zero.1 hw) hne
    | succ r => exact ⟨r, rfl⟩
  obtain ⟨b0, hb0, hlo0, hw0⟩ := Walk.succ.1 hw
  have hdist : ∀ b ∈ above A a.i, b.lo = at_ → -1 ≤ dAt d b.up ∧ (0 ≤ dAt d b.up → dAt d at_ ≤ dAt d b.up + 1) := fun b hbm hl => by
    rcases hd.2 b.up (hba b hbm).2 with ⟨e1, _⟩ | ⟨k, e1, hk, _⟩
    · exact ⟨by omega, fun h => by omega⟩
    · have := hmin _ (Walk.succ.2 ⟨b, hbm, hl, hk⟩)
      exact ⟨by omega, fun _ => by omega⟩
  have hd0 : dAt d b0.up = dAt d at_ - 1 := by
    rcases hd.2 b0.up (hba b0 hb0).2 with ⟨_, hno⟩ | ⟨k, e1, hk, hkm⟩
    · exact absurd hw0 (hno _)
    · have h1 := hkm _ hw0
      have h2 := hmin _ (Walk.succ.2 ⟨b0, hb0, hlo0, hk⟩)
      omega
  have hok : ∀ b, okArc a d at_ b = true ↔ a.i < b.i ∧ dAt d b.up = dAt d at_ - 1 := fun b => by simp [okArc]
  have hb0A := mem_above.1 hb0
  obtain ⟨k, b, h1, h2, h3⟩ := first_of (P := okArc a d at_) (mem_nexts.2 ⟨hb0A.1, hlo0⟩) ((hok b0).2 ⟨hb0A.2, hd0⟩)
  have hbn := mem_nexts.1 (List.mem_of_getElem? h1)
  have h2' := (hok b).1 h2
  have hbm : b ∈ above A a.i := mem_above.2 ⟨hbn.1, h2'.1⟩
  have hup0 : 0 ≤ dAt d b.up := by omega
  refine ⟨k, b, h1, h2, h3, (hb b hbn.1).2, hup0, h2'.2, hg.step hba hd hbm hbn.2 hm hat h2'.2 hup0 (fun b' hb' hl' he' => ?_) (fun x hx y hy => hix.inj x (mem_above.1 hx).1 y (mem_above.1 hy).1), ?_⟩
  · refine (hix.nexts at_).le h1 (mem_nexts.2 ⟨(mem_above.1 hb').1, hl'⟩) (fun hm' => ?_)
    have := h3 b' hm'
    rw [(hok b').2 ⟨(mem_above.1 hb').2, he'⟩] at this
    cases this
  · rw [List.length_append, List.length_singleton]; push_cast; omega

/-- Where a way around of the least length begins. -/
theorem cyc_dist {A : List Arc3} {a : Arc3} {n least : Nat} {d : List Int} {r : List Arc3} (ha : a ∈ A) (hmin : ∀ k w, 0 < k → Walk A k w w → 0 < least ∧ least ≤ k) (hd : IsDist (above A a.i) a.lo n d) (hn : a.up < n) (hc : Cyc A (a :: r)) (hl : r.length + 1 = least) :
    dAt d a.up = (least : Int) - 1 := by
  obtain ⟨h1, h2⟩ := (cyc_iff ha).1 hc
  have hw : Walk (above A a.i) r.length a.up a.lo := ⟨r, h1, rfl, h2⟩
  rcases hd.2 a.up hn with ⟨_, hno⟩ | ⟨k, e, hk, hkm⟩
  · exact absurd hw (hno _)
  · have h3 := hkm _ hw
    have h4 := hmin (k + 1) a.lo (by omega) (Walk.succ.2 ⟨a, ha, rfl, hk.mono (fun x hx => (mem_above.1 hx).1)⟩)
    omega
end Go.Proofs.YtjcienaflbhedaaGreatDoor
namespace Go.Proofs.YtjcienaflbhedaaGreatDoor
open Go Go.Jog
set_option maxRecDepth 100000

def encN (i : Nat) : List Value := [.int .i64 i]
abbrev intN (i : Nat) : Value := .int .i64 i
structure GOk (N : List Str) (A : List Arc3) : Prop where
  below : Below N.length A
  ix : Ix A
  arcs : A.length ≤ 100000
  names : N.length ≤ 200000
  nums : ∀ a ∈ A, a.i ≤ 1000000
def CycOut (C : Mem) (A : List Arc3) (u : Value) : Prop :=
  (u = .slice none 0 0 ∧ Acyc A) ∨ ∃ q ad n c, LeastCyc A q ∧ u = .slice (some ad) n c ∧ Sl C 1 u ((nums q).map encN)

set_option maxHeartbeats 4000000 in
theorem gcycle_fn (C : Mem) (p : Value) (N : List Str) (A : List Arc3) (hg : Graph C p N A) (hok : GOk N A) : Pur cx.P 27 [p] C fun u C' => CycOut C' A u := by
  have hgr := hg
  obtain ⟨b, bm, vn, va, vx, vs, hgp, hobj, hnames, hat, harcs, hnx, hlen, hrows⟩ := hg
  subst hgp
  obtain ⟨Aa, ca, rfl, _⟩ := id harcs
  obtain ⟨Ax, cxx, rfl, _⟩ := id hnx
  simp only [List.length_map] at hobj harcs hnx
  have hb := hok.below
  have hAl := hok.arcs
  have hNl := hok.names
  refine Fn.intro (by kernel_rfl) Tryz.func27 rfl 118 rfl rfl (fun w0 => ?_)
  refine G.region rfl (fun R hR => ?_)
  refine D.pure rfl rfl rfl rfl rfl rfl ?_
  refine D.done [(0, [], _)] ⟨rfl, trivial⟩ (hR _ _ _ rfl ?_); clear hR R
  refine G.region rfl (fun R hR => ?_)
  refine D.pure rfl rfl rfl rfl rfl rfl ?_
  refine D.done [(0, [], _), (3, [], _)] ⟨rfl, rfl, trivial⟩ (hR _ _ _ rfl ?_); clear hR R
  refine G.region rfl (fun R hR => ?_)
  iterate 3 refine D.pure rfl rfl rfl rfl rfl rfl ?_
  refine D.loadP0 (PtrTo.block (Mem.get hobj (by (repeat (first | exact Mem.le.refl _ | assumption | (apply Mem.le.trans; rotate_left; assumption))))) _) rfl rfl rfl rfl rfl rfl rfl rfl ?_
  iterate 2 refine D.pure rfl rfl rfl rfl rfl rfl ?_
  refine D.done [(0, [], _), (3, [], _), (16, [], _), (17, [], _), (18, [], _)] ⟨rfl, rfl, rfl, rfl, rfl, trivial⟩ (hR _ _ _ rfl ?_); clear hR R
  refine G.loop (fun fr C' L' μ => ∃ (k least : Nat), (k ≤ A.length ∧ LInv A (A.take k) least ∧ least ≤ 2000000) ∧ fr = [(0, [], .pointer (some ⟨b, 0, none⟩)), (3, [], .int .i64 least), (16, [], .slice Aa A.length ca), (17, [], .int .i64 A.length), (18, [], .int .i64 k)] ∧ L' = [] ∧ μ = A.length - k) (fr' := [(0, [], _), (3, [], _), (16, [], _), (17, [], _), (18, [], _)]) ⟨rfl, rfl, rfl, rfl, rfl, trivial⟩ ⟨0, 0, ⟨Nat.zero_le _, LInv.start, by omega⟩, rfl, rfl, rfl⟩ (fun fr C0' L0' m hle0 hI => ?_)
  obtain ⟨k, least, ⟨hk, hli, hlb⟩, rfl, rfl, rfl⟩ := hI
  refine G.region rfl (fun R hR => ?_)
  refine D.pure rfl rfl rfl rfl rfl rfl ?_
  refine D.done [(0, [], _), (3, [], _), (16, [], _), (17, [], _), (18, [], _), (19, [], _)] ⟨rfl, rfl, rfl, rfl, rfl, rfl, trivial⟩ (hR _ _ _ rfl ?_); clear hR R
  refine G.cond rfl (fun h19 => ?_) (fun h19 => ?_)
  · skip
    simp only [decide_eq_true_eq] at h19
    have hkl : k < A.length := by omega
    obtain ⟨a, ha⟩ : ∃ a, A[k]? = some a := ⟨A[k], List.getElem?_eq_getElem hkl⟩
    have hamem : a ∈ A := List.mem_of_getElem? ha
    obtain ⟨hlo, hup⟩ := hb a hamem
    have htk : A.take (k + 1) = A.take k ++ [a] := by rw [List.take_add_one, ha]; rfl
    refine G.region rfl (fun R hR => ?_)
    refine D.index0 (harcs.mono (by (repeat (first | exact Mem.le.refl _ | assumption | (apply Mem.le.trans; rotate_left; assumption))))) rfl rfl rfl rfl rfl rfl rfl rfl rfl rfl (by omega) (row := Arc3.enc a) (by simp [ha]) (fun _ => rfl) (fun p20 hp20 => ?_)
    refine D.loadP0 hp20 rfl rfl rfl rfl rfl rfl rfl rfl ?_
    refine D.alloc rfl rfl rfl rfl rfl (fun _ => rfl) (fun b5 => ?_)
    refine D.store (j := 0) rfl rfl rfl rfl rfl rfl rfl rfl rfl rfl rfl rfl ?_
    refine D.done [(0, [], _), (3, [], _), (5, [], _), (16, [], _), (17, [], _), (18, [], _)] ⟨rfl, rfl, rfl, rfl, rfl, rfl, trivial⟩ (hR _ _ _ rfl ?_); clear hR R
    refine G.draw [0, 1, 2, 4, 5, 3, 6, 7, 8] [] rfl (by kernel_rfl) (fun R hB hR => ?_)
    iterate 2 refine D.pure rfl rfl rfl rfl rfl rfl ?_
    refine D.loadL (.head _) rfl rfl rfl rfl rfl rfl rfl rfl rfl ?_
    refine D.pure rfl rfl rfl rfl rfl rfl ?_
    refine D.loadL (.head _) rfl rfl rfl rfl rfl rfl rfl rfl rfl ?_
    refine D.callP (distances_fn _ _ N A a.lo (-1) (hgr.mono (by (repeat (first | exact Mem.le.refl _ | assumption | (apply Mem.le.trans; rotate_left; assumption))))) hlo hb hAl hNl) rfl rfl rfl rfl rfl rfl rfl (fun _ => rfl) (fun v25 C25 hle25 hq25 => ?_)
    obtain ⟨d, hd, hdb, hds⟩ := hq25
    rw [aboveI_neg] at hd
    obtain ⟨Ad, cd, rfl, _⟩ := id hds
    have hdl := hd.1
    have hdu := hdb a.up (by omega)
    refine D.index0 hds rfl rfl rfl rfl rfl rfl rfl rfl rfl rfl (by omega) (ints_row (u := a.up) (by omega)) (fun _ => rfl) (fun p28 hp28 => ?_)
    refine D.loadP0 hp28 rfl rfl rfl rfl rfl rfl rfl rfl ?_
    refine D.pure rfl rfl rfl rfl rfl rfl ?_
    refine D.done [(0, [], _), (3, [], _), (6, [], _), (16, [], _), (17, [], _), (18, [], _)] ⟨rfl, rfl, rfl, rfl, rfl, rfl, trivial⟩ (hR _ _ _ rfl ?_); clear hR hB R
    refine G.region rfl (fun R hR => ?_)
    iterate 7 refine D.pure rfl rfl rfl rfl rfl rfl ?_
    refine D.i64 _ rfl rfl rfl rfl rfl (by omega) (by omega) rfl rfl ?_
    iterate 2 refine D.pure rfl rfl rfl rfl rfl rfl ?_
    refine D.pickOr rfl rfl rfl rfl rfl rfl rfl rfl ?_
    refine D.pickAnd rfl rfl rfl rfl rfl rfl rfl rfl ?_
    refine D.done [(0, [], _), (3, [], _), (6, [], _), (16, [], _), (17, [], _), (18, [], _), (41, [], _)] ⟨rfl, rfl, rfl, rfl, rfl, rfl, rfl, trivial⟩ (hR _ _ _ rfl ?_); clear hR R
    refine G.cond rfl (fun h41 => ?_) (fun h41 => ?_)
    · skip
      have h41' : 0 ≤ dAt d a.up ∧ (least = 0 ∨ dAt d a.up + 1 < least) := by simpa using h41
      refine G.region rfl (fun R hR => ?_)
      refine D.pure rfl rfl rfl rfl rfl rfl ?_
      refine D.i64 ((((dAt d a.up).toNat + 1 : Nat) : Int)) rfl rfl rfl rfl (by omega) (by omega) (by omega) rfl rfl ?_
      refine D.pure rfl rfl rfl rfl rfl rfl ?_
      refine D.done [(0, [], _), (3, [], _), (16, [], _), (17, [], _), (18, [], _)] ⟨rfl, rfl, rfl, rfl, rfl, trivial⟩ (hR _ _ _ rfl ?_); clear hR R
      refine G.region rfl (fun R hR => ?_)
      refine D.i64 _ rfl rfl rfl rfl rfl (by omega) (by omega) rfl rfl ?_
      refine D.pure rfl rfl rfl rfl rfl rfl ?_
      refine D.done [(0, [], _), (3, [], _), (16, [], _), (17, [], _), (18, [], _)] ⟨rfl, rfl, rfl, rfl, rfl, trivial⟩ (hR _ _ _ rfl ?_); clear hR R
      refine G.dropE 0 rfl ?_
      refine G.again (m' := A.length - (k + 1)) (by omega) (by (repeat (first | exact Mem.le.refl _ | assumption | (apply Mem.le.trans; rotate_left; assumption)))) (fr' := [(0, [], _), (3, [], _), (16, [], _), (17, [], _), (18, [], _)]) ⟨rfl, rfl, rfl, rfl, rfl, trivial⟩ ⟨k + 1, (dAt d a.up).toNat + 1, ⟨by omega, by rw [htk]; exact hli.put hamem hd hup h41', by omega⟩, rfl, rfl, rfl⟩
    · skip
      have h41' : ¬ (0 ≤ dAt d a.up ∧ (least = 0 ∨ dAt d a.up + 1 < least)) := fun hh => by
        have : (false : Bool) = true := by rw [← h41]; simpa using hh
        cases this
      refine G.region rfl (fun R hR => ?_)
      refine D.i64 _ rfl rfl rfl rfl rfl (by omega) (by omega) rfl rfl ?_
      refine D.pure rfl rfl rfl rfl rfl rfl ?_
      refine D.done [(0, [], _), (3, [], _), (16, [], _), (17, [], _), (18, [], _)] ⟨rfl, rfl, rfl, rfl, rfl, trivial⟩ (hR _ _ _ rfl ?_); clear hR R
      refine G.dropE 0 rfl ?_
      refine G.again (m' := A.length - (k + 1)) (by omega) (by (repeat (first | exact Mem.le.refl _ | assumption | (apply Mem.le.trans; rotate_left; assumption)))) (fr' := [(0, [], _), (3, [], _), (16, [], _), (17, [], _), (18, [], _)]) ⟨rfl, rfl, rfl, rfl, rfl, trivial⟩ ⟨k + 1, least, ⟨by omega, by rw [htk]; exact hli.keep hd hup h41', hlb⟩, rfl, rfl, rfl⟩
  · skip
    simp only [decide_eq_false_iff_not] at h19
    have hkl : k = A.length := by omega
    subst hkl
    rw [List.take_length] at hli
    have hmin := hli.min
    refine G.region rfl (fun R hR => ?_)
    iterate 3 refine D.pure rfl rfl rfl rfl rfl rfl ?_
    refine D.loadP0 (PtrTo.block (Mem.get hobj (by (repeat (first | exact Mem.le.refl _ | assumption | (apply Mem.le.trans; rotate_left; assumption))))) _) rfl rfl rfl rfl rfl rfl rfl rfl ?_
    iterate 2 refine D.pure rfl rfl rfl rfl rfl rfl ?_
    refine D.done [(0, [], _), (3, [], _), (48, [], _), (49, [], _), (50, [], _)] ⟨rfl, rfl, rfl, rfl, rfl, trivial⟩ (hR _ _ _ rfl ?_); clear hR R
    refine G.loop (fun fr C' L' μ => ∃ (k : Nat), (k ≤ A.length ∧ ∀ x ∈ A.take k, ∀ r, Cyc A (x :: r) → ¬ r.length + 1 = least) ∧ fr = [(0, [], .pointer (some ⟨b, 0, none⟩)), (3, [], .int .i64 least), (48, [], .slice Aa A.length ca), (49, [], .int .i64 A.length), (50, [], .int .i64 k)] ∧ L' = [] ∧ μ = A.length - k) (fr' := [(0, [], _), (3, [], _), (48, [], _), (49, [], _), (50, [], _)]) ⟨rfl, rfl, rfl, rfl, rfl, trivial⟩ ⟨0, ⟨Nat.zero_le _, fun x hx => by simp at hx⟩, rfl, rfl, rfl⟩ (fun fr C1' L1' m hle1 hI => ?_)
    obtain ⟨k, ⟨hk, hno⟩, rfl, rfl, rfl⟩ := hI
    refine G.region rfl (fun R hR => ?_)
    refine D.pure rfl rfl rfl rfl rfl rfl ?_
    refine D.done [(0, [], _), (3, [], _), (48, [], _), (49, [], _), (50, [], _), (51, [], _)] ⟨rfl, rfl, rfl, rfl, rfl, rfl, trivial⟩ (hR _ _ _ rfl ?_); clear hR R
    refine G.cond rfl (fun h51 => ?_) (fun h51 => ?_)
    · skip
      simp only [decide_eq_true_eq] at h51
      have hkl : k < A.length := by omega
      obtain ⟨a, ha⟩ : ∃ a, A[k]? = some a := ⟨A[k], List.getElem?_eq_getElem hkl⟩
      have hamem : a ∈ A := List.mem_of_getElem? ha
      obtain ⟨hlo, hup⟩ := hb a hamem
      have htk : A.take (k + 1) = A.take k ++ [a] := by rw [List.take_add_one, ha]; rfl
      refine G.region rfl (fun R hR => ?_)
      refine D.index0 (harcs.mono (by (repeat (first | exact Mem.le.refl _ | assumption | (apply Mem.le.trans; rotate_left; assumption))))) rfl rfl rfl rfl rfl rfl rfl rfl rfl rfl (by omega) (row := Arc3.enc a) (by simp [ha]) (fun _ => rfl) (fun p52 hp52 => ?_)
      refine D.loadP0 hp52 rfl rfl rfl rfl rfl rfl rfl rfl ?_
      refine D.alloc rfl rfl rfl rfl rfl (fun _ => rfl) (fun b8 => ?_)
      refine D.store (j := 0) rfl rfl rfl rfl rfl rfl rfl rfl rfl rfl rfl rfl ?_
      refine D.done [(0, [], _), (3, [], _), (8, [], _), (48, [], _), (49, [], _), (50, [], _)] ⟨rfl, rfl, rfl, rfl, rfl, rfl, trivial⟩ (hR _ _ _ rfl ?_); clear hR R
      refine G.region rfl (fun R hR => ?_)
      iterate 2 refine D.pure rfl rfl rfl rfl rfl rfl ?_
      refine D.loadL (.head _) rfl rfl rfl rfl rfl rfl rfl rfl rfl ?_
      refine D.pure rfl rfl rfl rfl rfl rfl ?_
      refine D.loadL (.head _) rfl rfl rfl rfl rfl rfl rfl rfl rfl ?_
      refine D.callP (distances_fn _ _ N A a.lo a.i (hgr.mono (by (repeat (first | exact Mem.le.refl _ | assumption | (apply Mem.le.trans; rotate_left; assumption))))) hlo hb hAl hNl) rfl rfl rfl rfl rfl rfl rfl (fun _ => rfl) (fun v59 C59 hle59 hq59 => ?_)
      obtain ⟨d, hd, hdb, hds⟩ := hq59
      rw [aboveI_nat] at hd
      obtain ⟨Ad, cd, rfl, _⟩ := id hds
      have hdl := hd.1
      have hdu := hdb a.up (by omega)
      refine D.alloc rfl rfl rfl rfl rfl (fun _ => rfl) (fun b9 => ?_)
      refine D.store (j := 0) rfl rfl rfl rfl rfl rfl rfl rfl rfl rfl rfl rfl ?_
      refine D.done [(0, [], _), (3, [], _), (8, [], _), (9, [], _), (48, [], _), (49, [], _), (50, [], _)] ⟨rfl, rfl, rfl, rfl, rfl, rfl, rfl, trivial⟩ (hR _ _ _ rfl ?_); clear hR R
      refine G.region rfl (fun R hR => ?_)
      iterate 3 refine D.pure rfl rfl rfl rfl rfl rfl ?_
      refine D.loadL (.head _) rfl rfl rfl rfl rfl rfl rfl rfl rfl ?_
      refine D.pure rfl rfl rfl rfl rfl rfl ?_
      refine D.loadL (.tail _ (.head _)) rfl rfl rfl rfl rfl rfl rfl rfl rfl ?_
      refine D.index rfl rfl rfl rfl rfl rfl rfl rfl rfl rfl (fun hg => ⟨(hds.mono (by (repeat (first | exact Mem.le.refl _ | assumption | (apply Mem.le.trans; rotate_left; assumption))))), by omega, (ints_row (u := a.up) (by omega))⟩) (fun _ => rfl) rfl (fun p66 hp66 => ?_)
      refine D.loadP rfl rfl rfl rfl rfl rfl hp66 rfl rfl rfl ?_
      refine D.pure rfl rfl rfl rfl rfl rfl ?_
      refine D.i64 _ rfl rfl rfl rfl rfl (by omega) (by omega) rfl rfl ?_
      refine D.pure rfl rfl rfl rfl rfl rfl ?_
      refine D.pickOr rfl rfl rfl rfl rfl rfl rfl rfl ?_
      refine D.done [(0, [], _), (3, [], _), (8, [], _), (9, [], _), (48, [], _), (49, [], _), (50, [], _), (71, [], _)] ⟨rfl, rfl, rfl, rfl, rfl, rfl, rfl, rfl, trivial⟩ (hR _ _ _ rfl ?_); clear hR R
      refine G.cond rfl (fun h71 => ?_) (fun h71 => ?_)
      · skip
        have h71' : least = 0 ∨ ¬ dAt d a.up = (least : Int) - 1 := by simpa using h71
        refine G.region rfl (fun R hR => ?_)
        refine D.i64 _ rfl rfl rfl rfl rfl (by omega) (by omega) rfl rfl ?_
        refine D.pure rfl rfl rfl rfl rfl rfl ?_
        refine D.done [(0, [], _), (3, [], _), (48, [], _), (49, [], _), (50, [], _)] ⟨rfl, rfl, rfl, rfl, rfl, trivial⟩ (hR _ _ _ rfl ?_); clear hR R
        refine G.dropE 0 rfl (G.dropE 0 rfl ?_)
        refine G.again (m' := A.length - (k + 1)) (by omega) (by (repeat (first | exact Mem.le.refl _ | assumption | (apply Mem.le.trans; rotate_left; assumption)))) (fr' := [(0, [], _), (3, [], _), (48, [], _), (49, [], _), (50, [], _)]) ⟨rfl, rfl, rfl, rfl, rfl, trivial⟩ ⟨k + 1, ⟨by omega, fun x hx r hc hl => by
          rw [htk] at hx
          rcases List.mem_append.1 hx with h | h
          · exact hno x h r hc hl
          · rw [List.mem_singleton.1 h] at hc
            have := cyc_dist hamem hmin hd hup hc hl
            omega⟩, rfl, rfl, rfl⟩
      · skip
        have h71' : ¬ (least = 0 ∨ ¬ dAt d a.up = (least : Int) - 1) := fun hh => by
          have : (false : Bool) = true := by rw [← h71]; simpa using hh
          cases this
        obtain ⟨m0, hm0⟩ : ∃ m0, least = m0 + 1 := ⟨least - 1, by omega⟩
        have hdm : dAt d a.up = (m0 : Int) := by omega
        refine G.freeze 0 rfl (fun Cx hlex hb9 => ?_)
        refine G.freeze 0 rfl (fun Cy hley hb8 => ?_)
        have henv : Env1 Cy a d b8 b9 := ⟨hb8, _, Mem.get hb9 (by (repeat (first | exact Mem.le.refl _ | assumption | (apply Mem.le.trans; rotate_left; assumption)))), hds.mono (by (repeat (first | exact Mem.le.refl _ | assumption | (apply Mem.le.trans; rotate_left; assumption))))⟩
        refine G.region rfl (fun R hR => ?_)
        refine D.pure rfl rfl rfl rfl rfl rfl ?_
        refine D.loadP0 (PtrTo.block (Mem.get hb8 (by (repeat (first | exact Mem.le.refl _ | assumption | (apply Mem.le.trans; rotate_left; assumption))))) _) rfl rfl rfl rfl rfl rfl rfl rfl ?_
        refine D.buildArr [[.int .i64 a.i]] rfl rfl rfl rfl rfl rfl rfl rfl rfl rfl rfl rfl (fun _ => rfl) (fun b74 => ?_)
        refine D.pure rfl rfl rfl rfl rfl rfl ?_
        refine D.done [(0, [], _), (8, [], _), (9, [], _), (10, [], _)] ⟨rfl, rfl, rfl, rfl, trivial⟩ (hR _ _ _ rfl ?_); clear hR R
        refine G.region rfl (fun R hR => ?_)
        refine D.pure rfl rfl rfl rfl rfl rfl ?_
        refine D.loadP0 (PtrTo.block (Mem.get hb8 (by (repeat (first | exact Mem.le.refl _ | assumption | (apply Mem.le.trans; rotate_left; assumption))))) _) rfl rfl rfl rfl rfl rfl rfl rfl ?_
        refine D.alloc rfl rfl rfl rfl rfl (fun _ => rfl) (fun b11 => ?_)
        refine D.store (j := 0) rfl rfl rfl rfl rfl rfl rfl rfl rfl rfl rfl rfl ?_
        refine D.done [(0, [], _), (8, [], _), (9, [], _), (10, [], _), (11, [], _)] ⟨rfl, rfl, rfl, rfl, rfl, trivial⟩ (hR _ _ _ rfl ?_); clear hR R
        refine G.loop (fun fr C' L' μ => ∃ (p : List Arc3) (at_ b11 : Nat) (w : Value), (Greedy (above A a.i) a.up a.lo m0 p at_ ∧ (p.length : Int) + dAt d at_ = m0 ∧ at_ < N.length ∧ 0 ≤ dAt d at_) ∧ fr = [(0, [], .pointer (some ⟨b, 0, none⟩)), (8, [], .pointer (some ⟨b8, 0, none⟩)), (9, [], .pointer (some ⟨b9, 0, none⟩)), (10, [], w), (11, [], .pointer (some ⟨b11, 0, none⟩))] ∧ L' = [.obj b11 (.cells ⟨[.int .i64 at_]⟩ 3 (0, 0)), .arr w 3 1 (p.length + 1) ((nums (a :: p)).map intN)] ∧ μ = (dAt d at_).toNat) (fr' := [(0, [], _), (8, [], _), (9, [], _), (10, [], _), (11, [], _)]) ⟨rfl, rfl, rfl, rfl, rfl, trivial⟩ ⟨[], a.up, b11, _, ⟨Greedy.start, by simp; omega, hup, by omega⟩, rfl, rfl, rfl⟩ (fun fr C2' L2' m hle2 hI => ?_)
        obtain ⟨p, at_, b11, w, ⟨hgd, hgm, hat2, hpos⟩, rfl, rfl, rfl⟩ := hI
        refine G.region rfl (fun R hR => ?_)
        refine D.loadL (.head _) rfl rfl rfl rfl rfl rfl rfl rfl rfl ?_
        refine D.pure rfl rfl rfl rfl rfl rfl ?_
        refine D.loadP0 (PtrTo.block (Mem.get hb8 (by (repeat (first | exact Mem.le.refl _ | assumption | (apply Mem.le.trans; rotate_left; assumption))))) _) rfl rfl rfl rfl rfl rfl rfl rfl ?_
        refine D.pure rfl rfl rfl rfl rfl rfl ?_
        refine D.done [(0, [], _), (8, [], _), (9, [], _), (10, [], _), (11, [], _), (80, [], _)] ⟨rfl, rfl, rfl, rfl, rfl, rfl, trivial⟩ (hR _ _ _ rfl ?_); clear hR R
        refine G.cond rfl (fun h80 => ?_) (fun h80 => ?_)
        · skip
          have hne0 : ¬ (at_ : Int) = a.lo := by simpa using h80
          have hne : at_ ≠ a.lo := by omega
          obtain ⟨j, b2, hbj, hbo, hbz, hbu, hbp, hbd, hgd2, hgm2⟩ := greedy_next hok.ix hb hd hat2 hne hpos hgd hgm
          have hidx : idxArc a d at_ (nexts A at_) 0 = (j : Int) := by rw [idxArc_hit hbj hbo hbz, Nat.zero_add]
          obtain ⟨v, hv⟩ : ∃ v, vs[at_]? = some v := ⟨vs[at_]'(by omega), List.getElem?_eq_getElem (by omega)⟩
          have hvr := hrows at_ v hv
          obtain ⟨Av, cv, rfl, _⟩ := id hvr
          simp only [List.length_map] at hvr hv
          have hnl : (nexts A at_).length ≤ A.length := List.length_filter_le _ _
          have hjl : j < (nexts A at_).length := (List.getElem?_eq_some_iff.1 hbj).1
          have hpl : p.length ≤ 1000000 := by have := hdb at_ (by omega); omega
          have hrv : (vs.map fun v => [v])[at_]? = some [Value.slice Av (nexts A at_).length cv] := by rw [List.getElem?_map, hv]; rfl
          have hrb : ((nexts A at_).map Arc3.enc)[j]? = some (Arc3.enc b2) := by rw [List.getElem?_map, hbj]; rfl
          refine G.draw [0, 1, 2, 3, 4, 5, 6, 7, 8, 9] [(8, 3)] rfl (by kernel_rfl) (fun R hB hR => ?_)
          iterate 3 refine D.pure rfl rfl rfl rfl rfl rfl ?_
          refine D.loadP0 (PtrTo.block (Mem.get hobj (by (repeat (first | exact Mem.le.refl _ | assumption | (apply Mem.le.trans; rotate_left; assumption))))) _) rfl rfl rfl rfl rfl rfl rfl rfl ?_
          refine D.loadL (.head _) rfl rfl rfl rfl rfl rfl rfl rfl rfl ?_
          refine D.index0 (hnx.mono (by (repeat (first | exact Mem.le.refl _ | assumption | (apply Mem.le.trans; rotate_left; assumption))))) rfl rfl rfl rfl rfl rfl rfl rfl rfl rfl (by omega) hrv (fun _ => rfl) (fun p86 hp86 => ?_)
          refine D.loadP0 hp86 rfl rfl rfl rfl rfl rfl rfl rfl ?_
          refine D.pure rfl rfl rfl rfl rfl rfl ?_
          refine D.call (indexFunc_fn _ _ a (nexts A at_) d at_ b8 b9 b11 (henv.mono (by (repeat (first | exact Mem.le.refl _ | assumption | (apply Mem.le.trans; rotate_left; assumption))))) (hvr.mono (by (repeat (first | exact Mem.le.refl _ | assumption | (apply Mem.le.trans; rotate_left; assumption))))) (by omega) (by omega) (fun x hx => by rw [hdl]; exact (hb x (mem_nexts.1 hx).1).2) hdb) rfl (.inr (by decide)) rfl rfl rfl rfl rfl rfl (List.Perm.refl _) (fun _ => rfl) (fun v89 C89 L89 hle89 hq89 => ?_)
          refine D.pure rfl rfl rfl rfl rfl rfl ?_
          obtain ⟨rfl, rfl⟩ := hq89
          rw [hidx]
          refine D.done [(0, [], _), (8, [], _), (9, [], _), (10, [], _), (11, [], _), (12, [], _)] ⟨rfl, rfl, rfl, rfl, rfl, rfl, trivial⟩ (hR _ _ _ rfl ?_); clear hR hB R
          refine G.eqL (L' := [.obj b11 (.cells ⟨[.int .i64 at_]⟩ 3 (0, 0)), .arr w 3 1 (p.length + 1) ((nums (a :: p)).map intN)]) rfl ?_
          refine G.draw [0, 1, 2, 3, 4, 5, 6, 7, 8, 9, 10, 11, 12, 13, 14] [] rfl (by kernel_rfl) (fun R hB hR => ?_)
          iterate 4 refine D.pure rfl rfl rfl rfl rfl rfl ?_
          refine D.loadP0 (PtrTo.block (Mem.get hobj (by (repeat (first | exact Mem.le.refl _ | assumption | (apply Mem.le.trans; rotate_left; assumption))))) _) rfl rfl rfl rfl rfl rfl rfl rfl ?_
          refine D.loadL (.head _) rfl rfl rfl rfl rfl rfl rfl rfl rfl ?_
          refine D.index0 (hnx.mono (by (repeat (first | exact Mem.le.refl _ | assumption | (apply Mem.le.trans; rotate_left; assumption))))) rfl rfl rfl rfl rfl rfl rfl rfl rfl rfl (by omega) hrv (fun _ => rfl) (fun p96 hp96 => ?_)
          refine D.loadP0 hp96 rfl rfl rfl rfl rfl rfl rfl rfl ?_
          refine D.pure rfl rfl rfl rfl rfl rfl ?_
          refine D.index0 (hvr.mono (by (repeat (first | exact Mem.le.refl _ | assumption | (apply Mem.le.trans; rotate_left; assumption))))) rfl rfl rfl rfl rfl rfl rfl rfl rfl rfl (by omega) hrb (fun _ => rfl) (fun p99 hp99 => ?_)
          refine D.fieldP0 hp99 rfl rfl rfl rfl rfl rfl rfl rfl rfl rfl (fun _ => rfl) (fun p100 hp100 => ?_)
          refine D.loadP0 hp100 rfl rfl rfl rfl rfl rfl rfl rfl ?_
          refine D.buildSlice [[.int .i64 b2.i]] rfl rfl rfl rfl rfl rfl rfl rfl rfl rfl rfl rfl (fun _ => rfl) (fun p102 C102 hle102 hs102 => ?_)
          refine D.append (j := 1) rfl rfl rfl rfl rfl rfl rfl rfl rfl rfl rfl hs102 rfl (by simp only [List.length_singleton, maxLen]; omega) (by simp only [List.length_singleton]; omega) (fun _ => rfl) (fun v103 => ?_)
          refine D.pure rfl rfl rfl rfl rfl rfl ?_
          refine D.done [(0, [], _), (8, [], _), (9, [], _), (10, [], _), (11, [], _), (12, [], _)] ⟨rfl, rfl, rfl, rfl, rfl, rfl, trivial⟩ (hR _ _ _ rfl ?_); clear hR hB R
          refine G.draw [0, 1, 2, 3, 4, 5, 6, 7, 8, 9, 10, 11] [] rfl (by kernel_rfl) (fun R hB hR => ?_)
          iterate 3 refine D.pure rfl rfl rfl rfl rfl rfl ?_
          refine D.loadP0 (PtrTo.block (Mem.get hobj (by (repeat (first | exact Mem.le.refl _ | assumption | (apply Mem.le.trans; rotate_left; assumption))))) _) rfl rfl rfl rfl rfl rfl rfl rfl ?_
          refine D.loadL (.tail _ (.head _)) rfl rfl rfl rfl rfl rfl rfl rfl rfl ?_
          refine D.index0 (hnx.mono (by (repeat (first | exact Mem.le.refl _ | assumption | (apply Mem.le.trans; rotate_left; assumption))))) rfl rfl rfl rfl rfl rfl rfl rfl rfl rfl (by omega) hrv (fun _ => rfl) (fun p109 hp109 => ?_)
          refine D.loadP0 hp109 rfl rfl rfl rfl rfl rfl rfl rfl ?_
          refine D.pure rfl rfl rfl rfl rfl rfl ?_
          refine D.index0 (hvr.mono (by (repeat (first | exact Mem.le.refl _ | assumption | (apply Mem.le.trans; rotate_left; assumption))))) rfl rfl rfl rfl rfl rfl rfl rfl rfl rfl (by omega) hrb (fun _ => rfl) (fun p112 hp112 => ?_)
          refine D.fieldP0 hp112 rfl rfl rfl rfl rfl rfl rfl rfl rfl rfl (fun _ => rfl) (fun p113 hp113 => ?_)
          refine D.loadP0 hp113 rfl rfl rfl rfl rfl rfl rfl rfl ?_
          refine D.store (j := 1) rfl rfl rfl rfl rfl rfl rfl rfl rfl rfl rfl rfl ?_
          refine D.done [(0, [], _), (8, [], _), (9, [], _), (10, [], _), (11, [], _)] ⟨rfl, rfl, rfl, rfl, rfl, trivial⟩ (hR _ _ _ rfl ?_); clear hR hB R
          refine G.region rfl (fun R hR => ?_)
          refine D.loadL (.head _) rfl rfl rfl rfl rfl rfl rfl rfl rfl ?_
          refine D.done [(0, [], _), (8, [], _), (9, [], _), (10, [], _), (115, [], _)] ⟨rfl, rfl, rfl, rfl, rfl, trivial⟩ (hR _ _ _ rfl ?_); clear hR R
          refine G.region rfl (fun R hR => ?_)
          refine D.alloc rfl rfl rfl rfl rfl (fun _ => rfl) (fun b11 => ?_)
          refine D.store (j := 0) rfl rfl rfl rfl rfl rfl rfl rfl rfl rfl rfl rfl ?_
          refine D.done [(0, [], _), (8, [], _), (9, [], _), (10, [], _), (11, [], _)] ⟨rfl, rfl, rfl, rfl, rfl, trivial⟩ (hR _ _ _ rfl ?_); clear hR R
          refine G.dropE 1 rfl ?_
          refine G.eqL (L' := [.obj b11 (.cells ⟨[.int .i64 b2.up]⟩ 3 (0, 0)), .arr v103 3 1 ((p ++ [b2]).length + 1) ((nums (a :: (p ++ [b2]))).map intN)]) (by simp [nums]; rfl) ?_
          refine G.again (m' := (dAt d b2.up).toNat) (by omega) (by (repeat (first | exact Mem.le.refl _ | assumption | (apply Mem.le.trans; rotate_left; assumption)))) (fr' := [(0, [], _), (8, [], _), (9, [], _), (10, [], _), (11, [], _)]) ⟨rfl, rfl, rfl, rfl, rfl, trivial⟩ ⟨p ++ [b2], b2.up, b11, v103, ⟨hgd2, hgm2, hbu, hbp⟩, rfl, rfl, rfl⟩
        · skip
          have hate0 : (at_ : Int) = a.lo := by simpa using h80
          have hate : at_ = a.lo := by omega
          subst hate
          refine G.region rfl (fun R hR => ?_)
          iterate 2 refine D.pure rfl rfl rfl rfl rfl rfl ?_
          refine D.done [(2, [], _)] ⟨rfl, trivial⟩ (hR _ _ _ rfl ?_); clear hR R
          refine G.dropE 0 rfl ?_
          refine G.eqL (L' := [.arr w 3 1 (p.length + 1) ((nums (a :: p)).map encN).flatten]) (by rw [show ((nums (a :: p)).map encN).flatten = (nums (a :: p)).map intN from flatten_map1 intN _]; rfl) ?_
          refine G.freezeArr 0 ((nums (a :: p)).map encN) rfl rfl (by intro r hr; obtain ⟨y, _, rfl⟩ := List.mem_map.1 hr; rfl) (by simp [nums]) (fun Cf hf hsd => ?_)
          refine G.retN (G.dropAll (G.fin1 rfl rfl ?_))
          refine ⟨rfl, .inr ⟨a :: p, ?_⟩⟩
          have hsd0 := hsd
          obtain ⟨Aw, cw, rfl, _, _, _, hcl⟩ := hsd0
          obtain ⟨ad, rfl, _⟩ := hcl 0 _ rfl
          have hpz : p.length = m0 := by
            rcases hd.2 a.lo (by omega) with ⟨e1, _⟩ | ⟨k1, e1, _, hk1⟩
            · omega
            · have := hk1 0 (Walk.zero.2 rfl); omega
          refine ⟨ad, _, cw, leastCyc_of_greedy hamem hok.ix.inj hgd hpz (fun k1 w1 h1 h2 => by have := hmin k1 w1 h1 h2; omega) (fun b1 hb1 r1 hc1 hl1 => ?_), rfl, hsd⟩
          exact hok.ix.le ha hb1 (fun hm' => hno b1 hm' r1 hc1 (by omega))
    · skip
      simp only [decide_eq_false_iff_not] at h51
      have hkl : k = A.length := by omega
      subst hkl
      rw [List.take_length] at hno
      refine G.region rfl (fun R hR => ?_)
      refine D.pure rfl rfl rfl rfl rfl rfl ?_
      refine D.done [(2, [], _)] ⟨rfl, trivial⟩ (hR _ _ _ rfl ?_); clear hR R
      refine G.retN (G.dropAll (G.fin1 rfl rfl ?_))
      refine ⟨rfl, .inl ⟨rfl, fun k w hk hw => ?_⟩⟩
      obtain ⟨q, hq, hqm, _⟩ := cyc_of_walk hk hw hok.ix.inj
      obtain ⟨a, r, rfl, hi, _⟩ := id hq
      have h1 := hmin k w hk hw
      obtain ⟨a1, ha1, j, hj, hjl⟩ := hli.2 (by omega)
      have h2 := hqm (j + 1) a1.lo (by omega) (Walk.succ.2 ⟨a1, ha1, rfl, hj⟩)
      obtain ⟨w2, hw2, hw3⟩ := hq.walk
      have h3 := hmin _ _ hw2 hw3
      simp only [List.length_cons] at h2 h3
      exact hno a (hi a (by simp)) r hq (by omega)
end Go.Proofs.YtjcienaflbhedaaGreatDoor
namespace Go.Proofs.YtjcienaflbhedaaGreatDoor
open Go Go.Jog
set_option maxRecDepth 100000

end Go.Proofs.YtjcienaflbhedaaGreatDoor
namespace Go.Proofs.YtjcienaflbhedaaGreatDoor
open Go Go.Jog
set_option maxRecDepth 100000

end Go.Proofs.YtjcienaflbhedaaGreatDoor
namespace Go.Proofs.YtjcienaflbhedaaGreatDoor
open Go Go.Jog
set_option maxRecDepth 100000

theorem hAt_set {l : List Nat} {u v x : Nat} (h : u < l.length) : hAt (l.set u x) v = if v = u then x else hAt l v := by
  unfold hAt
  simp only [List.getD_eq_getElem?_getD, List.getElem?_set]
  by_cases e : u = v
  · subst e; simp [h]
  · rw [if_neg e, if_neg (Ne.symm e)]
end Go.Proofs.YtjcienaflbhedaaGreatDoor
namespace Go.Proofs.YtjcienaflbhedaaGreatDoor
open Go Go.Jog
set_option maxRecDepth 100000

def upC (T : List Arc3) (u : Nat) : Nat := T.countP fun a => decide (a.up = u)
theorem upC_snoc {T : List Arc3} {a : Arc3} {u : Nat} : upC (T ++ [a]) u = upC T u + (if a.up = u then 1 else 0) := by
  unfold upC
  rw [List.countP_append, List.countP_cons, List.countP_nil, Nat.zero_add]
  simp
structure Inner (A : List Arc3) (n : Nat) (dn l2 : List Nat) (T : List Arc3) (cs l3 : List Nat) : Prop where
  cl : cs.length = n
  ct : ∀ u, u < n → hAt cs u + upC T u = cnt A dn u
  nd : l3.Nodup
  mem : ∀ u, u ∈ l3 ↔ u ∈ l2 ∨ (u < n ∧ hAt cs u = 0 ∧ 0 < cnt A dn u)
theorem Inner.start {A : List Arc3} {n : Nat} {dn l2 cs : List Nat} (hc : cs.length = n) (h : ∀ u, u < n → hAt cs u = cnt A dn u) (hn : l2.Nodup) : Inner A n dn l2 [] cs l2 :=
  ⟨hc, fun u hu => by rw [h u hu]; simp [upC], hn, fun u => ⟨.inl, fun h2 => h2.elim id (fun ⟨h3, h4, h5⟩ => by rw [h u h3] at h4; omega)⟩⟩
theorem Inner.pos {A : List Arc3} {n i k : Nat} {dn l2 cs l3 : List Nat} {a : Arc3} (h : Inner A n dn l2 ((nexts A i).take k) cs l3) (ha : (nexts A i)[k]? = some a) (hi : i ∉ dn) (hn : a.up < n) : 1 ≤ hAt cs a.up := by
  have h1 := h.ct a.up hn
  have h2 := cnt_snoc (A := A) (u := a.up) hi
  have h3 : upC ((nexts A i).take (k + 1)) a.up ≤ upC (nexts A i) a.up := (List.take_sublist _ _).countP_le
  rw [List.take_add_one, ha] at h3
  have h4 := upC_snoc (T := (nexts A i).take k) (a := a) (u := a.up)
  rw [if_pos rfl] at h4
  have h5 : upC ((nexts A i).take k ++ (some a).toList) a.up = upC ((nexts A i).take k) a.up + 1 := h4
  rw [h5] at h3
  have h6 : (nexts A i).countP (fun b => decide (b.up = a.up)) = upC (nexts A i) a.up := rfl
  omega
theorem Inner.step {A : List Arc3} {n : Nat} {dn l2 cs l3 l4 : List Nat} {T : List Arc3} {a : Arc3} (h : Inner A n dn l2 T cs l3) (hn : a.up < n) (hp : 1 ≤ hAt cs a.up) (hz : ∀ u ∈ l2, cnt A dn u = 0)
    (hl : (hAt cs a.up ≠ 1 ∧ l4 = l3) ∨ (hAt cs a.up = 1 ∧ l4.Perm (a.up :: l3))) : Inner A n dn l2 (T ++ [a]) (cs.set a.up (hAt cs a.up - 1)) l4 := by
  have hcl := h.cl
  have hset : ∀ u, hAt (cs.set a.up (hAt cs a.up - 1)) u = if u = a.up then hAt cs a.up - 1 else hAt cs u := fun u => hAt_set (by omega)
  have hca := h.ct a.up hn
  have hnl : a.up ∉ l3 := fun hm => by
    rcases (h.mem a.up).1 hm with h1 | ⟨_, h1, _⟩
    · have := hz _ h1; omega
    · omega
  refine ⟨by simp [hcl], fun u hu => ?_, ?_, fun u => ?_⟩
  · rw [hset, upC_snoc]
    have := h.ct u hu
    by_cases e : u = a.up
    · subst e; rw [if_pos rfl, if_pos rfl]; omega
    · rw [if_neg e, if_neg (Ne.symm e)]; omega
  · rcases hl with ⟨_, rfl⟩ | ⟨_, hl⟩
    · exact h.nd
    · exact hl.nodup_iff.2 (List.nodup_cons.2 ⟨hnl, h.nd⟩)
  · rw [hset]
    rcases hl with ⟨h1, rfl⟩ | ⟨h1, hl⟩
    · rw [h.mem]
      by_cases e : u = a.up
      · subst e
        rw [if_pos rfl]
        constructor
        · rintro (h2 | ⟨_, h2, _⟩)
          · exact .inl h2
          · omega
        · rintro (h2 | ⟨_, h2, _⟩)
          · exact .inl h2
          · omega
      · rw [if_neg e]
    · rw [hl.mem_iff, List.mem_cons, h.mem]
      by_cases e : u = a.up
      · subst e
        rw [if_pos rfl]
        exact ⟨fun _ => .inr ⟨hn, by omega, by omega⟩, fun _ => .inl rfl⟩
      · rw [if_neg e]
        exact ⟨fun h2 => h2.elim (fun e2 => absurd e2 e) id, .inr⟩
theorem Inner.done {A : List Arc3} {n i : Nat} {dn l l2 cs l3 : List Nat} (h : Inner A n dn l2 (nexts A i) cs l3) (hk : Kahn A n dn l) (hp : (i :: l2).Perm l) (hmin : ∀ u ∈ l, i ≤ u) :
    Kahn A n (dn ++ [i]) l3 ∧ ∀ u, u < n → hAt cs u = cnt A (dn ++ [i]) u := by
  have hil : i ∈ l := hp.mem_iff.1 (by simp)
  obtain ⟨hin, hid, hic⟩ := (hk.av i).1 hil
  have hnd : (i :: l2).Nodup := hp.nodup_iff.2 hk.avnd
  rw [List.nodup_cons] at hnd
  have hcs : ∀ u, u < n → hAt cs u = cnt A (dn ++ [i]) u := fun u hu => by
    have h1 := h.ct u hu
    have h2 := cnt_snoc (A := A) (u := u) hid
    have h3 : (nexts A i).countP (fun b => decide (b.up = u)) = upC (nexts A i) u := rfl
    omega
  have hl2 : ∀ u, u ∈ l2 ↔ u ∈ l ∧ u ≠ i := fun u => by
    rw [← hp.mem_iff, List.mem_cons]
    constructor
    · intro h1; exact ⟨.inr h1, fun e => hnd.1 (e ▸ h1)⟩
    · rintro ⟨h1 | h1, h2⟩
      · exact absurd h1 h2
      · exact h1
  refine ⟨hk.step hil hmin h.nd (fun u => ?_), hcs⟩
  rw [h.mem, hl2, hk.av]
  simp only [List.mem_append, List.mem_singleton, not_or]
  have hsn := cnt_snoc (A := A) (u := u) hid
  constructor
  · rintro (⟨⟨h1, h2, h3⟩, h4⟩ | ⟨h1, h2, h3⟩)
    · exact ⟨h1, ⟨h2, h4⟩, by omega⟩
    · refine ⟨h1, ⟨fun hm => ?_, fun e => by subst e; omega⟩, by rw [← hcs u h1]; exact h2⟩
      obtain ⟨pre, post, rfl⟩ := List.append_of_mem hm
      have : cnt A (pre ++ u :: post) u = 0 := cnt_zero.2 (fun a ha hu => by
        have := hk.ord pre u post rfl a ha hu
        simp [this])
      omega
  · rintro ⟨h1, ⟨h2, h3⟩, h4⟩
    by_cases e : cnt A dn u = 0
    · exact .inl ⟨⟨h1, h2, e⟩, h3⟩
    · exact .inr ⟨h1, by rw [hcs u h1]; exact h4, by omega⟩
end Go.Proofs.YtjcienaflbhedaaGreatDoor
namespace Go.Proofs.YtjcienaflbhedaaGreatDoor
open Go Go.Jog
set_option maxRecDepth 100000

end Go.Proofs.YtjcienaflbhedaaGreatDoor
namespace Go.Proofs.YtjcienaflbhedaaGreatDoor
open Go Go.Jog
set_option maxRecDepth 100000

end Go.Proofs.YtjcienaflbhedaaGreatDoor
namespace Go.Proofs.YtjcienaflbhedaaGreatDoor
open Go Go.Jog
set_option maxRecDepth 100000

def arcsOf (l : List Rel) : List Arc3 := arcs3 (unitsL l) l
theorem mem_arcAt {N : List Str} {l : List Rel} {i : Nat} {a : Arc3} : a ∈ arcAt N l i ↔ ∃ x, l[i]? = some x ∧ x.kind ≠ 4 ∧ a = ⟨i, posS N x.lower, posS N x.upper⟩ := by
  unfold arcAt
  cases h : l[i]? with
  | none => simp
  | some x => simp [mem_oneIf]
theorem mem_arcs3 {N : List Str} {l : List Rel} {a : Arc3} : a ∈ arcs3 N l ↔ ∃ x, l[a.i]? = some x ∧ x.kind ≠ 4 ∧ a = ⟨a.i, posS N x.lower, posS N x.upper⟩ := by
  unfold arcs3
  rw [mem_cat]
  constructor
  · rintro ⟨i, _, h⟩
    obtain ⟨x, h1, h2, rfl⟩ := mem_arcAt.1 h
    exact ⟨x, h1, h2, rfl⟩
  · rintro ⟨x, h1, h2, h3⟩
    exact ⟨a.i, (List.getElem?_eq_some_iff.1 h1).1, mem_arcAt.2 ⟨x, h1, h2, h3⟩⟩
theorem arcs3_ix {N : List Str} {l : List Rel} : Ix (arcs3 N l) := by
  refine cat_pairwise (fun i _ => ?_) (fun i j hij _ x hx y hy => ?_)
  · unfold arcAt
    split
    · unfold oneIf; split <;> simp
    · exact List.Pairwise.nil
  · obtain ⟨_, _, _, rfl⟩ := mem_arcAt.1 hx
    obtain ⟨_, _, _, rfl⟩ := mem_arcAt.1 hy
    exact hij
theorem gok_of {l : List Rel} (hl : l.length ≤ 100000) : GOk (unitsL l) (arcsOf l) := by
  refine ⟨fun a ha => ?_, arcs3_ix, ?_, ?_, fun a ha => ?_⟩
  · obtain ⟨x, h1, h2, h3⟩ := mem_arcs3.1 ha
    have hm := mem_units (List.mem_of_getElem? h1)
    rw [h3]
    exact ⟨posS_lt hm.1, posS_lt hm.2⟩
  · have := arcAt_len (unitsL l) l l.length
    have e : (arcsOf l).length = (cat (arcAt (unitsL l) l) l.length).length := rfl
    omega
  · have := unitsL_len l; omega
  · obtain ⟨x, h1, _⟩ := mem_arcs3.1 ha
    have := (List.getElem?_eq_some_iff.1 h1).1
    omega
theorem cycOut_form {C : Mem} {A : List Arc3} {u : Value} (h : CycOut C A u) : ∃ A' n c, u = .slice A' n c := by
  rcases h with ⟨h, _⟩ | ⟨q, ad, n, c, _, h, _⟩
  · exact ⟨_, _, _, h⟩
  · exact ⟨_, _, _, h⟩

def nilV : Value := .slice none 0 0
def CycRes (C : Mem) (l : List Rel) (r : Value) : Prop :=
  (errU l ≠ 0 ∧ r = .tuple #[nilV, .bool false, .int .i64 (errU l)]) ∨ (errU l = 0 ∧ Acyc (arcsOf l) ∧ r = .tuple #[nilV, .bool false, .int .i64 0]) ∨
  (errU l = 0 ∧ ∃ q v, LeastCyc (arcsOf l) q ∧ r = .tuple #[v, .bool true, .int .i64 0] ∧ Sl C 1 v ((nums q).map encN))
theorem cycle_fn (C : Mem) (v : Value) (l : List Rel) (hv : Sl C 3 v (l.map Rel.enc)) (hl : l.length ≤ 100000) (hsh : ∀ x ∈ l, x.short) : Pur cx.P 14 [v] C fun r C' => CycRes C' l r := by
  refine Fn.intro (by kernel_rfl) Tryz.func14 rfl 18 rfl rfl (fun w0 => ?_)
  refine G.region rfl (fun R hR => ?_)
  iterate 3 refine D.pure rfl rfl rfl rfl rfl rfl ?_
  refine D.done [(0, [], _)] ⟨rfl, trivial⟩ (hR _ _ _ rfl ?_); clear hR R
  refine G.region rfl (fun R hR => ?_)
  refine D.pure rfl rfl rfl rfl rfl rfl ?_
  refine D.gives2 (check_fn _ _ l hv hl hsh) rfl rfl rfl rfl rfl rfl rfl (fun _ => rfl) ?_
  refine D.pure rfl rfl rfl rfl rfl rfl ?_
  refine D.done [(0, [], _), (5, [], _)] ⟨rfl, rfl, trivial⟩ (hR _ _ _ rfl ?_); clear hR R
  refine G.region rfl (fun R hR => ?_)
  iterate 2 refine D.pure rfl rfl rfl rfl rfl rfl ?_
  refine D.done [(0, [], _), (5, [], _), (10, [], _)] ⟨rfl, rfl, rfl, trivial⟩ (hR _ _ _ rfl ?_); clear hR R
  refine G.cond rfl (fun h10 => ?_) (fun h10 => ?_)
  · skip
    have h10' : errU l ≠ 0 := by simpa using h10
    refine G.region rfl (fun R hR => ?_)
    iterate 4 refine D.pure rfl rfl rfl rfl rfl rfl ?_
    refine D.done [(2, [], _), (3, [], _), (4, [], _)] ⟨rfl, rfl, rfl, trivial⟩ (hR _ _ _ rfl ?_); clear hR R
    refine G.retN (G.dropAll (G.fin3 rfl rfl rfl rfl ?_))
    exact ⟨rfl, .inl ⟨h10', rfl⟩⟩
  · skip
    have h10' : errU l = 0 := by simpa using h10
    refine G.region rfl (fun R hR => ?_)
    refine D.pure rfl rfl rfl rfl rfl rfl ?_
    refine D.callP (build_fn _ _ l (hv.mono (by (repeat (first | exact Mem.le.refl _ | assumption | (apply Mem.le.trans; rotate_left; assumption))))) hl) rfl rfl rfl rfl rfl rfl rfl (fun _ => rfl) (fun v13 C13 hle13 hq13 => ?_)
    refine D.callP (gcycle_fn _ _ _ _ hq13 (gok_of hl)) rfl rfl rfl rfl rfl rfl rfl (fun _ => rfl) (fun v14 C14 hle14 hq14 => ?_)
    obtain ⟨Ac, nc, cc, rfl⟩ := cycOut_form hq14
    refine D.pure rfl rfl rfl rfl rfl rfl ?_
    refine D.done [(6, [], _)] ⟨rfl, trivial⟩ (hR _ _ _ rfl ?_); clear hR R
    refine G.region rfl (fun R hR => ?_)
    iterate 2 refine D.pure rfl rfl rfl rfl rfl rfl ?_
    refine D.nilNe rfl rfl rfl rfl rfl rfl rfl rfl rfl ?_
    iterate 3 refine D.pure rfl rfl rfl rfl rfl rfl ?_
    refine D.done [(2, [], _), (3, [], _), (4, [], _)] ⟨rfl, rfl, rfl, trivial⟩ (hR _ _ _ rfl ?_); clear hR R
    refine G.retN (G.dropAll (G.fin3 rfl rfl rfl rfl ?_))
    refine ⟨rfl, .inr ?_⟩
    rcases hq14 with ⟨h, hac⟩ | ⟨q, ad, n, c, hlc, h, hs⟩
    · cases h
      exact .inl ⟨h10', hac, rfl⟩
    · cases h
      exact .inr ⟨h10', q, _, hlc, rfl, hs⟩

end Go.Proofs.YtjcienaflbhedaaGreatDoor
namespace Go.Proofs.YtjcienaflbhedaaGreatDoor
open Go Go.Jog
set_option maxRecDepth 100000

theorem encN_I (l : List Nat) : l.map encN = (l.map fun n : Nat => (n : Int)).map encI := by rw [List.map_map]; rfl
theorem fits_fn (C : Mem) (A : Option Addr) (n c : Nat) : Gives cx.P 9 [.slice A n c] C (.bool (decide ((n : Int) ≤ 8))) := by
  refine Fn.intro (by kernel_rfl) Tryz.func9 rfl 6 rfl rfl (fun w0 => ?_)
  refine G.region rfl (fun R hR => ?_)
  refine D.pure rfl rfl rfl rfl rfl rfl ?_
  refine D.done [(0, [], _)] ⟨rfl, trivial⟩ (hR _ _ _ rfl ?_); clear hR R
  refine G.region rfl (fun R hR => ?_)
  iterate 4 refine D.pure rfl rfl rfl rfl rfl rfl ?_
  refine D.done [(2, [], _)] ⟨rfl, trivial⟩ (hR _ _ _ rfl ?_); clear hR R
  refine G.retN (G.dropAll (G.fin1 rfl rfl ?_))
  exact ⟨rfl, rfl⟩
end Go.Proofs.YtjcienaflbhedaaGreatDoor
namespace Go.Proofs.YtjcienaflbhedaaGreatDoor
open Go Go.Jog
set_option maxRecDepth 100000

def nameI (i : Nat) : Str := [UInt8.ofNat (65 + i)]
theorem lname_fn (C : Mem) (i : Nat) (hi : i < 100) : Gives cx.P 20 [.int .i64 i] C (strV (nameI i)) := by
  refine Fn.intro (by kernel_rfl) Tryz.func20 rfl 8 rfl rfl (fun w0 => ?_)
  refine G.region rfl (fun R hR => ?_)
  refine D.pure rfl rfl rfl rfl rfl rfl ?_
  refine D.done [(0, [], _)] ⟨rfl, trivial⟩ (hR _ _ _ rfl ?_); clear hR R
  refine G.region rfl (fun R hR => ?_)
  refine D.pure rfl rfl rfl rfl rfl rfl ?_
  refine D.i64 (((65 + i : Nat) : Int)) rfl rfl rfl rfl (by omega) (by omega) (by omega) rfl rfl ?_
  refine D.conv (c := ((65 + i : Nat) : Int)) rfl rfl rfl rfl rfl rfl rfl rfl (by rw [IntKind.wrap_u8]; omega) (fun _ => rfl) ?_
  refine D.buildSlice [[.int .u8 ((65 + i : Nat) : Int)]] rfl rfl rfl rfl rfl rfl rfl rfl rfl rfl rfl rfl (fun _ => rfl) (fun p6 C6 hle6 hs6 => ?_)
  have hb : (UInt8.ofNat (65 + i)).toNat = 65 + i := by rw [UInt8.toNat_ofNat']; omega
  have hs7 : Sl C6 1 p6 ((nameI i).map fun b => [.int .u8 b.toNat]) := by
    show Sl C6 1 p6 [[.int .u8 ((UInt8.ofNat (65 + i)).toNat : Int)]]
    rw [hb]; exact hs6
  refine D.strOf hs7 rfl rfl rfl rfl rfl rfl rfl rfl rfl rfl rfl (fun _ => rfl) ?_
  refine D.pure rfl rfl rfl rfl rfl rfl ?_
  refine D.done [(2, [], _)] ⟨rfl, trivial⟩ (hR _ _ _ rfl ?_); clear hR R
  refine G.retN (G.dropAll (G.fin1 rfl rfl ?_))
  exact ⟨rfl, rfl⟩
structure Seen where
  a : UInt8
  b : UInt8
  c : UInt8
  deriving Inhabited
def Seen.enc (x : Seen) : List Value := [.int .u8 x.a.toNat, .int .u8 x.b.toNat, .int .u8 x.c.toNat]
def upN (x : Seen) : Nat := x.b.toNat % 6
def lowN (x : Seen) : Nat := if x.b.toNat % 6 = x.c.toNat % 6 then (x.b.toNat % 6 + 1) % 6 else x.c.toNat % 6
def mkR (x : Seen) : Rel := ⟨((1 + x.a.toNat % 4 : Nat) : Int), nameI (upN x), nameI (lowN x)⟩
def makeL (l : List Seen) : List Rel := (l.take 8).map mkR
theorem make_fn (C : Mem) (v : Value) (l : List Seen) (hv : Sl C 3 v (l.map Seen.enc)) : Pur cx.P 10 [v] C fun u C' => Sl C' 3 u ((makeL l).map Rel.enc) := by
  obtain ⟨A, c, rfl, _⟩ := id hv
  simp only [List.length_map] at hv ⊢
  refine Fn.intro (by kernel_rfl) Tryz.func10 rfl 54 rfl rfl (fun w0 => ?_)
  refine G.region rfl (fun R hR => ?_)
  refine D.pure rfl rfl rfl rfl rfl rfl ?_
  refine D.done [(0, [], _)] ⟨rfl, trivial⟩ (hR _ _ _ rfl ?_); clear hR R
  refine G.region rfl (fun R hR => ?_)
  refine D.pure rfl rfl rfl rfl rfl rfl ?_
  refine D.done [(0, [], _), (3, [], _)] ⟨rfl, rfl, trivial⟩ (hR _ _ _ rfl ?_); clear hR R
  refine G.region rfl (fun R hR => ?_)
  refine D.pure rfl rfl rfl rfl rfl rfl ?_
  refine D.done [(0, [], _), (3, [], _), (4, [], _)] ⟨rfl, rfl, rfl, trivial⟩ (hR _ _ _ rfl ?_); clear hR R
  refine G.nilArr 35 3 ?_
  refine G.loop (fun fr C' L' μ => ∃ (k : Nat) (w3 : Value), (k ≤ l.length ∧ k ≤ 8) ∧ fr = [(0, [], .slice A l.length c), (3, [], w3), (4, [], .int .i64 k)] ∧ L' = [.arr w3 35 3 k (((l.take k).map mkR).map Rel.enc).flatten] ∧ μ = 8 - k) (fr' := [(0, [], _), (3, [], _), (4, [], _)]) ⟨rfl, rfl, rfl, trivial⟩ ⟨0, _, ⟨Nat.zero_le _, by omega⟩, rfl, rfl, rfl⟩ (fun fr C0' L0' m hle0 hI => ?_)
  obtain ⟨k, w3, ⟨hk, hk8⟩, rfl, rfl, rfl⟩ := hI
  refine G.region rfl (fun R hR => ?_)
  iterate 7 refine D.pure rfl rfl rfl rfl rfl rfl ?_
  refine D.pickAnd rfl rfl rfl rfl rfl rfl rfl rfl ?_
  refine D.done [(0, [], _), (3, [], _), (4, [], _), (14, [], _)] ⟨rfl, rfl, rfl, rfl, trivial⟩ (hR _ _ _ rfl ?_); clear hR R
  refine G.cond rfl (fun h14 => ?_) (fun h14 => ?_)
  · skip
    simp only [Bool.and_eq_true, decide_eq_true_eq] at h14
    have hkl : k < l.length := by omega
    obtain ⟨x, hx⟩ : ∃ x, l[k]? = some x := ⟨l[k], List.getElem?_eq_getElem hkl⟩
    have hrow : (l.map Seen.enc)[k]? = some x.enc := by rw [List.getElem?_map, hx]; rfl
    have hxa := x.a.toNat_lt
    have hxb := x.b.toNat_lt
    have hxc := x.c.toNat_lt
    have htk : (l.take (k + 1)).map mkR = (l.take k).map mkR ++ [mkR x] := by rw [List.take_add_one, hx]; simp
    refine G.draw [0, 1, 2, 3, 4, 5, 6, 7, 8, 9, 10, 11, 12, 13, 14, 15] [(6, 0), (13, 0)] rfl (by kernel_rfl) (fun R hB hR => ?_)
    iterate 2 refine D.pure rfl rfl rfl rfl rfl rfl ?_
    refine D.index0 (hv.mono (by (repeat (first | exact Mem.le.refl _ | assumption | (apply Mem.le.trans; rotate_left; assumption))))) rfl rfl rfl rfl rfl rfl rfl rfl rfl rfl (by omega) hrow (fun _ => rfl) (fun p19 hp19 => ?_)
    refine D.fieldP0 hp19 rfl rfl rfl rfl rfl rfl rfl rfl rfl rfl (fun _ => rfl) (fun p20 hp20 => ?_)
    refine D.loadP0 hp20 rfl rfl rfl rfl rfl rfl rfl rfl ?_
    refine D.rem rfl rfl rfl rfl rfl rfl (by omega) (by omega) rfl rfl ?_
    refine D.convQ (c := (upN x : Int)) rfl rfl rfl rfl rfl rfl rfl rfl (by rw [IntKind.wrap_i64]; unfold upN; omega) rfl rfl ?_
    iterate 2 refine D.pure rfl rfl rfl rfl rfl rfl ?_
    refine D.index0 (hv.mono (by (repeat (first | exact Mem.le.refl _ | assumption | (apply Mem.le.trans; rotate_left; assumption))))) rfl rfl rfl rfl rfl rfl rfl rfl rfl rfl (by omega) hrow (fun _ => rfl) (fun p26 hp26 => ?_)
    refine D.fieldP0 hp26 rfl rfl rfl rfl rfl rfl rfl rfl rfl rfl (fun _ => rfl) (fun p27 hp27 => ?_)
    refine D.loadP0 hp27 rfl rfl rfl rfl rfl rfl rfl rfl ?_
    refine D.rem rfl rfl rfl rfl rfl rfl (by omega) (by omega) rfl rfl ?_
    refine D.convQ (c := ((x.c.toNat % 6 : Nat) : Int)) rfl rfl rfl rfl rfl rfl rfl rfl (by rw [IntKind.wrap_i64]; omega) rfl rfl ?_
    iterate 2 refine D.pure rfl rfl rfl rfl rfl rfl ?_
    refine D.done [(0, [], _), (3, [], _), (4, [], _), (5, [], _), (6, [], _)] ⟨rfl, rfl, rfl, rfl, rfl, trivial⟩ (hR _ _ _ rfl ?_); clear hR hB R
    refine G.region rfl (fun R hR => ?_)
    iterate 3 refine D.pure rfl rfl rfl rfl rfl rfl ?_
    refine D.done [(0, [], _), (3, [], _), (4, [], _), (5, [], _), (6, [], _), (33, [], _)] ⟨rfl, rfl, rfl, rfl, rfl, rfl, trivial⟩ (hR _ _ _ rfl ?_); clear hR R
    refine G.cut (fun fr C' L' μ => (True) ∧ fr = [(0, [], .slice A l.length c), (3, [], w3), (4, [], .int .i64 k), (5, [], .int .i64 (upN x)), (6, [], .int .i64 (lowN x))] ∧ L' = [.arr w3 35 3 k (((l.take k).map mkR).map Rel.enc).flatten]) ?_ (fun fr C33 L33 μ hle33 hI => ?_)
    · skip
      refine G.cond rfl (fun h33 => ?_) (fun h33 => ?_)
      · skip
        have h33' : upN x = x.c.toNat % 6 := by
          have h : (upN x : Int) = ((x.c.toNat % 6 : Nat) : Int) := by simpa using h33
          omega
        have hup6 : upN x < 6 := by unfold upN; omega
        refine G.region rfl (fun R hR => ?_)
        refine D.pure rfl rfl rfl rfl rfl rfl ?_
        refine D.i64 _ rfl rfl rfl rfl rfl (by omega) (by omega) rfl rfl ?_
        refine D.rem rfl rfl rfl rfl rfl rfl (by omega) (by omega) rfl rfl ?_
        refine D.pure rfl rfl rfl rfl rfl rfl ?_
        refine D.done [(0, [], _), (3, [], _), (4, [], _), (5, [], _), (6, [], _)] ⟨rfl, rfl, rfl, rfl, rfl, trivial⟩ (hR _ _ _ rfl ?_); clear hR R
        have hlow : ((upN x : Int) + 1) % 6 = (lowN x : Int) := by
          unfold lowN
          have : x.b.toNat % 6 = x.c.toNat % 6 := h33'
          rw [if_pos this]; unfold upN; omega
        refine G.meet 0 (Mem.le.refl _) (fr' := [(0, [], _), (3, [], _), (4, [], _), (5, [], _), (6, [], _)]) ⟨rfl, rfl, rfl, rfl, rfl, trivial⟩ ⟨trivial, by rw [← hlow], rfl⟩
      · skip
        have h33' : ¬ upN x = x.c.toNat % 6 := fun e => by
          have : (false : Bool) = true := by rw [← h33]; simp [e]
          cases this
        have hlow : x.c.toNat % 6 = lowN x := by
          unfold lowN
          rw [if_neg (show ¬ x.b.toNat % 6 = x.c.toNat % 6 from h33')]
        refine G.meet 0 (Mem.le.refl _) (fr' := [(0, [], _), (3, [], _), (4, [], _), (5, [], _), (6, [], _)]) ⟨rfl, rfl, rfl, rfl, rfl, trivial⟩ ⟨trivial, by rw [← hlow], rfl⟩
    · skip
      obtain ⟨htriv, rfl, rfl⟩ := hI
      have hup6 : upN x < 6 := by unfold upN; omega
      have hlow6 : lowN x < 6 := by unfold lowN; split <;> omega
      refine G.draw [0, 1, 2, 3, 4, 5, 6, 7, 8, 9, 10, 11, 12, 13, 14, 15, 16] [(10, 1), (12, 1), (7, 0)] rfl (by kernel_rfl) (fun R hB hR => ?_)
      iterate 3 refine D.pure rfl rfl rfl rfl rfl rfl ?_
      refine D.index0 (hv.mono (by (repeat (first | exact Mem.le.refl _ | assumption | (apply Mem.le.trans; rotate_left; assumption))))) rfl rfl rfl rfl rfl rfl rfl rfl rfl rfl (by omega) hrow (fun _ => rfl) (fun p40 hp40 => ?_)
      refine D.fieldP0 hp40 rfl rfl rfl rfl rfl rfl rfl rfl rfl rfl (fun _ => rfl) (fun p41 hp41 => ?_)
      refine D.loadP0 hp41 rfl rfl rfl rfl rfl rfl rfl rfl ?_
      refine D.rem rfl rfl rfl rfl rfl rfl (by omega) (by omega) rfl rfl ?_
      refine D.convQ (c := ((x.a.toNat % 4 : Nat) : Int)) rfl rfl rfl rfl rfl rfl rfl rfl (by rw [IntKind.wrap_i64]; omega) rfl rfl ?_
      refine D.i64 (((1 + x.a.toNat % 4 : Nat) : Int)) rfl rfl rfl rfl (by omega) (by omega) (by omega) rfl rfl ?_
      refine D.pure rfl rfl rfl rfl rfl rfl ?_
      refine D.gives (fun _ => (lname_fn _ (upN x) (by omega))) rfl rfl rfl rfl rfl rfl rfl rfl rfl ?_
      refine D.pure rfl rfl rfl rfl rfl rfl ?_
      refine D.gives (fun _ => (lname_fn _ (lowN x) (by omega))) rfl rfl rfl rfl rfl rfl rfl rfl rfl ?_
      refine D.build (mkR x).enc rfl rfl rfl rfl rfl rfl rfl rfl ?_
      refine D.buildSlice [(mkR x).enc] rfl rfl rfl rfl rfl rfl rfl rfl rfl rfl rfl rfl (fun _ => rfl) (fun p51 C51 hle51 hs51 => ?_)
      refine D.append (j := 0) rfl rfl rfl rfl rfl rfl rfl rfl rfl rfl rfl hs51 rfl (by simp only [List.length_singleton, maxLen]; omega) (by simp only [List.length_singleton]; omega) (fun _ => rfl) (fun v52 => ?_)
      refine D.pure rfl rfl rfl rfl rfl rfl ?_
      refine D.done [(0, [], _), (3, [], _), (4, [], _)] ⟨rfl, rfl, rfl, trivial⟩ (hR _ _ _ rfl ?_); clear hR hB R
      refine G.region rfl (fun R hR => ?_)
      refine D.pure rfl rfl rfl rfl rfl rfl ?_
      refine D.i64 (((k + 1 : Nat) : Int)) rfl rfl rfl rfl (by omega) (by omega) (by omega) rfl rfl ?_
      refine D.pure rfl rfl rfl rfl rfl rfl ?_
      refine D.done [(0, [], _), (3, [], _), (4, [], _)] ⟨rfl, rfl, rfl, trivial⟩ (hR _ _ _ rfl ?_); clear hR R
      refine G.eqL (L' := [.arr v52 35 3 (k + 1) (((l.take (k + 1)).map mkR).map Rel.enc).flatten]) (by rw [htk]; simp) ?_
      refine G.again (m' := 8 - (k + 1)) (by omega) (by (repeat (first | exact Mem.le.refl _ | assumption | (apply Mem.le.trans; rotate_left; assumption)))) (fr' := [(0, [], _), (3, [], _), (4, [], _)]) ⟨rfl, rfl, rfl, trivial⟩ ⟨k + 1, v52, ⟨by omega, by omega⟩, rfl, rfl, rfl⟩
  · skip
    simp only [Bool.and_eq_false_iff, decide_eq_false_iff_not] at h14
    refine G.region rfl (fun R hR => ?_)
    iterate 2 refine D.pure rfl rfl rfl rfl rfl rfl ?_
    refine D.done [(2, [], _)] ⟨rfl, trivial⟩ (hR _ _ _ rfl ?_); clear hR R
    refine G.freezeArr 0 (((l.take k).map mkR).map Rel.enc) rfl rfl (by intro r hr; obtain ⟨y, _, rfl⟩ := List.mem_map.1 hr; exact rel_len y) (by simp; omega) (fun Cf hlef hsf => ?_)
    refine G.retN (G.dropAll (G.fin1 rfl rfl ?_))
    refine ⟨rfl, ?_⟩
    have e : l.take k = l.take 8 := by
      rcases h14 with h | h
      · rw [List.take_of_length_le (by omega), List.take_of_length_le (by omega)]
      · congr 1; omega
    rw [makeL, ← e]
    exact hsf
end Go.Proofs.YtjcienaflbhedaaGreatDoor
namespace Go.Proofs.YtjcienaflbhedaaGreatDoor
open Go Go.Jog
set_option maxRecDepth 100000

def gR (l : List Rel) (i : Int) : Rel := l.getD i.toNat default
theorem gR_at {l : List Rel} {i : Int} (h0 : 0 ≤ i) (h1 : i < l.length) : l[i.toNat]? = some (gR l i) ∧ (l.map Rel.enc)[i.toNat]? = some (gR l i).enc := by
  have e : l[i.toNat]? = some (gR l i) := by
    unfold gR
    rw [List.getD_eq_getElem?_getD, List.getElem?_eq_getElem (by omega)]; rfl
  exact ⟨e, by rw [List.getElem?_map, e]; rfl⟩
def arcB (l : List Rel) (i : Int) : Bool := decide (0 ≤ i) && decide (i < l.length) && decide (1 ≤ (gR l i).kind) && decide ((gR l i).kind ≤ 3)
theorem arcB_in {l : List Rel} {i : Int} (h : arcB l i = true) : 0 ≤ i ∧ i < l.length := by
  unfold arcB at h
  simp at h
  omega
theorem carc_fn (C : Mem) (v : Value) (l : List Rel) (i : Int) (hv : Sl C 3 v (l.map Rel.enc)) : Gives cx.P 21 [v, .int .i64 i] C (.bool (arcB l i)) := by
  obtain ⟨A, c, rfl, _⟩ := id hv
  simp only [List.length_map] at hv ⊢
  refine Fn.intro (by kernel_rfl) Tryz.func21 rfl 29 rfl rfl (fun w0 => ?_)
  refine G.region rfl (fun R hR => ?_)
  refine D.pure rfl rfl rfl rfl rfl rfl ?_
  refine D.done [(0, [], _), (1, [], _)] ⟨rfl, rfl, trivial⟩ (hR _ _ _ rfl ?_); clear hR R
  refine G.region rfl (fun R hR => ?_)
  iterate 7 refine D.pure rfl rfl rfl rfl rfl rfl ?_
  refine D.pickAnd rfl rfl rfl rfl rfl rfl rfl rfl ?_
  iterate 3 refine D.pure rfl rfl rfl rfl rfl rfl ?_
  refine D.index rfl rfl rfl rfl rfl rfl rfl rfl rfl rfl (fun hg => ⟨hv, (by have h : (decide (0 ≤ i) && decide (i < (l.length : Int))) = true := hg.1; simp at h; omega), (by have h : (decide (0 ≤ i) && decide (i < (l.length : Int))) = true := hg.1; simp at h; exact (gR_at h.1 h.2).2)⟩) (fun _ => rfl) rfl (fun p16 hp16 => ?_)
  refine D.fieldP rfl rfl rfl rfl rfl rfl rfl rfl rfl rfl hp16 (fun _ => rfl) rfl (fun p17 hp17 => ?_)
  refine D.loadP rfl rfl rfl rfl rfl rfl hp17 rfl rfl rfl ?_
  refine D.pure rfl rfl rfl rfl rfl rfl ?_
  refine D.pickAnd rfl rfl rfl rfl rfl rfl rfl rfl ?_
  iterate 3 refine D.pure rfl rfl rfl rfl rfl rfl ?_
  refine D.index rfl rfl rfl rfl rfl rfl rfl rfl rfl rfl (fun hg => ⟨hv, (by have h : (decide (0 ≤ i) && decide (i < (l.length : Int)) && decide (1 ≤ (gR l i).kind)) = true := hg.1; simp at h; omega), (by have h : (decide (0 ≤ i) && decide (i < (l.length : Int)) && decide (1 ≤ (gR l i).kind)) = true := hg.1; simp at h; exact (gR_at h.1.1 h.1.2).2)⟩) (fun _ => rfl) rfl (fun p24 hp24 => ?_)
  refine D.fieldP rfl rfl rfl rfl rfl rfl rfl rfl rfl rfl hp24 (fun _ => rfl) rfl (fun p25 hp25 => ?_)
  refine D.loadP rfl rfl rfl rfl rfl rfl hp25 rfl rfl rfl ?_
  refine D.pure rfl rfl rfl rfl rfl rfl ?_
  refine D.pickAnd rfl rfl rfl rfl rfl rfl rfl rfl ?_
  refine D.pure rfl rfl rfl rfl rfl rfl ?_
  refine D.done [(4, [], _)] ⟨rfl, trivial⟩ (hR _ _ _ rfl ?_); clear hR R
  refine G.retN (G.dropAll (G.fin1 rfl rfl ?_))
  exact ⟨rfl, rfl⟩
theorem larc55_fn (C : Mem) (v : Value) (l : List Rel) (i : Int) (hv : Sl C 3 v (l.map Rel.enc)) : Gives cx.P 24 [v, .int .i64 i] C (.bool (arcB l i)) := by
  obtain ⟨A, c, rfl, _⟩ := id hv
  simp only [List.length_map] at hv ⊢
  refine Fn.intro (by kernel_rfl) Tryz.func24 rfl 29 rfl rfl (fun w0 => ?_)
  refine G.region rfl (fun R hR => ?_)
  refine D.pure rfl rfl rfl rfl rfl rfl ?_
  refine D.done [(0, [], _), (1, [], _)] ⟨rfl, rfl, trivial⟩ (hR _ _ _ rfl ?_); clear hR R
  refine G.region rfl (fun R hR => ?_)
  iterate 7 refine D.pure rfl rfl rfl rfl rfl rfl ?_
  refine D.pickAnd rfl rfl rfl rfl rfl rfl rfl rfl ?_
  iterate 3 refine D.pure rfl rfl rfl rfl rfl rfl ?_
  refine D.index rfl rfl rfl rfl rfl rfl rfl rfl rfl rfl (fun hg => ⟨hv, (by have h : (decide (0 ≤ i) && decide (i < (l.length : Int))) = true := hg.1; simp at h; omega), (by have h : (decide (0 ≤ i) && decide (i < (l.length : Int))) = true := hg.1; simp at h; exact (gR_at h.1 h.2).2)⟩) (fun _ => rfl) rfl (fun p16 hp16 => ?_)
  refine D.fieldP rfl rfl rfl rfl rfl rfl rfl rfl rfl rfl hp16 (fun _ => rfl) rfl (fun p17 hp17 => ?_)
  refine D.loadP rfl rfl rfl rfl rfl rfl hp17 rfl rfl rfl ?_
  refine D.pure rfl rfl rfl rfl rfl rfl ?_
  refine D.pickAnd rfl rfl rfl rfl rfl rfl rfl rfl ?_
  iterate 3 refine D.pure rfl rfl rfl rfl rfl rfl ?_
  refine D.index rfl rfl rfl rfl rfl rfl rfl rfl rfl rfl (fun hg => ⟨hv, (by have h : (decide (0 ≤ i) && decide (i < (l.length : Int)) && decide (1 ≤ (gR l i).kind)) = true := hg.1; simp at h; omega), (by have h : (decide (0 ≤ i) && decide (i < (l.length : Int)) && decide (1 ≤ (gR l i).kind)) = true := hg.1; simp at h; exact (gR_at h.1.1 h.1.2).2)⟩) (fun _ => rfl) rfl (fun p24 hp24 => ?_)
  refine D.fieldP rfl rfl rfl rfl rfl rfl rfl rfl rfl rfl hp24 (fun _ => rfl) rfl (fun p25 hp25 => ?_)
  refine D.loadP rfl rfl rfl rfl rfl rfl hp25 rfl rfl rfl ?_
  refine D.pure rfl rfl rfl rfl rfl rfl ?_
  refine D.pickAnd rfl rfl rfl rfl rfl rfl rfl rfl ?_
  refine D.pure rfl rfl rfl rfl rfl rfl ?_
  refine D.done [(4, [], _)] ⟨rfl, trivial⟩ (hR _ _ _ rfl ?_); clear hR R
  refine G.retN (G.dropAll (G.fin1 rfl rfl ?_))
  exact ⟨rfl, rfl⟩
/-- The unit that arcs lead to. -/
def stepsM (l : List Rel) (ix : Int) : Str → List Int → Option Str
  | u, [] => some u
  | u, i :: r => if arcB l i && !(i == ix) && decide ((gR l i).lower = u) then stepsM l ix (gR l i).upper r else none
def impB (l : List Rel) (ix : Int) (bs : List Int) : Bool := arcB l ix && !(decide (bs.length = 0)) && (match stepsM l ix (gR l ix).lower bs with
  | some u => decide (u = (gR l ix).upper)
  | none => false)
theorem implied_fn (C : Mem) (v vb : Value) (l : List Rel) (ix : Int) (bs : List Int) (hv : Sl C 3 v (l.map Rel.enc)) (hb : Sl C 1 vb (bs.map encI)) : Gives cx.P 15 [v, .int .i64 ix, vb] C (.bool (impB l ix bs)) := by
  obtain ⟨A, c, rfl, hl1, hl2, _⟩ := id hv
  obtain ⟨Ab, cb, rfl, hb1, hb2, _⟩ := id hb
  have hmx : maxLen ≤ 9223372036854775807 := by simp [maxLen]
  simp only [List.length_map] at hv hb hb1 hl1 ⊢
  refine Fn.intro (by kernel_rfl) Tryz.func15 rfl 61 rfl rfl (fun w0 => ?_)
  refine G.region rfl (fun R hR => ?_)
  refine D.pure rfl rfl rfl rfl rfl rfl ?_
  refine D.done [(0, [], _), (1, [], _), (2, [], _)] ⟨rfl, rfl, rfl, trivial⟩ (hR _ _ _ rfl ?_); clear hR R
  refine G.region rfl (fun R hR => ?_)
  iterate 2 refine D.pure rfl rfl rfl rfl rfl rfl ?_
  refine D.gives2 (carc_fn _ _ l ix hv) rfl rfl rfl rfl rfl rfl rfl (fun _ => rfl) ?_
  iterate 5 refine D.pure rfl rfl rfl rfl rfl rfl ?_
  refine D.pickOr rfl rfl rfl rfl rfl rfl rfl rfl ?_
  refine D.done [(0, [], _), (1, [], _), (2, [], _), (18, [], _)] ⟨rfl, rfl, rfl, rfl, trivial⟩ (hR _ _ _ rfl ?_); clear hR R
  refine G.cond rfl (fun h18 => ?_) (fun h18 => ?_)
  · skip
    have hno : impB l ix bs = false := by
      unfold impB
      cases h1 : arcB l ix with
      | false => rfl
      | true =>
        rw [h1] at h18
        have h2 : bs.length = 0 := by simpa using h18
        simp [h2]
    refine G.region rfl (fun R hR => ?_)
    refine D.pure rfl rfl rfl rfl rfl rfl ?_
    refine D.done [(6, [], _)] ⟨rfl, trivial⟩ (hR _ _ _ rfl ?_); clear hR R
    refine G.retN (G.dropAll (G.fin1 rfl rfl ?_))
    exact ⟨by rw [hno], rfl⟩
  · skip
    have h1 : arcB l ix = true := by
      cases h1 : arcB l ix with
      | true => rfl
      | false => rw [h1] at h18; cases h18
    have h2 : ¬ bs.length = 0 := by
      rw [h1] at h18
      simpa using h18
    obtain ⟨hx0, hx1⟩ := arcB_in h1
    have hI : impB l ix bs = (match stepsM l ix (gR l ix).lower bs with
      | some u => decide (u = (gR l ix).upper)
      | none => false) := by
      unfold impB
      rw [h1]; simp [h2]
    refine G.region rfl (fun R hR => ?_)
    iterate 2 refine D.pure rfl rfl rfl rfl rfl rfl ?_
    refine D.index0 (hv.mono (by (repeat (first | exact Mem.le.refl _ | assumption | (apply Mem.le.trans; rotate_left; assumption))))) rfl rfl rfl rfl rfl rfl rfl rfl rfl rfl (by omega) (gR_at hx0 hx1).2 (fun _ => rfl) (fun p21 hp21 => ?_)
    refine D.fieldP0 hp21 rfl rfl rfl rfl rfl rfl rfl rfl rfl rfl (fun _ => rfl) (fun p22 hp22 => ?_)
    refine D.loadP0 hp22 rfl rfl rfl rfl rfl rfl rfl rfl ?_
    refine D.pure rfl rfl rfl rfl rfl rfl ?_
    refine D.done [(0, [], _), (1, [], _), (2, [], _), (7, [], _)] ⟨rfl, rfl, rfl, rfl, trivial⟩ (hR _ _ _ rfl ?_); clear hR R
    refine G.region rfl (fun R hR => ?_)
    iterate 3 refine D.pure rfl rfl rfl rfl rfl rfl ?_
    refine D.done [(0, [], _), (1, [], _), (7, [], _), (24, [], _), (25, [], _), (26, [], _)] ⟨rfl, rfl, rfl, rfl, rfl, rfl, trivial⟩ (hR _ _ _ rfl ?_); clear hR R
    refine G.loop (fun fr C' L' μ => ∃ (k : Nat) (u : Str), (k ≤ bs.length ∧ stepsM l ix (gR l ix).lower bs = stepsM l ix u (bs.drop k)) ∧ fr = [(0, [], .slice A l.length c), (1, [], .int .i64 ix), (7, [], strV u), (24, [], .slice Ab bs.length cb), (25, [], .int .i64 bs.length), (26, [], .int .i64 k)] ∧ L' = [] ∧ μ = bs.length - k) (fr' := [(0, [], _), (1, [], _), (7, [], _), (24, [], _), (25, [], _), (26, [], _)]) ⟨rfl, rfl, rfl, rfl, rfl, rfl, trivial⟩ ⟨0, (gR l ix).lower, ⟨Nat.zero_le _, rfl⟩, rfl, rfl, rfl⟩ (fun fr C0' L0' m hle0 hI => ?_)
    obtain ⟨k, u, ⟨hk, hst⟩, rfl, rfl, rfl⟩ := hI
    refine G.region rfl (fun R hR => ?_)
    refine D.pure rfl rfl rfl rfl rfl rfl ?_
    refine D.done [(0, [], _), (1, [], _), (7, [], _), (24, [], _), (25, [], _), (26, [], _), (27, [], _)] ⟨rfl, rfl, rfl, rfl, rfl, rfl, rfl, trivial⟩ (hR _ _ _ rfl ?_); clear hR R
    refine G.cond rfl (fun h27 => ?_) (fun h27 => ?_)
    · skip
      have hkl : k < bs.length := by simpa using h27
      obtain ⟨i, hi⟩ : ∃ i, bs[k]? = some i := ⟨bs[k], List.getElem?_eq_getElem hkl⟩
      have hrow : (bs.map encI)[k]? = some (encI i) := by rw [List.getElem?_map, hi]; rfl
      have hdr : bs.drop k = i :: bs.drop (k + 1) := by
        rw [List.drop_eq_getElem_cons hkl]
        congr 1
        exact (List.getElem?_eq_some_iff.1 hi).2
      refine G.region rfl (fun R hR => ?_)
      refine D.index0 (hb.mono (by (repeat (first | exact Mem.le.refl _ | assumption | (apply Mem.le.trans; rotate_left; assumption))))) rfl rfl rfl rfl rfl rfl rfl rfl rfl rfl (by omega) hrow (fun _ => rfl) (fun p28 hp28 => ?_)
      refine D.loadP0 hp28 rfl rfl rfl rfl rfl rfl rfl rfl ?_
      refine D.pure rfl rfl rfl rfl rfl rfl ?_
      refine D.done [(0, [], _), (1, [], _), (7, [], _), (9, [], _), (24, [], _), (25, [], _), (26, [], _)] ⟨rfl, rfl, rfl, rfl, rfl, rfl, rfl, trivial⟩ (hR _ _ _ rfl ?_); clear hR R
      refine G.region rfl (fun R hR => ?_)
      iterate 2 refine D.pure rfl rfl rfl rfl rfl rfl ?_
      refine D.gives2 (carc_fn _ _ l i (hv.mono (by (repeat (first | exact Mem.le.refl _ | assumption | (apply Mem.le.trans; rotate_left; assumption)))))) rfl rfl rfl rfl rfl rfl rfl (fun _ => rfl) ?_
      iterate 5 refine D.pure rfl rfl rfl rfl rfl rfl ?_
      refine D.pickOr rfl rfl rfl rfl rfl rfl rfl rfl ?_
      iterate 3 refine D.pure rfl rfl rfl rfl rfl rfl ?_
      refine D.index rfl rfl rfl rfl rfl rfl rfl rfl rfl rfl (fun hg => ⟨hv.mono (by (repeat (first | exact Mem.le.refl _ | assumption | (apply Mem.le.trans; rotate_left; assumption)))), (by have h : (!arcB l i || (i == ix)) = false := hg.1; simp at h; exact (arcB_in h.1).1), (by have h : (!arcB l i || (i == ix)) = false := hg.1; simp at h; exact (gR_at (arcB_in h.1).1 (arcB_in h.1).2).2)⟩) (fun _ => rfl) rfl (fun p42 hp42 => ?_)
      refine D.fieldP rfl rfl rfl rfl rfl rfl rfl rfl rfl rfl hp42 (fun _ => rfl) rfl (fun p43 hp43 => ?_)
      refine D.loadP rfl rfl rfl rfl rfl rfl hp43 rfl rfl rfl ?_
      iterate 2 refine D.pure rfl rfl rfl rfl rfl rfl ?_
      refine D.pickOr rfl rfl rfl rfl rfl rfl rfl rfl ?_
      refine D.done [(0, [], _), (1, [], _), (9, [], _), (24, [], _), (25, [], _), (26, [], _), (47, [], _)] ⟨rfl, rfl, rfl, rfl, rfl, rfl, rfl, trivial⟩ (hR _ _ _ rfl ?_); clear hR R
      refine G.cond rfl (fun h47 => ?_) (fun h47 => ?_)
      · skip
        have hno : stepsM l ix (gR l ix).lower bs = none := by
          rw [hst, hdr, stepsM, if_neg]
          intro h
          simp at h h47
          obtain ⟨⟨e1, e2⟩, e3⟩ := h
          rw [e1] at h47
          simp [e2, e3] at h47
        refine G.region rfl (fun R hR => ?_)
        refine D.pure rfl rfl rfl rfl rfl rfl ?_
        refine D.done [(6, [], _)] ⟨rfl, trivial⟩ (hR _ _ _ rfl ?_); clear hR R
        refine G.retN (G.dropAll (G.fin1 rfl rfl ?_))
        exact ⟨by rw [hI, hno], rfl⟩
      · skip
        have hok : (arcB l i && !(i == ix) && decide ((gR l i).lower = u)) = true := by
          simp at h47
          simp [h47.1.1, h47.1.2, h47.2]
        have hin := arcB_in (l := l) (i := i) (by simp at hok; exact hok.1.1)
        refine G.region rfl (fun R hR => ?_)
        iterate 2 refine D.pure rfl rfl rfl rfl rfl rfl ?_
        refine D.index0 (hv.mono (by (repeat (first | exact Mem.le.refl _ | assumption | (apply Mem.le.trans; rotate_left; assumption))))) rfl rfl rfl rfl rfl rfl rfl rfl rfl rfl (by omega) (gR_at hin.1 hin.2).2 (fun _ => rfl) (fun p50 hp50 => ?_)
        refine D.fieldP0 hp50 rfl rfl rfl rfl rfl rfl rfl rfl rfl rfl (fun _ => rfl) (fun p51 hp51 => ?_)
        refine D.loadP0 hp51 rfl rfl rfl rfl rfl rfl rfl rfl ?_
        refine D.pure rfl rfl rfl rfl rfl rfl ?_
        refine D.done [(0, [], _), (1, [], _), (7, [], _), (24, [], _), (25, [], _), (26, [], _)] ⟨rfl, rfl, rfl, rfl, rfl, rfl, trivial⟩ (hR _ _ _ rfl ?_); clear hR R
        refine G.region rfl (fun R hR => ?_)
        refine D.i64 _ rfl rfl rfl rfl rfl (by omega) (by omega) rfl rfl ?_
        refine D.pure rfl rfl rfl rfl rfl rfl ?_
        refine D.done [(0, [], _), (1, [], _), (7, [], _), (24, [], _), (25, [], _), (26, [], _)] ⟨rfl, rfl, rfl, rfl, rfl, rfl, trivial⟩ (hR _ _ _ rfl ?_); clear hR R
        refine G.again (m' := bs.length - (k + 1)) (by omega) (by (repeat (first | exact Mem.le.refl _ | assumption | (apply Mem.le.trans; rotate_left; assumption)))) (fr' := [(0, [], _), (1, [], _), (7, [], _), (24, [], _), (25, [], _), (26, [], _)]) ⟨rfl, rfl, rfl, rfl, rfl, rfl, trivial⟩ ⟨k + 1, (gR l i).upper, ⟨by omega, by rw [hst, hdr, stepsM, if_pos hok]⟩, rfl, rfl, rfl⟩
    · skip
      have hkl : bs.length ≤ k := by
        have : ¬ k < bs.length := by simpa using h27
        omega
      refine G.region rfl (fun R hR => ?_)
      iterate 3 refine D.pure rfl rfl rfl rfl rfl rfl ?_
      refine D.index0 (hv.mono (by (repeat (first | exact Mem.le.refl _ | assumption | (apply Mem.le.trans; rotate_left; assumption))))) rfl rfl rfl rfl rfl rfl rfl rfl rfl rfl (by omega) (gR_at hx0 hx1).2 (fun _ => rfl) (fun p57 hp57 => ?_)
      refine D.fieldP0 hp57 rfl rfl rfl rfl rfl rfl rfl rfl rfl rfl (fun _ => rfl) (fun p58 hp58 => ?_)
      refine D.loadP0 hp58 rfl rfl rfl rfl rfl rfl rfl rfl ?_
      iterate 2 refine D.pure rfl rfl rfl rfl rfl rfl ?_
      refine D.done [(6, [], _)] ⟨rfl, trivial⟩ (hR _ _ _ rfl ?_); clear hR R
      refine G.retN (G.dropAll (G.fin1 rfl rfl ?_))
      refine ⟨?_, rfl⟩
      rw [hI, hst, List.drop_of_length_le hkl, stepsM]
      simp [eqStr]
def posZ (N : List Str) (s : Str) : Nat := if s ∈ N then posS N s else 0
theorem look_at (N : List Str) (s : Str) : lookV (.int .i64 0) true (mget (atM N 0) s) = .tuple #[.int .i64 (posZ N s), .bool (decide (s ∈ N))] := by
  rw [mget_atM]
  by_cases h : s ∈ N
  · simp [h, posZ, lookV]
  · simp [h, posZ, lookV]
theorem nodup_snoc {α : Type} {l : List α} {x : α} (h : l.Nodup) (hx : x ∉ l) : (l ++ [x]).Nodup := by
  rw [List.nodup_append]
  exact ⟨h, by simp, fun a ha b hb e => by simp only [List.mem_singleton] at hb; subst hb; subst e; exact hx ha⟩
/-- One relation is kept. -/
def keptB (l : List Rel) (o : List Str) (k : Nat) : Bool := decide ((gR l k).upper ∈ o) && decide ((gR l k).lower ∈ o) && !(arcB l k && decide (posZ o (gR l k).upper ≤ posZ o (gR l k).lower))
def ordB (l : List Rel) (o : List Str) : Bool := decide o.Nodup && (List.range l.length).all (keptB l o)
set_option maxHeartbeats 1000000 in
theorem order_fn (C : Mem) (v vo : Value) (l : List Rel) (o : List Str) (hv : Sl C 3 v (l.map Rel.enc)) (hvo : Sl C 1 vo (o.map encS)) : Gives cx.P 11 [v, vo] C (.bool (ordB l o)) := by
  obtain ⟨A, c, rfl, hl1, hl2, _⟩ := id hv
  obtain ⟨Ao, co, rfl, ho1, ho2, _⟩ := id hvo
  have hmx : maxLen ≤ 9223372036854775807 := by simp [maxLen]
  simp only [List.length_map] at hv hvo hl1 ho1 ⊢
  refine Fn.intro (by kernel_rfl) Tryz.func11 rfl 73 rfl rfl (fun w0 => ?_)
  refine G.region rfl (fun R hR => ?_)
  refine D.pure rfl rfl rfl rfl rfl rfl ?_
  refine D.done [(0, [], _), (1, [], _)] ⟨rfl, rfl, trivial⟩ (hR _ _ _ rfl ?_); clear hR R
  refine G.region rfl (fun R hR => ?_)
  refine D.makeMap keyS rfl rfl rfl rfl (fun _ => rfl) (fun b16 => ?_)
  refine D.pure rfl rfl rfl rfl rfl rfl ?_
  refine D.done [(0, [], _), (1, [], _), (5, [], _)] ⟨rfl, rfl, rfl, trivial⟩ (hR _ _ _ rfl ?_); clear hR R
  refine G.region rfl (fun R hR => ?_)
  iterate 3 refine D.pure rfl rfl rfl rfl rfl rfl ?_
  refine D.done [(0, [], _), (5, [], _), (17, [], _), (18, [], _), (19, [], _)] ⟨rfl, rfl, rfl, rfl, rfl, trivial⟩ (hR _ _ _ rfl ?_); clear hR R
  refine G.loop (fun fr C' L' μ => ∃ (k : Nat), (k ≤ o.length ∧ (o.take k).Nodup) ∧ fr = [(0, [], .slice A l.length c), (5, [], .map (some b16)), (17, [], .slice Ao o.length co), (18, [], .int .i64 o.length), (19, [], .int .i64 k)] ∧ L' = [.obj b16 (mapOf keyS.enc (atM (o.take k) 0))] ∧ μ = o.length - k) (fr' := [(0, [], _), (5, [], _), (17, [], _), (18, [], _), (19, [], _)]) ⟨rfl, rfl, rfl, rfl, rfl, trivial⟩ ⟨0, ⟨Nat.zero_le _, by simp⟩, rfl, rfl, rfl⟩ (fun fr C0' L0' m hle0 hI => ?_)
  obtain ⟨k, ⟨hk, hnd⟩, rfl, rfl, rfl⟩ := hI
  refine G.region rfl (fun R hR => ?_)
  refine D.pure rfl rfl rfl rfl rfl rfl ?_
  refine D.done [(0, [], _), (5, [], _), (17, [], _), (18, [], _), (19, [], _), (20, [], _)] ⟨rfl, rfl, rfl, rfl, rfl, rfl, trivial⟩ (hR _ _ _ rfl ?_); clear hR R
  refine G.cond rfl (fun h20 => ?_) (fun h20 => ?_)
  · skip
    have hkl : k < o.length := by simpa using h20
    obtain ⟨s, hs⟩ : ∃ s, o[k]? = some s := ⟨o[k], List.getElem?_eq_getElem hkl⟩
    have hrs : (o.map encS)[k]? = some (encS s) := by rw [List.getElem?_map, hs]; rfl
    have htk : o.take (k + 1) = o.take k ++ [s] := by rw [List.take_add_one, hs]; rfl
    refine G.region rfl (fun R hR => ?_)
    refine D.pure rfl rfl rfl rfl rfl rfl ?_
    refine D.index0 (hvo.mono (by (repeat (first | exact Mem.le.refl _ | assumption | (apply Mem.le.trans; rotate_left; assumption))))) rfl rfl rfl rfl rfl rfl rfl rfl rfl rfl (by omega) hrs (fun _ => rfl) (fun p22 hp22 => ?_)
    refine D.loadP0 hp22 rfl rfl rfl rfl rfl rfl rfl rfl ?_
    iterate 2 refine D.pure rfl rfl rfl rfl rfl rfl ?_
    refine D.done [(0, [], _), (5, [], _), (6, [], _), (7, [], _), (17, [], _), (18, [], _), (19, [], _)] ⟨rfl, rfl, rfl, rfl, rfl, rfl, rfl, trivial⟩ (hR _ _ _ rfl ?_); clear hR R
    refine G.region rfl (fun R hR => ?_)
    iterate 2 refine D.pure rfl rfl rfl rfl rfl rfl ?_
    refine D.lookupL keyS (.head _) rfl rfl rfl rfl rfl rfl rfl rfl (by kernel_rfl) rfl (look_at (o.take k) s) rfl rfl ?_
    iterate 5 refine D.pure rfl rfl rfl rfl rfl rfl ?_
    refine D.done [(0, [], _), (5, [], _), (6, [], _), (7, [], _), (9, [], _), (17, [], _), (18, [], _), (19, [], _)] ⟨rfl, rfl, rfl, rfl, rfl, rfl, rfl, rfl, trivial⟩ (hR _ _ _ rfl ?_); clear hR R
    refine G.region rfl (fun R hR => ?_)
    refine D.pure rfl rfl rfl rfl rfl rfl ?_
    refine D.done [(0, [], _), (5, [], _), (6, [], _), (7, [], _), (17, [], _), (18, [], _), (19, [], _), (30, [], _)] ⟨rfl, rfl, rfl, rfl, rfl, rfl, rfl, rfl, trivial⟩ (hR _ _ _ rfl ?_); clear hR R
    refine G.cond rfl (fun h30 => ?_) (fun h30 => ?_)
    · skip
      have h38' : s ∈ o.take k := by simpa using h30
      have hno : ordB l o = false := by
        unfold ordB
        have hn : ¬ o.Nodup := fun hn => by
          have h2 := hn.sublist (List.take_sublist (k + 1) o)
          rw [htk, List.nodup_append] at h2
          exact h2.2.2 s h38' s (by simp) rfl
        simp [hn]
      refine G.region rfl (fun R hR => ?_)
      refine D.pure rfl rfl rfl rfl rfl rfl ?_
      refine D.done [(4, [], _)] ⟨rfl, trivial⟩ (hR _ _ _ rfl ?_); clear hR R
      refine G.retN (G.dropAll (G.fin1 rfl rfl ?_))
      exact ⟨by rw [hno], rfl⟩
    · skip
      have h38' : s ∉ o.take k := by simpa using h30
      have hset := mset_atM (i := 0) h38'
      rw [← htk, List.length_take, Nat.min_eq_left (by omega), Nat.zero_add] at hset
      refine G.region rfl (fun R hR => ?_)
      iterate 3 refine D.pure rfl rfl rfl rfl rfl rfl ?_
      refine D.mapUpdate keyS (j := 0) rfl rfl rfl rfl rfl rfl rfl rfl rfl rfl (by kernel_rfl) ?_
      refine D.done [(0, [], _), (5, [], _), (17, [], _), (18, [], _), (19, [], _)] ⟨rfl, rfl, rfl, rfl, rfl, trivial⟩ (hR _ _ _ rfl ?_); clear hR R
      refine G.region rfl (fun R hR => ?_)
      refine D.i64 _ rfl rfl rfl rfl rfl (by omega) (by omega) rfl rfl ?_
      refine D.pure rfl rfl rfl rfl rfl rfl ?_
      refine D.done [(0, [], _), (5, [], _), (17, [], _), (18, [], _), (19, [], _)] ⟨rfl, rfl, rfl, rfl, rfl, trivial⟩ (hR _ _ _ rfl ?_); clear hR R
      refine G.eqL (L' := [.obj b16 (mapOf keyS.enc (atM (o.take (k + 1)) 0))]) (by rw [← hset]; rfl) ?_
      refine G.again (m' := o.length - (k + 1)) (by omega) (by (repeat (first | exact Mem.le.refl _ | assumption | (apply Mem.le.trans; rotate_left; assumption)))) (fr' := [(0, [], _), (5, [], _), (17, [], _), (18, [], _), (19, [], _)]) ⟨rfl, rfl, rfl, rfl, rfl, trivial⟩ ⟨k + 1, ⟨by omega, by rw [htk]; exact nodup_snoc hnd h38'⟩, rfl, rfl, rfl⟩
  · skip
    have hkl : o.length ≤ k := by
      have : ¬ k < o.length := by simpa using h20
      omega
    rw [List.take_of_length_le hkl] at hnd ⊢
    refine G.region rfl (fun R hR => ?_)
    iterate 3 refine D.pure rfl rfl rfl rfl rfl rfl ?_
    refine D.done [(0, [], _), (5, [], _), (35, [], _), (36, [], _), (37, [], _)] ⟨rfl, rfl, rfl, rfl, rfl, trivial⟩ (hR _ _ _ rfl ?_); clear hR R
    refine G.loop (fun fr C' L' μ => ∃ (k : Nat), (k ≤ l.length ∧ ∀ j, j < k → keptB l o j = true) ∧ fr = [(0, [], .slice A l.length c), (5, [], .map (some b16)), (35, [], .slice A l.length c), (36, [], .int .i64 l.length), (37, [], .int .i64 k)] ∧ L' = [.obj b16 (mapOf keyS.enc (atM o 0))] ∧ μ = l.length - k) (fr' := [(0, [], _), (5, [], _), (35, [], _), (36, [], _), (37, [], _)]) ⟨rfl, rfl, rfl, rfl, rfl, trivial⟩ ⟨0, ⟨Nat.zero_le _, fun j hj => by omega⟩, rfl, rfl, rfl⟩ (fun fr C1' L1' m hle1 hI => ?_)
    obtain ⟨k, ⟨hk2, hall⟩, rfl, rfl, rfl⟩ := hI
    refine G.region rfl (fun R hR => ?_)
    refine D.pure rfl rfl rfl rfl rfl rfl ?_
    refine D.done [(0, [], _), (5, [], _), (35, [], _), (36, [], _), (37, [], _), (38, [], _)] ⟨rfl, rfl, rfl, rfl, rfl, rfl, trivial⟩ (hR _ _ _ rfl ?_); clear hR R
    refine G.cond rfl (fun h38 => ?_) (fun h38 => ?_)
    · skip
      have hkl2 : k < l.length := by simpa using h38
      have hrx := (gR_at (l := l) (i := (k : Int)) (by omega) (by omega)).2
      refine G.region rfl (fun R hR => ?_)
      refine D.pure rfl rfl rfl rfl rfl rfl ?_
      refine D.index0 (hv.mono (by (repeat (first | exact Mem.le.refl _ | assumption | (apply Mem.le.trans; rotate_left; assumption))))) rfl rfl rfl rfl rfl rfl rfl rfl rfl rfl (by omega) hrx (fun _ => rfl) (fun p40 hp40 => ?_)
      refine D.loadP0 hp40 rfl rfl rfl rfl rfl rfl rfl rfl ?_
      refine D.alloc rfl rfl rfl rfl rfl (fun _ => rfl) (fun b11 => ?_)
      refine D.pure rfl rfl rfl rfl rfl rfl ?_
      refine D.store (j := 0) rfl rfl rfl rfl rfl rfl rfl rfl rfl rfl rfl rfl ?_
      refine D.done [(0, [], _), (5, [], _), (10, [], _), (11, [], _), (35, [], _), (36, [], _), (37, [], _)] ⟨rfl, rfl, rfl, rfl, rfl, rfl, rfl, trivial⟩ (hR _ _ _ rfl ?_); clear hR R
      refine G.region rfl (fun R hR => ?_)
      iterate 2 refine D.pure rfl rfl rfl rfl rfl rfl ?_
      refine D.loadL (.head _) rfl rfl rfl rfl rfl rfl rfl rfl rfl ?_
      refine D.lookupL keyS (.tail _ (.head _)) rfl rfl rfl rfl rfl rfl rfl rfl (by kernel_rfl) rfl (look_at o (gR l k).upper) rfl rfl ?_
      iterate 5 refine D.pure rfl rfl rfl rfl rfl rfl ?_
      refine D.done [(0, [], _), (5, [], _), (10, [], _), (11, [], _), (12, [], _), (13, [], _), (35, [], _), (36, [], _), (37, [], _)] ⟨rfl, rfl, rfl, rfl, rfl, rfl, rfl, rfl, rfl, trivial⟩ (hR _ _ _ rfl ?_); clear hR R
      refine G.region rfl (fun R hR => ?_)
      iterate 2 refine D.pure rfl rfl rfl rfl rfl rfl ?_
      refine D.loadL (.head _) rfl rfl rfl rfl rfl rfl rfl rfl rfl ?_
      refine D.lookupL keyS (.tail _ (.head _)) rfl rfl rfl rfl rfl rfl rfl rfl (by kernel_rfl) rfl (look_at o (gR l k).lower) rfl rfl ?_
      iterate 5 refine D.pure rfl rfl rfl rfl rfl rfl ?_
      refine D.done [(0, [], _), (5, [], _), (10, [], _), (12, [], _), (13, [], _), (14, [], _), (15, [], _), (35, [], _), (36, [], _), (37, [], _)] ⟨rfl, rfl, rfl, rfl, rfl, rfl, rfl, rfl, rfl, rfl, trivial⟩ (hR _ _ _ rfl ?_); clear hR R
      refine G.region rfl (fun R hR => ?_)
      iterate 5 refine D.pure rfl rfl rfl rfl rfl rfl ?_
      refine D.pickOr rfl rfl rfl rfl rfl rfl rfl rfl ?_
      iterate 3 refine D.pure rfl rfl rfl rfl rfl rfl ?_
      refine D.gives (fun _ => (carc_fn _ _ l k (hv.mono (by (repeat (first | exact Mem.le.refl _ | assumption | (apply Mem.le.trans; rotate_left; assumption))))))) rfl rfl rfl rfl rfl rfl rfl rfl rfl ?_
      iterate 4 refine D.pure rfl rfl rfl rfl rfl rfl ?_
      refine D.pickAnd rfl rfl rfl rfl rfl rfl rfl rfl ?_
      refine D.pickOr rfl rfl rfl rfl rfl rfl rfl rfl ?_
      refine D.done [(0, [], _), (5, [], _), (35, [], _), (36, [], _), (37, [], _), (71, [], _)] ⟨rfl, rfl, rfl, rfl, rfl, rfl, trivial⟩ (hR _ _ _ rfl ?_); clear hR R
      refine G.cond rfl (fun h71 => ?_) (fun h71 => ?_)
      · skip
        have hkp : keptB l o k = false := by
          unfold keptB
          cases h1 : decide ((gR l k).upper ∈ o) <;> cases h2 : decide ((gR l k).lower ∈ o) <;> try rfl
          rw [h1, h2] at h71
          simp at h71
          simp [h71.1, h71.2]
        have hno : ordB l o = false := by
          unfold ordB
          have : ((List.range l.length).all (keptB l o)) = false := by
            rw [List.all_eq_false]
            exact ⟨k, List.mem_range.2 hkl2, by rw [hkp]; decide⟩
          rw [this, Bool.and_false]
        refine G.region rfl (fun R hR => ?_)
        refine D.pure rfl rfl rfl rfl rfl rfl ?_
        refine D.done [(4, [], _)] ⟨rfl, trivial⟩ (hR _ _ _ rfl ?_); clear hR R
        refine G.retN (G.dropAll (G.fin1 rfl rfl ?_))
        exact ⟨by rw [hno], rfl⟩
      · skip
        have hkp : keptB l o k = true := by
          unfold keptB
          cases h1 : decide ((gR l k).upper ∈ o) <;> cases h2 : decide ((gR l k).lower ∈ o) <;> rw [h1, h2] at h71 <;> first
            | (simp at h71; done)
            | skip
          simp at h71
          simp
          cases h3 : arcB l k with
          | false => exact .inl rfl
          | true => exact .inr (by have := h71 h3; omega)
        refine G.region rfl (fun R hR => ?_)
        refine D.i64 _ rfl rfl rfl rfl rfl (by omega) (by omega) rfl rfl ?_
        refine D.pure rfl rfl rfl rfl rfl rfl ?_
        refine D.done [(0, [], _), (5, [], _), (35, [], _), (36, [], _), (37, [], _)] ⟨rfl, rfl, rfl, rfl, rfl, trivial⟩ (hR _ _ _ rfl ?_); clear hR R
        refine G.dropE 0 rfl ?_
        refine G.again (m' := l.length - (k + 1)) (by omega) (by (repeat (first | exact Mem.le.refl _ | assumption | (apply Mem.le.trans; rotate_left; assumption)))) (fr' := [(0, [], _), (5, [], _), (35, [], _), (36, [], _), (37, [], _)]) ⟨rfl, rfl, rfl, rfl, rfl, trivial⟩ ⟨k + 1, ⟨by omega, fun j hj => by
          by_cases e : j = k
          · rw [e]; exact hkp
          · exact hall j (by omega)⟩, rfl, rfl, rfl⟩
    · skip
      have hkl2 : l.length ≤ k := by
        have : ¬ k < l.length := by simpa using h38
        omega
      refine G.region rfl (fun R hR => ?_)
      refine D.pure rfl rfl rfl rfl rfl rfl ?_
      refine D.done [(4, [], _)] ⟨rfl, trivial⟩ (hR _ _ _ rfl ?_); clear hR R
      refine G.retN (G.dropAll (G.fin1 rfl rfl ?_))
      refine ⟨?_, rfl⟩
      have h1 : ((List.range l.length).all (keptB l o)) = true := by
        rw [List.all_eq_true]
        exact fun j hj => hall j (by have := List.mem_range.1 hj; omega)
      unfold ordB
      rw [h1]
      simp [hnd]
end Go.Proofs.YtjcienaflbhedaaGreatDoor
namespace Go.Proofs.YtjcienaflbhedaaGreatDoor
open Go Go.Jog
set_option maxRecDepth 100000

theorem indexI_fn (C : Mem) (v : Value) (xs : List Int) (g : FuncId) (cb : List Value) (p : Int → Bool) (hv : Sl C 1 v (xs.map encI)) (hcb : ∀ x ∈ xs, ∀ C', C.le C' → Gives cx.P g (.int .i64 x :: cb) C' (.bool (p x))) :
    Gives cx.P 52 [v, .func (.func g) #[] ⟨cb⟩] C (.int .i64 (findI p xs 0)) := by
  obtain ⟨A0, c0, rfl, hlx, hlx2, _⟩ := id hv
  have hmx : maxLen ≤ 9223372036854775807 := by simp [maxLen]
  simp only [List.length_map] at hv hlx hlx2 ⊢
  refine Fn.intro (by kernel_rfl) Tryz.func52 rfl 19 rfl rfl (fun w0 => ?_)
  refine G.region rfl (fun R hR => ?_)
  refine D.pure rfl rfl rfl rfl rfl rfl ?_
  refine D.done [(0, [], _), (1, [], _)] ⟨rfl, rfl, trivial⟩ (hR _ _ _ rfl ?_); clear hR R
  refine G.region rfl (fun R hR => ?_)
  iterate 3 refine D.pure rfl rfl rfl rfl rfl rfl ?_
  refine D.done [(0, [], _), (1, [], _), (7, [], _), (8, [], _)] ⟨rfl, rfl, rfl, rfl, trivial⟩ (hR _ _ _ rfl ?_); clear hR R
  refine G.loop (fun fr C' L' μ => ∃ (k : Nat), (k ≤ xs.length ∧ ∀ y ∈ xs.take k, p y = false) ∧ fr = [(0, [], .slice A0 xs.length c0), (1, [], .func (.func g) #[] ⟨cb⟩), (7, [], .int .i64 xs.length), (8, [], .int .i64 k)] ∧ L' = [] ∧ μ = xs.length - k) (fr' := [(0, [], _), (1, [], _), (7, [], _), (8, [], _)]) ⟨rfl, rfl, rfl, rfl, trivial⟩ ⟨0, ⟨Nat.zero_le _, by simp⟩, rfl, rfl, rfl⟩ (fun fr C0' L0' m hle0 hI => ?_)
  obtain ⟨k, ⟨hk, hall⟩, rfl, rfl, rfl⟩ := hI
  refine G.region rfl (fun R hR => ?_)
  refine D.pure rfl rfl rfl rfl rfl rfl ?_
  refine D.done [(0, [], _), (1, [], _), (7, [], _), (8, [], _), (9, [], _)] ⟨rfl, rfl, rfl, rfl, rfl, trivial⟩ (hR _ _ _ rfl ?_); clear hR R
  refine G.cond rfl (fun h9 => ?_) (fun h9 => ?_)
  · skip
    have hkl : k < xs.length := by simpa using h9
    obtain ⟨x, hx⟩ : ∃ x, xs[k]? = some x := ⟨xs[k], List.getElem?_eq_getElem hkl⟩
    have hrow : (xs.map encI)[k]? = some (encI x) := by rw [List.getElem?_map, hx]; rfl
    refine G.region rfl (fun R hR => ?_)
    iterate 2 refine D.pure rfl rfl rfl rfl rfl rfl ?_
    refine D.done [(0, [], _), (1, [], _), (5, [], _), (7, [], _), (8, [], _)] ⟨rfl, rfl, rfl, rfl, rfl, trivial⟩ (hR _ _ _ rfl ?_); clear hR R
    refine G.region rfl (fun R hR => ?_)
    iterate 3 refine D.pure rfl rfl rfl rfl rfl rfl ?_
    refine D.index0 (hv.mono (by (repeat (first | exact Mem.le.refl _ | assumption | (apply Mem.le.trans; rotate_left; assumption))))) rfl rfl rfl rfl rfl rfl rfl rfl rfl rfl (by omega) hrow (fun _ => rfl) (fun p14 hp14 => ?_)
    refine D.loadP0 hp14 rfl rfl rfl rfl rfl rfl rfl rfl ?_
    refine D.gives2 (hcb x (List.mem_of_getElem? hx) _ (by (repeat (first | exact Mem.le.refl _ | assumption | (apply Mem.le.trans; rotate_left; assumption))))) rfl rfl rfl rfl rfl rfl rfl (fun _ => rfl) ?_
    refine D.done [(0, [], _), (1, [], _), (5, [], _), (7, [], _), (8, [], _), (16, [], _)] ⟨rfl, rfl, rfl, rfl, rfl, rfl, trivial⟩ (hR _ _ _ rfl ?_); clear hR R
    refine G.cond rfl (fun h16 => ?_) (fun h16 => ?_)
    · skip
      refine G.region rfl (fun R hR => ?_)
      iterate 2 refine D.pure rfl rfl rfl rfl rfl rfl ?_
      refine D.done [(4, [], _)] ⟨rfl, trivial⟩ (hR _ _ _ rfl ?_); clear hR R
      refine G.retN (G.dropAll (G.fin1 rfl rfl ?_))
      refine ⟨?_, rfl⟩
      rw [findI_at (k := k) (j := 0) hx hall h16, Nat.zero_add]
    · skip
      refine G.region rfl (fun R hR => ?_)
      refine D.i64 _ rfl rfl rfl rfl rfl (by omega) (by omega) rfl rfl ?_
      refine D.pure rfl rfl rfl rfl rfl rfl ?_
      refine D.done [(0, [], _), (1, [], _), (7, [], _), (8, [], _)] ⟨rfl, rfl, rfl, rfl, trivial⟩ (hR _ _ _ rfl ?_); clear hR R
      refine G.again (m' := xs.length - (k + 1)) (by omega) hle0 (fr' := [(0, [], _), (1, [], _), (7, [], _), (8, [], _)]) ⟨rfl, rfl, rfl, rfl, trivial⟩ ⟨k + 1, ⟨by omega, fun y hy => by
        rw [List.take_add_one, hx] at hy
        rcases List.mem_append.1 hy with h6 | h6
        · exact hall y h6
        · simp only [Option.toList_some, List.mem_singleton] at h6
          subst h6
          exact h16⟩, rfl, rfl, rfl⟩
  · skip
    have hkl : xs.length ≤ k := by
      have : ¬ k < xs.length := by simpa using h9
      omega
    refine G.region rfl (fun R hR => ?_)
    refine D.pure rfl rfl rfl rfl rfl rfl ?_
    refine D.done [(4, [], _)] ⟨rfl, trivial⟩ (hR _ _ _ rfl ?_); clear hR R
    refine G.retN (G.dropAll (G.fin1 rfl rfl ?_))
    rw [List.take_of_length_le hkl] at hall
    exact ⟨by rw [findI_none hall], rfl⟩
theorem contI_fn (C : Mem) (v : Value) (xs : List Int) (g : FuncId) (cb : List Value) (p : Int → Bool) (hv : Sl C 1 v (xs.map encI)) (hcb : ∀ x ∈ xs, ∀ C', C.le C' → Gives cx.P g (.int .i64 x :: cb) C' (.bool (p x))) :
    Gives cx.P 22 [v, .func (.func g) #[] ⟨cb⟩] C (.bool (xs.any p)) := by
  obtain ⟨A0, c0, rfl, hlx, hlx2, _⟩ := id hv
  refine Fn.intro (by kernel_rfl) Tryz.func22 rfl 9 rfl rfl (fun w0 => ?_)
  refine G.region rfl (fun R hR => ?_)
  refine D.pure rfl rfl rfl rfl rfl rfl ?_
  refine D.done [(0, [], _), (1, [], _)] ⟨rfl, rfl, trivial⟩ (hR _ _ _ rfl ?_); clear hR R
  refine G.region rfl (fun R hR => ?_)
  iterate 2 refine D.pure rfl rfl rfl rfl rfl rfl ?_
  refine D.gives2 (indexI_fn _ _ xs g cb p hv hcb) rfl rfl rfl rfl rfl rfl rfl (fun _ => rfl) ?_
  iterate 2 refine D.pure rfl rfl rfl rfl rfl rfl ?_
  refine D.done [(4, [], _)] ⟨rfl, trivial⟩ (hR _ _ _ rfl ?_); clear hR R
  refine G.retN (G.dropAll (G.fin1 rfl rfl ?_))
  exact ⟨by rw [findI_any], rfl⟩
theorem cycle1_fn (C : Mem) (A : Option Addr) (n c b : Nat) (l : List Rel) (i : Int) (hv : Sl C 3 (.slice A n c) (l.map Rel.enc)) (hb : C b = some (.cells ⟨[.slice A n c]⟩ 28 (0, 0))) : Gives cx.P 23 [.int .i64 i, .pointer (some ⟨b, 0, none⟩)] C (.bool (!arcB l i)) := by
  refine Fn.intro (by kernel_rfl) Tryz.func23 rfl 8 rfl rfl (fun w0 => ?_)
  refine G.region rfl (fun R hR => ?_)
  refine D.pure rfl rfl rfl rfl rfl rfl ?_
  refine D.done [(0, [], _), (1, [], _)] ⟨rfl, rfl, trivial⟩ (hR _ _ _ rfl ?_); clear hR R
  refine G.region rfl (fun R hR => ?_)
  refine D.loadP0 (PtrTo.block (Mem.get hb (by (repeat (first | exact Mem.le.refl _ | assumption | (apply Mem.le.trans; rotate_left; assumption))))) _) rfl rfl rfl rfl rfl rfl rfl rfl ?_
  refine D.pure rfl rfl rfl rfl rfl rfl ?_
  refine D.gives2 (carc_fn _ _ l i (hv.mono (by (repeat (first | exact Mem.le.refl _ | assumption | (apply Mem.le.trans; rotate_left; assumption)))))) rfl rfl rfl rfl rfl rfl rfl (fun _ => rfl) ?_
  iterate 2 refine D.pure rfl rfl rfl rfl rfl rfl ?_
  refine D.done [(3, [], _)] ⟨rfl, trivial⟩ (hR _ _ _ rfl ?_); clear hR R
  refine G.retN (G.dropAll (G.fin1 rfl rfl ?_))
  exact ⟨rfl, rfl⟩
def cI (c : List Int) (k : Nat) : Int := c.getD k 0
theorem cI_at {c : List Int} {k : Nat} (h : k < c.length) : c[k]? = some (cI c k) := by
  unfold cI; rw [List.getD_eq_getElem?_getD, List.getElem?_eq_getElem h]; rfl
def lowsM (l : List Rel) (c : List Int) (k : Nat) : List Str := (c.take k).map fun i => (gR l i).lower
/-- The arc at a place leads on from the one before, from a unit that is new. -/
def stepB (l : List Rel) (c : List Int) (k : Nat) : Bool := decide ((gR l (cI c ((k + c.length - 1) % c.length))).upper = (gR l (cI c k)).lower) && !decide ((gR l (cI c k)).lower ∈ lowsM l c k)
def cycB (l : List Rel) (c : List Int) : Bool := !decide (c.length = 0) && c.all (arcB l) && (List.range c.length).all (stepB l c)
set_option maxHeartbeats 1000000 in
theorem ccycle_fn (C : Mem) (v vc : Value) (l : List Rel) (c : List Int) (hv : Sl C 3 v (l.map Rel.enc)) (hc : Sl C 1 vc (c.map encI)) (hcl : c.length ≤ 1000000) : Gives cx.P 12 [v, vc] C (.bool (cycB l c)) := by
  obtain ⟨A, ca, rfl, hl1, hl2, _⟩ := id hv
  obtain ⟨Ac, cc, rfl, hc1, hc2, _⟩ := id hc
  have hmx : maxLen ≤ 9223372036854775807 := by simp [maxLen]
  simp only [List.length_map] at hv hc hl1 hc1 ⊢
  refine Fn.intro (by kernel_rfl) Tryz.func12 rfl 63 rfl rfl (fun w0 => ?_)
  refine G.region rfl (fun R hR => ?_)
  refine D.box rfl rfl rfl rfl rfl rfl (fun _ => rfl) (fun b2 => ?_)
  refine D.pure rfl rfl rfl rfl rfl rfl ?_
  refine D.done [(1, [], _), (2, [], _)] ⟨rfl, rfl, trivial⟩ (hR _ _ _ rfl ?_); clear hR R
  refine G.freeze 0 rfl (fun Cg hgg hb2 => ?_)
  refine G.region rfl (fun R hR => ?_)
  iterate 6 refine D.pure rfl rfl rfl rfl rfl rfl ?_
  refine D.gives (fun _ => (contI_fn _ _ c 23 [.pointer (some ⟨b2, 0, none⟩)] (fun i => !arcB l i) (hc.mono (by (repeat (first | exact Mem.le.refl _ | assumption | (apply Mem.le.trans; rotate_left; assumption))))) (fun x _ C' hC => cycle1_fn C' A l.length ca b2 l x (hv.mono (by (repeat (first | exact Mem.le.refl _ | assumption | (apply Mem.le.trans; rotate_left; assumption))))) (Mem.get hb2 (by (repeat (first | exact Mem.le.refl _ | assumption | (apply Mem.le.trans; rotate_left; assumption)))))))) rfl rfl rfl rfl rfl rfl rfl rfl rfl ?_
  refine D.pickOr rfl rfl rfl rfl rfl rfl rfl rfl ?_
  refine D.done [(1, [], _), (2, [], _), (16, [], _)] ⟨rfl, rfl, rfl, trivial⟩ (hR _ _ _ rfl ?_); clear hR R
  refine G.cond rfl (fun h16 => ?_) (fun h16 => ?_)
  · skip
    have hno : cycB l c = false := by
      unfold cycB
      cases h1 : decide (c.length = 0) with
      | true => rfl
      | false =>
        have h2 : ¬ c.length = 0 := of_decide_eq_false h1
        have h3 : (c.any fun i => !arcB l i) = true := by simpa [h2] using h16
        obtain ⟨x, hx, hx2⟩ := List.any_eq_true.1 h3
        have h4 : c.all (arcB l) = false := by
          rw [List.all_eq_false]
          exact ⟨x, hx, by simpa using hx2⟩
        rw [h4]; rfl
    refine G.region rfl (fun R hR => ?_)
    refine D.pure rfl rfl rfl rfl rfl rfl ?_
    refine D.done [(4, [], _)] ⟨rfl, trivial⟩ (hR _ _ _ rfl ?_); clear hR R
    refine G.retN (G.dropAll (G.fin1 rfl rfl ?_))
    exact ⟨by rw [hno], rfl⟩
  · skip
    have h1 : ¬ c.length = 0 := by
      intro h
      simp [h] at h16
    have h3 : ∀ x ∈ c, arcB l x = true := by
      have h4 : (c.any fun i => !arcB l i) = false := by
        rw [Bool.or_eq_false_iff] at h16
        exact h16.2
      intro x hx
      have := List.any_eq_false.1 h4 x hx
      simpa using this
    have hin : ∀ k, k < c.length → 0 ≤ cI c k ∧ cI c k < l.length := fun k hk => arcB_in (h3 _ (List.mem_of_getElem? (cI_at hk)))
    have hcy : cycB l c = (List.range c.length).all (stepB l c) := by
      unfold cycB
      have e : c.all (arcB l) = true := List.all_eq_true.2 h3
      rw [e]
      simp [h1]
    refine G.region rfl (fun R hR => ?_)
    refine D.makeMap keyS rfl rfl rfl rfl (fun _ => rfl) (fun b17 => ?_)
    refine D.pure rfl rfl rfl rfl rfl rfl ?_
    refine D.done [(1, [], _), (2, [], _), (5, [], _)] ⟨rfl, rfl, rfl, trivial⟩ (hR _ _ _ rfl ?_); clear hR R
    refine G.region rfl (fun R hR => ?_)
    iterate 3 refine D.pure rfl rfl rfl rfl rfl rfl ?_
    refine D.done [(1, [], _), (2, [], _), (5, [], _), (18, [], _), (19, [], _), (20, [], _)] ⟨rfl, rfl, rfl, rfl, rfl, rfl, trivial⟩ (hR _ _ _ rfl ?_); clear hR R
    refine G.loop (fun fr C' L' μ => ∃ (k : Nat) (ms : List (Str × Value)), (k ≤ c.length ∧ (∀ j, j < k → stepB l c j = true) ∧ ∀ s, mget ms s = if s ∈ lowsM l c k then some (.bool true) else none) ∧ fr = [(1, [], .slice Ac c.length cc), (2, [], .pointer (some ⟨b2, 0, none⟩)), (5, [], .map (some b17)), (18, [], .slice Ac c.length cc), (19, [], .int .i64 c.length), (20, [], .int .i64 k)] ∧ L' = [.obj b17 (mapOf keyS.enc ms)] ∧ μ = c.length - k) (fr' := [(1, [], _), (2, [], _), (5, [], _), (18, [], _), (19, [], _), (20, [], _)]) ⟨rfl, rfl, rfl, rfl, rfl, rfl, trivial⟩ ⟨0, [], ⟨Nat.zero_le _, fun j hj => by omega, fun s => by simp [lowsM, mget]⟩, rfl, rfl, rfl⟩ (fun fr C0' L0' m hle0 hI => ?_)
    obtain ⟨k, ms, ⟨hk, hall, hms⟩, rfl, rfl, rfl⟩ := hI
    refine G.region rfl (fun R hR => ?_)
    refine D.pure rfl rfl rfl rfl rfl rfl ?_
    refine D.done [(1, [], _), (2, [], _), (5, [], _), (18, [], _), (19, [], _), (20, [], _), (21, [], _)] ⟨rfl, rfl, rfl, rfl, rfl, rfl, rfl, trivial⟩ (hR _ _ _ rfl ?_); clear hR R
    refine G.cond rfl (fun h21 => ?_) (fun h21 => ?_)
    · skip
      have hkl : k < c.length := by simpa using h21
      have hrow : (c.map encI)[k]? = some (encI (cI c k)) := by rw [List.getElem?_map, cI_at hkl]; rfl
      have hmod : (k + c.length - 1) % c.length < c.length := Nat.mod_lt _ (by omega)
      have hrow2 : (c.map encI)[(k + c.length - 1) % c.length]? = some (encI (cI c ((k + c.length - 1) % c.length))) := by rw [List.getElem?_map, cI_at hmod]; rfl
      obtain ⟨i0, i1⟩ := hin k hkl
      obtain ⟨j0, j1⟩ := hin _ hmod
      have hlook : lookV (.bool false) false (mget ms (gR l (cI c k)).lower) = .bool (decide ((gR l (cI c k)).lower ∈ lowsM l c k)) := by
        rw [hms]
        by_cases h : (gR l (cI c k)).lower ∈ lowsM l c k
        · simp [h, lookV]
        · simp [h, lookV]
      refine G.region rfl (fun R hR => ?_)
      refine D.pure rfl rfl rfl rfl rfl rfl ?_
      refine D.index0 (hc.mono (by (repeat (first | exact Mem.le.refl _ | assumption | (apply Mem.le.trans; rotate_left; assumption))))) rfl rfl rfl rfl rfl rfl rfl rfl rfl rfl (by omega) hrow (fun _ => rfl) (fun p23 hp23 => ?_)
      refine D.loadP0 hp23 rfl rfl rfl rfl rfl rfl rfl rfl ?_
      iterate 2 refine D.pure rfl rfl rfl rfl rfl rfl ?_
      refine D.done [(1, [], _), (2, [], _), (5, [], _), (6, [], _), (7, [], _), (18, [], _), (19, [], _), (20, [], _)] ⟨rfl, rfl, rfl, rfl, rfl, rfl, rfl, rfl, trivial⟩ (hR _ _ _ rfl ?_); clear hR R
      refine G.region rfl (fun R hR => ?_)
      iterate 4 refine D.pure rfl rfl rfl rfl rfl rfl ?_
      refine D.i64 (((k + c.length : Nat) : Int)) rfl rfl rfl rfl (by omega) (by omega) (by omega) rfl rfl ?_
      refine D.i64 (((k + c.length - 1 : Nat) : Int)) rfl rfl rfl rfl (by omega) (by omega) (by omega) rfl rfl ?_
      iterate 2 refine D.pure rfl rfl rfl rfl rfl rfl ?_
      refine D.rem rfl rfl rfl rfl rfl rfl (by omega) (by omega) rfl rfl ?_
      refine D.index0 (hc.mono (by (repeat (first | exact Mem.le.refl _ | assumption | (apply Mem.le.trans; rotate_left; assumption))))) rfl rfl rfl rfl rfl rfl rfl rfl rfl rfl (by omega) hrow2 (fun _ => rfl) (fun p34 hp34 => ?_)
      refine D.loadP0 hp34 rfl rfl rfl rfl rfl rfl rfl rfl ?_
      refine D.pure rfl rfl rfl rfl rfl rfl ?_
      refine D.done [(1, [], _), (2, [], _), (5, [], _), (7, [], _), (8, [], _), (18, [], _), (19, [], _), (20, [], _)] ⟨rfl, rfl, rfl, rfl, rfl, rfl, rfl, rfl, trivial⟩ (hR _ _ _ rfl ?_); clear hR R
      refine G.draw [0, 1, 2, 3, 4, 5, 6, 7, 8, 9, 10, 11, 12, 13, 14, 15, 16, 17, 18, 19] [] rfl (by kernel_rfl) (fun R hB hR => ?_)
      refine D.loadP0 (PtrTo.block (Mem.get hb2 (by (repeat (first | exact Mem.le.refl _ | assumption | (apply Mem.le.trans; rotate_left; assumption))))) _) rfl rfl rfl rfl rfl rfl rfl rfl ?_
      refine D.pure rfl rfl rfl rfl rfl rfl ?_
      refine D.index0 (hv.mono (by (repeat (first | exact Mem.le.refl _ | assumption | (apply Mem.le.trans; rotate_left; assumption))))) rfl rfl rfl rfl rfl rfl rfl rfl rfl rfl (by omega) (gR_at j0 j1).2 (fun _ => rfl) (fun p38 hp38 => ?_)
      refine D.fieldP0 hp38 rfl rfl rfl rfl rfl rfl rfl rfl rfl rfl (fun _ => rfl) (fun p39 hp39 => ?_)
      refine D.loadP0 hp39 rfl rfl rfl rfl rfl rfl rfl rfl ?_
      refine D.loadP0 (PtrTo.block (Mem.get hb2 (by (repeat (first | exact Mem.le.refl _ | assumption | (apply Mem.le.trans; rotate_left; assumption))))) _) rfl rfl rfl rfl rfl rfl rfl rfl ?_
      refine D.pure rfl rfl rfl rfl rfl rfl ?_
      refine D.index0 (hv.mono (by (repeat (first | exact Mem.le.refl _ | assumption | (apply Mem.le.trans; rotate_left; assumption))))) rfl rfl rfl rfl rfl rfl rfl rfl rfl rfl (by omega) (gR_at i0 i1).2 (fun _ => rfl) (fun p43 hp43 => ?_)
      refine D.fieldP0 hp43 rfl rfl rfl rfl rfl rfl rfl rfl rfl rfl (fun _ => rfl) (fun p44 hp44 => ?_)
      refine D.loadP0 hp44 rfl rfl rfl rfl rfl rfl rfl rfl ?_
      iterate 3 refine D.pure rfl rfl rfl rfl rfl rfl ?_
      refine D.loadP rfl rfl rfl rfl rfl rfl (fun _ => PtrTo.block (Mem.get hb2 (by (repeat (first | exact Mem.le.refl _ | assumption | (apply Mem.le.trans; rotate_left; assumption))))) _) rfl rfl rfl ?_
      refine D.pure rfl rfl rfl rfl rfl rfl ?_
      refine D.index rfl rfl rfl rfl rfl rfl rfl rfl rfl rfl (fun hg => ⟨(hv.mono (by (repeat (first | exact Mem.le.refl _ | assumption | (apply Mem.le.trans; rotate_left; assumption))))), by omega, (gR_at i0 i1).2⟩) (fun _ => rfl) rfl (fun p51 hp51 => ?_)
      refine D.fieldP rfl rfl rfl rfl rfl rfl rfl rfl rfl rfl hp51 (fun _ => rfl) rfl (fun p52 hp52 => ?_)
      refine D.loadP rfl rfl rfl rfl rfl rfl hp52 rfl rfl rfl ?_
      refine D.lookupL keyS (.head _) rfl rfl rfl rfl rfl rfl rfl rfl (by kernel_rfl) rfl hlook rfl rfl ?_
      refine D.pickOr rfl rfl rfl rfl rfl rfl rfl rfl ?_
      refine D.done [(1, [], _), (2, [], _), (5, [], _), (7, [], _), (18, [], _), (19, [], _), (20, [], _), (55, [], _)] ⟨rfl, rfl, rfl, rfl, rfl, rfl, rfl, rfl, trivial⟩ (hR _ _ _ rfl ?_); clear hR hB R
      refine G.cond rfl (fun h55 => ?_) (fun h55 => ?_)
      · skip
        have hst : stepB l c k = false := by
          unfold stepB
          by_cases e : (gR l (cI c ((k + c.length - 1) % c.length))).upper = (gR l (cI c k)).lower
          · simp [e] at h55
            simp [e, h55]
          · simp [e]
        have hno : cycB l c = false := by
          rw [hcy, List.all_eq_false]
          exact ⟨k, List.mem_range.2 hkl, by rw [hst]; decide⟩
        refine G.region rfl (fun R hR => ?_)
        refine D.pure rfl rfl rfl rfl rfl rfl ?_
        refine D.done [(4, [], _)] ⟨rfl, trivial⟩ (hR _ _ _ rfl ?_); clear hR R
        refine G.retN (G.dropAll (G.fin1 rfl rfl ?_))
        exact ⟨by rw [hno], rfl⟩
      · skip
        have hst : stepB l c k = true := by
          unfold stepB
          simp at h55
          simp [h55.1, h55.2]
        refine G.region rfl (fun R hR => ?_)
        refine D.pure rfl rfl rfl rfl rfl rfl ?_
        refine D.loadP0 (PtrTo.block (Mem.get hb2 (by (repeat (first | exact Mem.le.refl _ | assumption | (apply Mem.le.trans; rotate_left; assumption))))) _) rfl rfl rfl rfl rfl rfl rfl rfl ?_
        refine D.pure rfl rfl rfl rfl rfl rfl ?_
        refine D.index0 (hv.mono (by (repeat (first | exact Mem.le.refl _ | assumption | (apply Mem.le.trans; rotate_left; assumption))))) rfl rfl rfl rfl rfl rfl rfl rfl rfl rfl (by omega) (gR_at i0 i1).2 (fun _ => rfl) (fun p59 hp59 => ?_)
        refine D.fieldP0 hp59 rfl rfl rfl rfl rfl rfl rfl rfl rfl rfl (fun _ => rfl) (fun p60 hp60 => ?_)
        refine D.loadP0 hp60 rfl rfl rfl rfl rfl rfl rfl rfl ?_
        refine D.mapUpdate keyS (j := 0) rfl rfl rfl rfl rfl rfl rfl rfl rfl rfl (by kernel_rfl) ?_
        refine D.done [(1, [], _), (2, [], _), (5, [], _), (18, [], _), (19, [], _), (20, [], _)] ⟨rfl, rfl, rfl, rfl, rfl, rfl, trivial⟩ (hR _ _ _ rfl ?_); clear hR R
        refine G.region rfl (fun R hR => ?_)
        refine D.i64 _ rfl rfl rfl rfl rfl (by omega) (by omega) rfl rfl ?_
        refine D.pure rfl rfl rfl rfl rfl rfl ?_
        refine D.done [(1, [], _), (2, [], _), (5, [], _), (18, [], _), (19, [], _), (20, [], _)] ⟨rfl, rfl, rfl, rfl, rfl, rfl, trivial⟩ (hR _ _ _ rfl ?_); clear hR R
        refine G.again (m' := c.length - (k + 1)) (by omega) (by (repeat (first | exact Mem.le.refl _ | assumption | (apply Mem.le.trans; rotate_left; assumption)))) (fr' := [(1, [], _), (2, [], _), (5, [], _), (18, [], _), (19, [], _), (20, [], _)]) ⟨rfl, rfl, rfl, rfl, rfl, rfl, trivial⟩ ⟨k + 1, mset ms (gR l (cI c k)).lower (.bool true), ⟨by omega, fun j hj => by
          by_cases e : j = k
          · rw [e]; exact hst
          · exact hall j (by omega), fun s => by
          have e1 : lowsM l c (k + 1) = lowsM l c k ++ [(gR l (cI c k)).lower] := by
            unfold lowsM
            rw [List.take_add_one, cI_at hkl]; simp
          by_cases e : (gR l (cI c k)).lower = s
          · subst e
            rw [mget_mset_same, e1]; simp
          · rw [mget_mset_other e, hms, e1]
            have e2 : ¬ s = (gR l (cI c k)).lower := fun h => e h.symm
            simp [e2]⟩, rfl, rfl, rfl⟩
    · skip
      have hkl : c.length ≤ k := by
        have : ¬ k < c.length := by simpa using h21
        omega
      refine G.region rfl (fun R hR => ?_)
      refine D.pure rfl rfl rfl rfl rfl rfl ?_
      refine D.done [(4, [], _)] ⟨rfl, trivial⟩ (hR _ _ _ rfl ?_); clear hR R
      refine G.retN (G.dropAll (G.fin1 rfl rfl ?_))
      refine ⟨?_, rfl⟩
      have h5 : (List.range c.length).all (stepB l c) = true := by
        rw [List.all_eq_true]
        exact fun j hj => hall j (by have := List.mem_range.1 hj; omega)
      rw [hcy, h5]
end Go.Proofs.YtjcienaflbhedaaGreatDoor
namespace Go.Proofs.YtjcienaflbhedaaGreatDoor
open Go Go.Jog
set_option maxRecDepth 100000

def kl : List Rel := [⟨1, [66], [65]⟩, ⟨1, [67], [66]⟩, ⟨1, [67], [65]⟩]
theorem kn1 (C : Mem) : Gives cx.P 7 [strV [51, 47, 54]] C (.bool false) := by
  have h := number_fn C [51, 47, 54] (by decide)
  rw [show (readM [51, 47, 54]).isSome = false by decide +kernel] at h
  exact h
theorem kn2 (C : Mem) : Gives cx.P 7 [strV [45, 51, 47, 50]] C (.bool true) := by
  have h := number_fn C [45, 51, 47, 50] (by decide)
  rw [show (readM [45, 51, 47, 50]).isSome = true by decide +kernel] at h
  exact h
theorem ki1 (C : Mem) (v vb : Value) (hv : Sl C 3 v (kl.map Rel.enc)) (hb : Sl C 1 vb (([0, 1] : List Int).map encI)) : Gives cx.P 15 [v, .int .i64 2, vb] C (.bool true) := by
  have h := implied_fn C v vb kl 2 [0, 1] hv hb
  rw [show impB kl 2 [0, 1] = true by decide +kernel] at h
  exact h
theorem ki2 (C : Mem) (v vb : Value) (hv : Sl C 3 v (kl.map Rel.enc)) (hb : Sl C 1 vb (([1, 0] : List Int).map encI)) : Gives cx.P 15 [v, .int .i64 2, vb] C (.bool false) := by
  have h := implied_fn C v vb kl 2 [1, 0] hv hb
  rw [show impB kl 2 [1, 0] = false by decide +kernel] at h
  exact h
theorem ko1 (C : Mem) (v vo : Value) (hv : Sl C 3 v (kl.map Rel.enc)) (ho : Sl C 1 vo (([[65], [66], [67]] : List Str).map encS)) : Gives cx.P 11 [v, vo] C (.bool true) := by
  have h := order_fn C v vo kl [[65], [66], [67]] hv ho
  rw [show ordB kl [[65], [66], [67]] = true by decide +kernel] at h
  exact h
theorem ko2 (C : Mem) (v vo : Value) (hv : Sl C 3 v (kl.map Rel.enc)) (ho : Sl C 1 vo (([[66], [65], [67]] : List Str).map encS)) : Gives cx.P 11 [v, vo] C (.bool false) := by
  have h := order_fn C v vo kl [[66], [65], [67]] hv ho
  rw [show ordB kl [[66], [65], [67]] = false by decide +kernel] at h
  exact h
def kr : List (List Str × Str) := [([[45, 49]], [45, 49]), ([[49]], [51])]
theorem kp1 (C : Mem) (hT : Tabs C) (v vo vp : Value) (A : Option Addr) (n c : Nat) (hv : RowsIn C v kr) (ho : Sl C 1 vo (([[49]] : List Str).map encS)) (hp : Sl C 1 vp (([[49]] : List Str).map encS)) (hd : Sl C 1 (.slice A n c) (([[49], [48]] : List Str).map encS)) : Gives cx.P 16 [v, vo, vp, .agg ⟨[.slice A n c]⟩] C (.bool true) := by
  have h := optimal_fn C hT v vo vp A n c kr [[49]] [[49]] [[49], [48]] hv ho hp hd (by decide) (by decide) (by decide) (by decide) (by decide) (by decide) (by decide) (by decide)
  rw [show optM kr [[49]] [[49]] [[49], [48]] = true by decide +kernel] at h
  exact h
theorem kp2 (C : Mem) (hT : Tabs C) (v vo vp : Value) (A : Option Addr) (n c : Nat) (hv : RowsIn C v kr) (ho : Sl C 1 vo (([[49]] : List Str).map encS)) (hp : Sl C 1 vp (([[50]] : List Str).map encS)) (hd : Sl C 1 (.slice A n c) (([[49], [48]] : List Str).map encS)) : Gives cx.P 16 [v, vo, vp, .agg ⟨[.slice A n c]⟩] C (.bool false) := by
  have h := optimal_fn C hT v vo vp A n c kr [[49]] [[50]] [[49], [48]] hv ho hp hd (by decide) (by decide) (by decide) (by decide) (by decide) (by decide) (by decide) (by decide)
  rw [show optM kr [[49]] [[50]] [[49], [48]] = false by decide +kernel] at h
  exact h
set_option maxHeartbeats 2000000 in
theorem known_fn (C : Mem) (hT : Tabs C) : Gives cx.P 6 [] C (.bool true) := by
  refine Fn.intro (by kernel_rfl) Tryz.func6 rfl 63 rfl rfl (fun w0 => ?_)
  refine G.region rfl (fun R hR => ?_)
  refine D.pure rfl rfl rfl rfl rfl rfl ?_
  refine D.done [] trivial (hR _ _ _ rfl ?_); clear hR R
  refine G.region rfl (fun R hR => ?_)
  refine D.build (Rel.mk 1 [66] [65]).enc rfl rfl rfl rfl rfl rfl rfl rfl ?_
  refine D.build (Rel.mk 1 [67] [66]).enc rfl rfl rfl rfl rfl rfl rfl rfl ?_
  refine D.build (Rel.mk 1 [67] [65]).enc rfl rfl rfl rfl rfl rfl rfl rfl ?_
  refine D.buildSlice (kl.map Rel.enc) rfl rfl rfl rfl rfl rfl rfl rfl rfl rfl rfl rfl (fun _ => rfl) (fun p8 C8 hle8 hs8 => ?_)
  refine D.pure rfl rfl rfl rfl rfl rfl ?_
  refine D.done [(1, [], _)] ⟨rfl, trivial⟩ (hR _ _ _ rfl ?_); clear hR R
  refine G.region rfl (fun R hR => ?_)
  refine D.buildSliceV [[strV [45, 49]]] rfl rfl rfl rfl rfl rfl rfl rfl rfl rfl rfl rfl (fun _ => rfl) (fun b9 C9 hle9 hs9 => ?_)
  refine D.build (RV.mk (some ⟨b9, 0, none⟩) 1 1 [45, 49]).enc rfl rfl rfl rfl rfl rfl rfl rfl ?_
  refine D.buildSliceV [[strV [49]]] rfl rfl rfl rfl rfl rfl rfl rfl rfl rfl rfl rfl (fun _ => rfl) (fun b11 C11 hle11 hs11 => ?_)
  refine D.build (RV.mk (some ⟨b11, 0, none⟩) 1 1 [51]).enc rfl rfl rfl rfl rfl rfl rfl rfl ?_
  refine D.buildSlice [(RV.mk (some ⟨b9, 0, none⟩) 1 1 [45, 49]).enc, (RV.mk (some ⟨b11, 0, none⟩) 1 1 [51]).enc] rfl rfl rfl rfl rfl rfl rfl rfl rfl rfl rfl rfl (fun _ => rfl) (fun p13 C13 hle13 hs13 => ?_)
  refine D.pure rfl rfl rfl rfl rfl rfl ?_
  refine D.done [(1, [], _), (2, [], _)] ⟨rfl, rfl, trivial⟩ (hR _ _ _ rfl ?_); clear hR R
  have hri : RowsIn C13 p13 kr := by
    refine ⟨[⟨some ⟨b9, 0, none⟩, 1, 1, [45, 49]⟩, ⟨some ⟨b11, 0, none⟩, 1, 1, [51]⟩], hs13, rfl, ?_⟩
    intro i r row hr hw
    match i with
    | 0 => cases hr; cases hw; exact ⟨hs9.mono (by (repeat (first | exact Mem.le.refl _ | assumption | (apply Mem.le.trans; rotate_left; assumption)))), rfl⟩
    | 1 => cases hr; cases hw; exact ⟨hs11.mono (by (repeat (first | exact Mem.le.refl _ | assumption | (apply Mem.le.trans; rotate_left; assumption)))), rfl⟩
    | i + 2 => simp at hr
  refine G.region rfl (fun R hR => ?_)
  refine D.buildSlice [[strV [49]]] rfl rfl rfl rfl rfl rfl rfl rfl rfl rfl rfl rfl (fun _ => rfl) (fun p14 C14 hle14 hs14 => ?_)
  refine D.pure rfl rfl rfl rfl rfl rfl ?_
  refine D.done [(1, [], _), (2, [], _), (3, [], _)] ⟨rfl, rfl, rfl, trivial⟩ (hR _ _ _ rfl ?_); clear hR R
  refine G.region rfl (fun R hR => ?_)
  refine D.buildSliceV [[strV [49]], [strV [48]]] rfl rfl rfl rfl rfl rfl rfl rfl rfl rfl rfl rfl (fun _ => rfl) (fun b15 C15 hle15 hs15 => ?_)
  refine D.build [.slice (some ⟨b15, 0, none⟩) 2 2] rfl rfl rfl rfl rfl rfl rfl rfl ?_
  refine D.alloc rfl rfl rfl rfl rfl (fun _ => rfl) (fun b4 => ?_)
  refine D.store (j := 0) rfl rfl rfl rfl rfl rfl rfl rfl rfl rfl rfl rfl ?_
  refine D.done [(1, [], _), (2, [], _), (3, [], _), (4, [], _)] ⟨rfl, rfl, rfl, rfl, trivial⟩ (hR _ _ _ rfl ?_); clear hR R
  refine G.region rfl (fun R hR => ?_)
  refine D.gives2 (kn1 _) rfl rfl rfl rfl rfl rfl rfl (fun _ => rfl) ?_
  iterate 2 refine D.pure rfl rfl rfl rfl rfl rfl ?_
  refine D.gives (fun _ => (kn2 _)) rfl rfl rfl rfl rfl rfl rfl rfl rfl ?_
  refine D.pickAnd rfl rfl rfl rfl rfl rfl rfl rfl ?_
  iterate 2 refine D.pure rfl rfl rfl rfl rfl rfl ?_
  refine D.buildSliceG [[.int .i64 0], [.int .i64 1]] rfl rfl rfl rfl rfl rfl rfl rfl rfl rfl rfl rfl (fun _ => rfl) rfl rfl (fun b24 C24 hle24 hs24 => ?_)
  refine D.gives (fun _ => (ki1 _ _ _ (hs8.mono (by (repeat (first | exact Mem.le.refl _ | assumption | (apply Mem.le.trans; rotate_left; assumption))))) ((hs24 ⟨rfl, trivial⟩).mono (by (repeat (first | exact Mem.le.refl _ | assumption | (apply Mem.le.trans; rotate_left; assumption))))))) rfl rfl rfl rfl rfl rfl rfl rfl rfl ?_
  refine D.pickAnd rfl rfl rfl rfl rfl rfl rfl rfl ?_
  iterate 2 refine D.pure rfl rfl rfl rfl rfl rfl ?_
  refine D.buildSliceG [[.int .i64 1], [.int .i64 0]] rfl rfl rfl rfl rfl rfl rfl rfl rfl rfl rfl rfl (fun _ => rfl) rfl rfl (fun b29 C29 hle29 hs29 => ?_)
  refine D.gives (fun _ => (ki2 _ _ _ (hs8.mono (by (repeat (first | exact Mem.le.refl _ | assumption | (apply Mem.le.trans; rotate_left; assumption))))) ((hs29 ⟨rfl, trivial⟩).mono (by (repeat (first | exact Mem.le.refl _ | assumption | (apply Mem.le.trans; rotate_left; assumption))))))) rfl rfl rfl rfl rfl rfl rfl rfl rfl ?_
  refine D.pure rfl rfl rfl rfl rfl rfl ?_
  refine D.pickAnd rfl rfl rfl rfl rfl rfl rfl rfl ?_
  iterate 2 refine D.pure rfl rfl rfl rfl rfl rfl ?_
  refine D.buildSliceG [[strV [65]], [strV [66]], [strV [67]]] rfl rfl rfl rfl rfl rfl rfl rfl rfl rfl rfl rfl (fun _ => rfl) rfl rfl (fun b35 C35 hle35 hs35 => ?_)
  refine D.gives (fun _ => (ko1 _ _ _ (hs8.mono (by (repeat (first | exact Mem.le.refl _ | assumption | (apply Mem.le.trans; rotate_left; assumption))))) ((hs35 ⟨rfl, trivial⟩).mono (by (repeat (first | exact Mem.le.refl _ | assumption | (apply Mem.le.trans; rotate_left; assumption))))))) rfl rfl rfl rfl rfl rfl rfl rfl rfl ?_
  refine D.pickAnd rfl rfl rfl rfl rfl rfl rfl rfl ?_
  iterate 2 refine D.pure rfl rfl rfl rfl rfl rfl ?_
  refine D.buildSliceG [[strV [66]], [strV [65]], [strV [67]]] rfl rfl rfl rfl rfl rfl rfl rfl rfl rfl rfl rfl (fun _ => rfl) rfl rfl (fun b40 C40 hle40 hs40 => ?_)
  refine D.gives (fun _ => (ko2 _ _ _ (hs8.mono (by (repeat (first | exact Mem.le.refl _ | assumption | (apply Mem.le.trans; rotate_left; assumption))))) ((hs40 ⟨rfl, trivial⟩).mono (by (repeat (first | exact Mem.le.refl _ | assumption | (apply Mem.le.trans; rotate_left; assumption))))))) rfl rfl rfl rfl rfl rfl rfl rfl rfl ?_
  refine D.pure rfl rfl rfl rfl rfl rfl ?_
  refine D.pickAnd rfl rfl rfl rfl rfl rfl rfl rfl ?_
  iterate 4 refine D.pure rfl rfl rfl rfl rfl rfl ?_
  refine D.loadL (.head _) rfl rfl rfl rfl rfl rfl rfl rfl rfl ?_
  refine D.gives (fun _ => (kp1 _ (hT.mono (by (repeat (first | exact Mem.le.refl _ | assumption | (apply Mem.le.trans; rotate_left; assumption))))) _ _ _ _ _ _ (hri.mono (by (repeat (first | exact Mem.le.refl _ | assumption | (apply Mem.le.trans; rotate_left; assumption))))) (hs14.mono (by (repeat (first | exact Mem.le.refl _ | assumption | (apply Mem.le.trans; rotate_left; assumption))))) (hs14.mono (by (repeat (first | exact Mem.le.refl _ | assumption | (apply Mem.le.trans; rotate_left; assumption))))) (hs15.mono (by (repeat (first | exact Mem.le.refl _ | assumption | (apply Mem.le.trans; rotate_left; assumption))))))) rfl rfl rfl rfl rfl rfl rfl rfl rfl ?_
  refine D.pickAnd rfl rfl rfl rfl rfl rfl rfl rfl ?_
  iterate 3 refine D.pure rfl rfl rfl rfl rfl rfl ?_
  refine D.buildSliceG [[strV [50]]] rfl rfl rfl rfl rfl rfl rfl rfl rfl rfl rfl rfl (fun _ => rfl) rfl rfl (fun b54 C54 hle54 hs54 => ?_)
  refine D.loadL (.head _) rfl rfl rfl rfl rfl rfl rfl rfl rfl ?_
  refine D.gives (fun _ => (kp2 _ (hT.mono (by (repeat (first | exact Mem.le.refl _ | assumption | (apply Mem.le.trans; rotate_left; assumption))))) _ _ _ _ _ _ (hri.mono (by (repeat (first | exact Mem.le.refl _ | assumption | (apply Mem.le.trans; rotate_left; assumption))))) (hs14.mono (by (repeat (first | exact Mem.le.refl _ | assumption | (apply Mem.le.trans; rotate_left; assumption))))) ((hs54 ⟨rfl, trivial⟩).mono (by (repeat (first | exact Mem.le.refl _ | assumption | (apply Mem.le.trans; rotate_left; assumption))))) (hs15.mono (by (repeat (first | exact Mem.le.refl _ | assumption | (apply Mem.le.trans; rotate_left; assumption))))))) rfl rfl rfl rfl rfl rfl rfl rfl rfl ?_
  refine D.pure rfl rfl rfl rfl rfl rfl ?_
  refine D.pickAnd rfl rfl rfl rfl rfl rfl rfl rfl ?_
  refine D.pure rfl rfl rfl rfl rfl rfl ?_
  refine D.build nil3 rfl rfl rfl rfl rfl rfl rfl rfl ?_
  refine D.gives (fun _ => (map0_fn _)) rfl rfl rfl rfl rfl rfl rfl rfl rfl ?_
  refine D.pickAnd rfl rfl rfl rfl rfl rfl rfl rfl ?_
  refine D.pure rfl rfl rfl rfl rfl rfl ?_
  refine D.done [(0, [], _)] ⟨rfl, trivial⟩ (hR _ _ _ rfl ?_); clear hR R
  refine G.retN (G.dropAll (G.fin1 rfl rfl ?_))
  exact ⟨rfl, rfl⟩
end Go.Proofs.YtjcienaflbhedaaGreatDoor
namespace Go.Proofs.YtjcienaflbhedaaGreatDoor
open Go Go.Jog Go.ChangeShapes Go.WideShapes Go.ChangeAt Go.RowKit
set_option maxRecDepth 100000

theorem own : ownKnob Tryz.prog.godebug = none := by kernel_rfl
section
variable {H : Type} {enc : TypeId × Value → H} {W : World} {spare : Nat → Bool} {held : Bool}
theorem u8_of {n : Nat} {c : Value} {y : DataW H × List MemPlace} (h : DataW.trod enc Tryz.prog W 0 spare held n 5 [c] = some y) : ∃ b : UInt8, c = .int .u8 b.toNat := by
  obtain ⟨m, h1, _, h3⟩ := DataW.trod_int Tryz.underlying5 h
  simp only [List.cons.injEq, and_true] at h1
  subst h1
  have hb : 0 ≤ m ∧ m < 256 := by
    simp [Lit.wf, IntKind.min, IntKind.max, IntKind.signed, IntKind.bits] at h3
    omega
  refine ⟨UInt8.ofNat m.toNat, ?_⟩
  congr 1
  simp only [UInt8.toNat_ofNat']
  omega
theorem seen_of {n : Nat} {cs : List Value} {y : DataW H × List MemPlace} (h : DataW.trod enc Tryz.prog W 0 spare held n 60 cs = some y) : ∃ z : Seen, cs = z.enc := by
  obtain ⟨y0, y1, y2, n', _, hl, h0, h1, h2⟩ := Go.Deep.trod_struct3 Tryz.underlying60 h
  have hc : Tryz.prog.cellsOf 60 = 3 := by kernel_rfl
  have hi : Tryz.prog.cellsOf 5 = 1 := by kernel_rfl
  rw [hc] at hl
  match cs, hl with
  | [c0, c1, c2], _ =>
    simp only [hi] at h0 h1 h2
    obtain ⟨b0, rfl⟩ := u8_of h0
    obtain ⟨b1, rfl⟩ := u8_of h1
    obtain ⟨b2, rfl⟩ := u8_of h2
    exact ⟨⟨b0, b1, b2⟩, rfl⟩
theorem seens_of {fuel : Nat} {v : Value} {x : DataW H × List MemPlace} (h : DataW.trod enc Tryz.prog W 0 spare held fuel 25 [v] = some x) : ∃ l : List Seen, Sl (memOf W) 3 v (l.map Seen.enc) :=
  sl_of_arg Seen.enc Tryz.underlying25 (by kernel_rfl) (by decide) (fun n cs y hl hy => seen_of hy) h
end

def layCells (cs : Array Value) : Obj → Obj
  | .cells _ t frozen => .cells cs t frozen
  | o => o
def db32Cells : Array Value := (Lib.deBruijn32tab.map fun z : Nat => Value.int .u8 (z : Int)).toArray
def db64Cells : Array Value := (Lib.deBruijn64tab.map fun z : Nat => Value.int .u8 (z : Int)).toArray
def pow10Cells : Array Value := (Lib.pow10Tab.map fun z => Value.int .u64 z).toArray
/-- A world for the witness: the library's tables as the text lays them. -/
noncomputable def laidWorld (os : Os) : World :=
  { World.holding Tryz.prog os ⟨#[], #[], []⟩ with heap := (((World.holding Tryz.prog os ⟨#[], #[], []⟩).heap.modify 2 (layCells db32Cells)).modify 3 (layCells db64Cells)).modify 1 (layCells pow10Cells) }
theorem tabs_of {W : World} (h : laidMet Tryz.prog [("math/bits.deBruijn32tab", Rows.laid_math_bits_deBruijn32tab), ("math/bits.deBruijn64tab", Rows.laid_math_bits_deBruijn64tab), ("internal/strconv.uint64pow10", Rows.laid_internal_strconv_uint64pow10)] W) : Tabs (memOf W) := by
  have h2 := h.tail.tail
  have e2 : (Rows.laid_internal_strconv_uint64pow10 : DataW Unit) = Lib.tabData .u64 Lib.pow10Tab := by rfl
  rw [e2] at h2
  have t2 := Lib.tabIs_of_head (g := 1) (t := 231) (e := 171) (n := 20) (by kernel_rfl) (by kernel_rfl) Tryz.underlying231 Tryz.underlying171 (by kernel_rfl) (by kernel_rfl) h2
  exact ⟨VarC.ofWorld t2⟩
theorem laidOut' : laidOutB Tryz.prog = true := by kernel_rfl
section
variable {H : Type} {enc : TypeId × Value → H} {W : World} {spare : Nat → Bool} {held : Bool}
end
section
variable {H : Type} {enc : TypeId × Value → H} {W : World} {spare : Nat → Bool} {held : Bool}
theorem int_of {n : Nat} {c : Value} {y : DataW H × List MemPlace} (h : DataW.trod enc Tryz.prog W 0 spare held n 3 [c] = some y) : ∃ m : Int, c = .int .i64 m := by
  obtain ⟨m, h1, _⟩ := DataW.trod_int Tryz.underlying3 h
  simp only [List.cons.injEq, and_true] at h1
  exact ⟨m, h1⟩
theorem ints_of {fuel : Nat} {v : Value} {x : DataW H × List MemPlace} (h : DataW.trod enc Tryz.prog W 0 spare held fuel 32 [v] = some x) : ∃ l : List Int, Sl (memOf W) 1 v (l.map encI) :=
  sl_of_arg encI Tryz.underlying32 (by kernel_rfl) (by decide) (fun n cs y hl hy => by
    match cs, hl with
    | [c], _ =>
      obtain ⟨s, rfl⟩ := int_of hy
      exact ⟨s, rfl⟩) h
end
end Go.Proofs.YtjcienaflbhedaaGreatDoor
