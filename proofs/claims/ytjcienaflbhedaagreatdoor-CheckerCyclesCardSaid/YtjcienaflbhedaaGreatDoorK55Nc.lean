/- FOR ANY DESCRIPTIONS AND ANY LIST OF NUMBERS CheckerCycles ANSWERS true, and leaves them as they were. -/
import Derived.Test.YtjcienaflbhedaaGreatDoorG6
import Derived.Test.YtjcienaflbhedaaGreatDoorShelf
namespace Go.Proofs.YtjcienaflbhedaaGreatDoor
open Go Go.Jog
set_option maxRecDepth 100000

theorem upN_lt (x : Seen) : upN x < 6 := Nat.mod_lt _ (by decide)
theorem lowN_lt (x : Seen) : lowN x < 6 := by
  unfold lowN; split
  · exact Nat.mod_lt _ (by decide)
  · exact Nat.mod_lt _ (by decide)
theorem lowN_ne (x : Seen) : upN x ≠ lowN x := by
  unfold lowN upN
  split
  · have : x.b.toNat % 6 < 6 := Nat.mod_lt _ (by decide)
    omega
  · assumption
theorem nameI_inj : ∀ i, i < 6 → ∀ j, j < 6 → nameI i = nameI j → i = j := by decide
theorem nameI_ok : ∀ i, i < 6 → isNameB (nameI i) = true := by decide
theorem nameI_len : ∀ i, i < 6 → (nameI i).length < 1000000 := by decide
theorem mem_makeL {s : List Seen} {x : Rel} (h : x ∈ makeL s) : ∃ y : Seen, x = mkR y := by
  obtain ⟨y, _, rfl⟩ := List.mem_map.1 h
  exact ⟨y, rfl⟩
/-- A relation as Make makes it. -/
def MadeR (x : Rel) : Prop := 1 ≤ x.kind ∧ x.kind ≤ 4 ∧ ∃ i j, i < 6 ∧ j < 6 ∧ i ≠ j ∧ x.upper = nameI i ∧ x.lower = nameI j
def Made (l : List Rel) : Prop := l.length ≤ 8 ∧ ∀ x ∈ l, MadeR x
theorem made_makeL (s : List Seen) : Made (makeL s) := by
  refine ⟨by simp [makeL]; omega, fun x hx => ?_⟩
  obtain ⟨y, rfl⟩ := mem_makeL hx
  refine ⟨?_, ?_, upN y, lowN y, upN_lt y, lowN_lt y, lowN_ne y, rfl, rfl⟩
  · show (1 : Int) ≤ ((1 + y.a.toNat % 4 : Nat) : Int); omega
  · show ((1 + y.a.toNat % 4 : Nat) : Int) ≤ 4
    have : y.a.toNat % 4 < 4 := Nat.mod_lt _ (by decide)
    omega
theorem Made.take {l : List Rel} (h : Made l) (k : Nat) : Made (l.take k) := ⟨by rw [List.length_take]; have := h.1; omega, fun x hx => h.2 x (List.mem_of_mem_take hx)⟩
theorem Made.short {l : List Rel} (h : Made l) : ∀ x ∈ l, x.short := fun x hx => by
  obtain ⟨_, _, i, j, hi, hj, _, h1, h2⟩ := h.2 x hx
  exact ⟨by rw [h1]; exact nameI_len i hi, by rw [h2]; exact nameI_len j hj⟩
theorem Made.errOf {l : List Rel} (h : Made l) : ∀ x ∈ l, errOf x = 0 := fun x hx => by
  obtain ⟨h3, h4, i, j, hi, hj, hij, h1, h2⟩ := h.2 x hx
  unfold Proofs.YtjcienaflbhedaaGreatDoor.errOf
  rw [if_neg (by omega), if_neg (by rw [h1, h2, nameI_ok i hi, nameI_ok j hj]; simp), if_neg]
  intro e
  rw [h1, h2] at e
  exact hij (nameI_inj i hi j hj e)
theorem Made.units {l : List Rel} (h : Made l) : (unitsL l).length ≤ 6 := by
  have : (unitsL l).length ≤ ((List.range 6).map nameI).length := List.Nodup.length_le_of_subset (unitsL_nodup l) (fun s hs => by
    rw [unitsL, mem_setL, mem_namesOf] at hs
    obtain ⟨x, hx, hs⟩ := hs
    obtain ⟨_, _, i, j, hi, hj, _, h1, h2⟩ := h.2 x hx
    rcases hs with rfl | rfl
    · exact List.mem_map.2 ⟨i, List.mem_range.2 hi, h1.symm⟩
    · exact List.mem_map.2 ⟨j, List.mem_range.2 hj, h2.symm⟩)
  simpa using this
theorem Made.err {l : List Rel} (h : Made l) : errU l = 0 := by
  have h1 := h.1
  have h2 := h.units
  unfold errU
  rw [if_neg (by omega), if_neg (by rw [errs_zero h.errOf]; simp), if_neg (by omega)]
theorem Made.sub {l m : List Rel} (h : Made l) (hm : m.length ≤ 8) (hs : ∀ x ∈ m, x ∈ l) : Made m := ⟨hm, fun x hx => h.2 x (hs x hx)⟩
end Go.Proofs.YtjcienaflbhedaaGreatDoor
namespace Go.Proofs.YtjcienaflbhedaaGreatDoor
open Go Go.Jog
set_option maxRecDepth 100000

theorem cycB_iff {l : List Rel} {c : List Int} : cycB l c = true ↔ 0 < c.length ∧ (∀ x ∈ c, arcB l x = true) ∧ ∀ k, k < c.length → stepB l c k = true := by
  unfold cycB
  simp only [Bool.and_eq_true, Bool.not_eq_true', decide_eq_false_iff_not, List.all_eq_true, List.mem_range, and_assoc]
  constructor
  · rintro ⟨h1, h2, h3⟩; exact ⟨by omega, h2, h3⟩
  · rintro ⟨h1, h2, h3⟩; exact ⟨by omega, h2, h3⟩
theorem cI_mem {c : List Int} {k : Nat} (h : k < c.length) : cI c k ∈ c := List.mem_of_getElem? (cI_at h)
/-- The place before, around. -/
theorem prev_at {n k : Nat} (hk : k < n) : (k + n - 1) % n = if k = 0 then n - 1 else k - 1 := by
  split
  · rename_i h
    subst h
    rw [Nat.zero_add]
    exact Nat.mod_eq_of_lt (by omega)
  · rw [show k + n - 1 = (k - 1) + n by omega, Nat.add_mod_right]
    exact Nat.mod_eq_of_lt (by omega)
def chainB (l : List Rel) (c : List Int) : Bool := decide (0 < c.length) && (List.range c.length).all fun k => arcB l (cI c k) && (decide (k = 0) || decide ((gR l (cI c (k - 1))).upper = (gR l (cI c k)).lower))
def e0B (l : List Rel) (c : List Int) : Bool := decide ((gR l (cI c (c.length - 1))).upper = (gR l (cI c 0)).lower)
def inB (l : List Rel) (c : List Int) (i k : Nat) : Bool := (List.range k).all fun j => !decide ((gR l (cI c j)).lower = (gR l (cI c i)).lower)
def dB (l : List Rel) (c : List Int) (i : Nat) : Bool := (List.range i).all fun j => inB l c j j
theorem mem_lows {l : List Rel} {c : List Int} {k : Nat} {s : Str} (hk : k ≤ c.length) : s ∈ lowsM l c k ↔ ∃ j, j < k ∧ (gR l (cI c j)).lower = s := by
  unfold lowsM
  simp only [List.mem_map]
  constructor
  · rintro ⟨i, hi, rfl⟩
    obtain ⟨j, hj⟩ := List.getElem?_of_mem hi
    have hjk : j < k := by
      have := (List.getElem?_eq_some_iff.1 hj).1
      simp at this
      omega
    rw [List.getElem?_take, if_pos hjk, cI_at (by omega)] at hj
    cases hj
    exact ⟨j, hjk, rfl⟩
  · rintro ⟨j, hj, rfl⟩
    refine ⟨cI c j, List.mem_of_getElem? (i := j) ?_, rfl⟩
    rw [List.getElem?_take, if_pos hj, cI_at (by omega)]
theorem chain_cyc (l : List Rel) (c : List Int) : cycB l c = (chainB l c && (e0B l c && dB l c c.length)) := by
  rw [Bool.eq_iff_iff, cycB_iff]
  unfold chainB e0B dB inB
  simp only [Bool.and_eq_true, Bool.or_eq_true, Bool.not_eq_true', decide_eq_true_eq, decide_eq_false_iff_not, List.all_eq_true, List.mem_range]
  constructor
  · rintro ⟨hn, ha, hs⟩
    have hs2 : ∀ k, k < c.length → (gR l (cI c ((k + c.length - 1) % c.length))).upper = (gR l (cI c k)).lower ∧ ¬ (gR l (cI c k)).lower ∈ lowsM l c k := fun k hk => by
      have := hs k hk
      unfold stepB at this
      simpa using this
    refine ⟨⟨hn, fun k hk => ⟨ha _ (cI_mem hk), ?_⟩⟩, ?_, fun i hi j hj e => ?_⟩
    · by_cases h0 : k = 0
      · exact .inl h0
      · have h1 := (hs2 k hk).1
        rw [prev_at hk, if_neg h0] at h1
        exact .inr h1
    · have h1 := (hs2 0 hn).1
      rw [prev_at hn, if_pos rfl] at h1
      exact h1
    · exact (hs2 i hi).2 ((mem_lows (by omega)).2 ⟨j, hj, e⟩)
  · rintro ⟨⟨hn, ha⟩, he, hd⟩
    refine ⟨hn, fun x hx => ?_, fun k hk => ?_⟩
    · obtain ⟨k, hk⟩ := List.getElem?_of_mem hx
      have hlt := (List.getElem?_eq_some_iff.1 hk).1
      rw [cI_at hlt] at hk
      cases hk
      exact (ha k hlt).1
    · unfold stepB
      simp only [Bool.and_eq_true, decide_eq_true_eq, Bool.not_eq_true', decide_eq_false_iff_not]
      refine ⟨?_, fun h => ?_⟩
      · rw [prev_at hk]
        split
        · rename_i h0; subst h0; exact he
        · rename_i h0
          exact (ha k hk).2.resolve_left h0
      · obtain ⟨j, hj, e⟩ := (mem_lows (by omega)).1 h
        exact hd k hk j hj e

theorem chain_next {p : List Arc3} {u v k : Nat} {a b : Arc3} (h : Chain u p v) (hk : p[k]? = some a) (hk1 : p[k + 1]? = some b) : b.lo = a.up := by
  have h2 := (h.split hk).2
  have l1 := (List.getElem?_eq_some_iff.1 hk).1
  have l2 := (List.getElem?_eq_some_iff.1 hk1).1
  rw [List.drop_eq_getElem_cons l1, List.drop_eq_getElem_cons l2, (List.getElem?_eq_some_iff.1 hk).2, (List.getElem?_eq_some_iff.1 hk1).2] at h2
  exact h2.2.1
theorem chain_last {p : List Arc3} {u v k : Nat} {a : Arc3} (h : Chain u p v) (hk : p[k]? = some a) (hl : k + 1 = p.length) : a.up = v := by
  have h2 := (h.split hk).2
  have l1 := (List.getElem?_eq_some_iff.1 hk).1
  rw [List.drop_eq_getElem_cons l1, List.drop_of_length_le (by omega), (List.getElem?_eq_some_iff.1 hk).2] at h2
  exact h2.2
theorem posS_inj {N : List Str} {s t : Str} (hs : s ∈ N) (ht : t ∈ N) (h : posS N s = posS N t) : s = t := by
  have h1 := posS_at hs
  rw [h, posS_at ht] at h1
  cases h1; rfl
theorem least_cyc {l : List Rel} {q : List Arc3} (hm : Made l) (hq : LeastCyc (arcsOf l) q) : cycB l ((nums q).map fun n : Nat => (n : Int)) = true := by
  obtain ⟨⟨a0, q', hqe, hin, hch, _⟩, hmin, _⟩ := hq
  have hnd := short_nodup hin hch hmin
  have hlen : ((nums q).map fun n : Nat => (n : Int)).length = q.length := by simp [nums]
  have hql : 0 < q.length := by rw [hqe]; simp
  have hrel : ∀ (k : Nat) (a : Arc3), q[k]? = some a → ∃ x : Rel, l[a.i]? = some x ∧ x.kind ≠ 4 ∧ a.lo = posS (unitsL l) x.lower ∧ a.up = posS (unitsL l) x.upper ∧ x.lower ∈ unitsL l ∧ x.upper ∈ unitsL l := fun k a hk => by
    obtain ⟨x, h1, h2, h3⟩ := mem_arcs3.1 (hin a (List.mem_of_getElem? hk))
    have hmu := mem_units (List.mem_of_getElem? h1)
    exact ⟨x, h1, h2, by rw [h3], by rw [h3], hmu.1, hmu.2⟩
  have hget : ∀ k, k < q.length → ∃ (a : Arc3) (x : Rel), q[k]? = some a ∧ cI ((nums q).map fun n : Nat => (n : Int)) k = (a.i : Int) ∧ gR l (a.i : Int) = x ∧ l[a.i]? = some x ∧ x.kind ≠ 4 ∧ a.lo = posS (unitsL l) x.lower ∧ a.up = posS (unitsL l) x.upper ∧ x.lower ∈ unitsL l ∧ x.upper ∈ unitsL l := fun k hk => by
    have hk0 : q[k]? = some q[k] := List.getElem?_eq_getElem hk
    obtain ⟨x, h1, h2, h3, h4, h5, h6⟩ := hrel k _ hk0
    refine ⟨q[k], x, hk0, ?_, ?_, h1, h2, h3, h4, h5, h6⟩
    · unfold cI nums
      rw [List.getD_eq_getElem?_getD, List.getElem?_map, List.getElem?_map, hk0]; rfl
    · unfold gR
      rw [Int.toNat_natCast, List.getD_eq_getElem?_getD, h1]; rfl
  refine cycB_iff.2 ⟨by omega, fun z hz => ?_, fun k hk => ?_⟩
  · obtain ⟨k, hk⟩ := List.getElem?_of_mem hz
    have hlt := (List.getElem?_eq_some_iff.1 hk).1
    obtain ⟨a, x, h1, h2, h3, h4, h5, _⟩ := hget k (by omega)
    rw [cI_at hlt, h2] at hk
    cases hk
    have hx := hm.2 x (List.mem_of_getElem? h4)
    have hil := (List.getElem?_eq_some_iff.1 h4).1
    unfold arcB
    rw [h3]
    have := hx.1
    have := hx.2.1
    simp
    omega
  · rw [hlen] at hk
    obtain ⟨a, x, h1, h2, h3, h4, h5, h6, h7, h8, h9⟩ := hget k hk
    unfold stepB
    simp only [Bool.and_eq_true, decide_eq_true_eq, Bool.not_eq_true', decide_eq_false_iff_not]
    rw [hlen]
    refine ⟨?_, fun h => ?_⟩
    · have hp : (k + q.length - 1) % q.length < q.length := Nat.mod_lt _ hql
      obtain ⟨b, y, g1, g2, g3, g4, g5, g6, g7, g8, g9⟩ := hget _ hp
      rw [g2, h2, g3, h3]
      refine posS_inj g9 h8 ?_
      rw [← g7, ← h6]
      rw [prev_at hk] at g1
      split at g1
      · rename_i h0
        subst h0
        rw [chain_last hch g1 (by omega)]
        rw [hqe] at h1
        cases h1
        rfl
      · rename_i h0
        exact (chain_next hch g1 (by rw [show k - 1 + 1 = k by omega]; exact h1)).symm
    · obtain ⟨j, hj, e⟩ := (mem_lows (by omega)).1 h
      obtain ⟨b, y, g1, g2, g3, g4, g5, g6, g7, g8, g9⟩ := hget j (by omega)
      rw [g2, h2, g3, h3] at e
      have e2 : b.lo = a.lo := by rw [g6, h6, e]
      have l1 : (lows q)[j]? = some b.lo := by unfold lows; rw [List.getElem?_map, g1]; rfl
      have l2 : (lows q)[k]? = some a.lo := by unfold lows; rw [List.getElem?_map, h1]; rfl
      have := (List.getElem?_inj (i := j) (j := k) (by unfold lows; rw [List.length_map]; omega) hnd).1 (l1.trans (by rw [e2, l2]))
      omega
end Go.Proofs.YtjcienaflbhedaaGreatDoor
namespace Go.Proofs.YtjcienaflbhedaaGreatDoor
open Go Go.Jog
set_option maxRecDepth 100000

theorem chain_stop {l : List Rel} {c : List Int} {k : Nat} (hk : k < c.length) (h : (arcB l (cI c k) && (decide (k = 0) || decide ((gR l (cI c (k - 1))).upper = (gR l (cI c k)).lower))) = false) : chainB l c = false := by
  unfold chainB
  have : ((List.range c.length).all fun k => arcB l (cI c k) && (decide (k = 0) || decide ((gR l (cI c (k - 1))).upper = (gR l (cI c k)).lower))) = false := by
    rw [List.all_eq_false]
    exact ⟨k, List.mem_range.2 hk, by rw [h]; decide⟩
  rw [this, Bool.and_false]
set_option maxHeartbeats 1000000 in
theorem chain_fn (C : Mem) (v vc : Value) (l : List Rel) (c : List Int) (hv : Sl C 3 v (l.map Rel.enc)) (hc : Sl C 1 vc (c.map encI)) : Gives cx.P 13 [v, vc] C (.bool (chainB l c)) := by
  obtain ⟨A, ca, rfl, hl1, hl2, _⟩ := id hv
  obtain ⟨Ac, cc, rfl, hc1, hc2, _⟩ := id hc
  have hmx : maxLen ≤ 9223372036854775807 := by simp [maxLen]
  simp only [List.length_map] at hv hc hl1 hc1 ⊢
  refine Fn.intro (by kernel_rfl) Tryz.func13 rfl 43 rfl rfl (fun w0 => ?_)
  refine G.region rfl (fun R hR => ?_)
  refine D.pure rfl rfl rfl rfl rfl rfl ?_
  refine D.done [(0, [], _), (1, [], _)] ⟨rfl, rfl, trivial⟩ (hR _ _ _ rfl ?_); clear hR R
  refine G.region rfl (fun R hR => ?_)
  iterate 3 refine D.pure rfl rfl rfl rfl rfl rfl ?_
  refine D.done [(0, [], _), (1, [], _), (7, [], _), (8, [], _), (9, [], _)] ⟨rfl, rfl, rfl, rfl, rfl, trivial⟩ (hR _ _ _ rfl ?_); clear hR R
  refine G.loop (fun fr C' L' μ => ∃ (k : Nat), (k ≤ c.length ∧ ∀ j, j < k → (arcB l (cI c j) && (decide (j = 0) || decide ((gR l (cI c (j - 1))).upper = (gR l (cI c j)).lower))) = true) ∧ fr = [(0, [], .slice A l.length ca), (1, [], .slice Ac c.length cc), (7, [], .slice Ac c.length cc), (8, [], .int .i64 c.length), (9, [], .int .i64 k)] ∧ L' = [] ∧ μ = c.length - k) (fr' := [(0, [], _), (1, [], _), (7, [], _), (8, [], _), (9, [], _)]) ⟨rfl, rfl, rfl, rfl, rfl, trivial⟩ ⟨0, ⟨Nat.zero_le _, fun j hj => by omega⟩, rfl, rfl, rfl⟩ (fun fr C0' L0' m hle0 hI => ?_)
  obtain ⟨k, ⟨hk, hall⟩, rfl, rfl, rfl⟩ := hI
  refine G.region rfl (fun R hR => ?_)
  refine D.pure rfl rfl rfl rfl rfl rfl ?_
  refine D.done [(0, [], _), (1, [], _), (7, [], _), (8, [], _), (9, [], _), (10, [], _)] ⟨rfl, rfl, rfl, rfl, rfl, rfl, trivial⟩ (hR _ _ _ rfl ?_); clear hR R
  refine G.cond rfl (fun h10 => ?_) (fun h10 => ?_)
  · skip
    have hkl : k < c.length := by simpa using h10
    have hrow : (c.map encI)[k]? = some (encI (cI c k)) := by rw [List.getElem?_map, cI_at hkl]; rfl
    have hprev : ∀ j, j < k → 0 ≤ cI c j ∧ cI c j < l.length := fun j hj => by
      have := hall j hj
      rw [Bool.and_eq_true] at this
      exact arcB_in this.1
    refine G.region rfl (fun R hR => ?_)
    refine D.pure rfl rfl rfl rfl rfl rfl ?_
    refine D.index0 (hc.mono (by (repeat (first | exact Mem.le.refl _ | assumption | (apply Mem.le.trans; rotate_left; assumption))))) rfl rfl rfl rfl rfl rfl rfl rfl rfl rfl (by omega) hrow (fun _ => rfl) (fun p12 hp12 => ?_)
    refine D.loadP0 hp12 rfl rfl rfl rfl rfl rfl rfl rfl ?_
    iterate 2 refine D.pure rfl rfl rfl rfl rfl rfl ?_
    refine D.done [(0, [], _), (1, [], _), (5, [], _), (6, [], _), (7, [], _), (8, [], _), (9, [], _)] ⟨rfl, rfl, rfl, rfl, rfl, rfl, rfl, trivial⟩ (hR _ _ _ rfl ?_); clear hR R
    refine G.draw [0, 1, 2, 3, 4, 5, 6, 7, 8, 9, 10, 11, 12, 13, 14, 15, 16, 17, 18, 19, 20, 21, 22, 23, 24] [(2, 1)] rfl (by kernel_rfl) (fun R hB hR => ?_)
    iterate 2 refine D.pure rfl rfl rfl rfl rfl rfl ?_
    refine D.gives (fun _ => (larc55_fn _ _ l (cI c k) (hv.mono (by (repeat (first | exact Mem.le.refl _ | assumption | (apply Mem.le.trans; rotate_left; assumption))))))) rfl rfl rfl rfl rfl rfl rfl rfl rfl ?_
    iterate 8 refine D.pure rfl rfl rfl rfl rfl rfl ?_
    refine D.i64 _ rfl rfl rfl rfl rfl (by omega) (by omega) rfl rfl ?_
    refine D.index rfl rfl rfl rfl rfl rfl rfl rfl rfl rfl (fun hg => ⟨hc.mono (by (repeat (first | exact Mem.le.refl _ | assumption | (apply Mem.le.trans; rotate_left; assumption)))), (by have h : decide ((0 : Int) < (k : Int)) = true := hg.1; simp at h; omega), (by have h : decide ((0 : Int) < (k : Int)) = true := hg.1; simp at h; show (c.map encI)[((k : Int) - 1).toNat]? = some (encI (cI c (k - 1))); rw [show ((k : Int) - 1).toNat = k - 1 by omega, List.getElem?_map, cI_at (by omega)]; rfl)⟩) (fun _ => rfl) rfl (fun p26 hp26 => ?_)
    refine D.loadP rfl rfl rfl rfl rfl rfl hp26 rfl rfl rfl ?_
    refine D.index rfl rfl rfl rfl rfl rfl rfl rfl rfl rfl (fun hg => ⟨hv.mono (by (repeat (first | exact Mem.le.refl _ | assumption | (apply Mem.le.trans; rotate_left; assumption)))), (by have h : decide ((0 : Int) < (k : Int)) = true := hg.1; simp at h; exact (hprev (k - 1) (by omega)).1), (by have h : decide ((0 : Int) < (k : Int)) = true := hg.1; simp at h; exact (gR_at (hprev (k - 1) (by omega)).1 (hprev (k - 1) (by omega)).2).2)⟩) (fun _ => rfl) rfl (fun p28 hp28 => ?_)
    refine D.fieldP rfl rfl rfl rfl rfl rfl rfl rfl rfl rfl hp28 (fun _ => rfl) rfl (fun p29 hp29 => ?_)
    refine D.loadP rfl rfl rfl rfl rfl rfl hp29 rfl rfl rfl ?_
    iterate 2 refine D.pure rfl rfl rfl rfl rfl rfl ?_
    refine D.index rfl rfl rfl rfl rfl rfl rfl rfl rfl rfl (fun hg => ⟨hv.mono (by (repeat (first | exact Mem.le.refl _ | assumption | (apply Mem.le.trans; rotate_left; assumption)))), (by have h : (!arcB l (cI c k)) = false := hg.2.1; simp at h; exact (arcB_in h).1), (by have h : (!arcB l (cI c k)) = false := hg.2.1; simp at h; exact (gR_at (arcB_in h).1 (arcB_in h).2).2)⟩) (fun _ => rfl) rfl (fun p33 hp33 => ?_)
    refine D.fieldP rfl rfl rfl rfl rfl rfl rfl rfl rfl rfl hp33 (fun _ => rfl) rfl (fun p34 hp34 => ?_)
    refine D.loadP rfl rfl rfl rfl rfl rfl hp34 rfl rfl rfl ?_
    refine D.pure rfl rfl rfl rfl rfl rfl ?_
    refine D.pickAnd rfl rfl rfl rfl rfl rfl rfl rfl ?_
    refine D.pickOr rfl rfl rfl rfl rfl rfl rfl rfl ?_
    refine D.done [(0, [], _), (1, [], _), (7, [], _), (8, [], _), (9, [], _), (38, [], _)] ⟨rfl, rfl, rfl, rfl, rfl, rfl, trivial⟩ (hR _ _ _ rfl ?_); clear hR hB R
    refine G.cond rfl (fun h38 => ?_) (fun h38 => ?_)
    · skip
      have hno : chainB l c = false := chain_stop hkl (by
        cases h1 : arcB l (cI c k) with
        | false => rfl
        | true =>
          rw [h1] at h38
          simp at h38
          simp
          exact ⟨by omega, h38.2⟩)
      refine G.region rfl (fun R hR => ?_)
      refine D.pure rfl rfl rfl rfl rfl rfl ?_
      refine D.done [(4, [], _)] ⟨rfl, trivial⟩ (hR _ _ _ rfl ?_); clear hR R
      refine G.retN (G.dropAll (G.fin1 rfl rfl ?_))
      exact ⟨by rw [hno], rfl⟩
    · skip
      have hst : (arcB l (cI c k) && (decide (k = 0) || decide ((gR l (cI c (k - 1))).upper = (gR l (cI c k)).lower))) = true := by
        simp at h38
        simp [h38.1]
        by_cases h0 : k = 0
        · exact .inl h0
        · exact .inr (h38.2 (by omega))
      refine G.region rfl (fun R hR => ?_)
      refine D.i64 _ rfl rfl rfl rfl rfl (by omega) (by omega) rfl rfl ?_
      refine D.pure rfl rfl rfl rfl rfl rfl ?_
      refine D.done [(0, [], _), (1, [], _), (7, [], _), (8, [], _), (9, [], _)] ⟨rfl, rfl, rfl, rfl, rfl, trivial⟩ (hR _ _ _ rfl ?_); clear hR R
      refine G.again (m' := c.length - (k + 1)) (by omega) (by (repeat (first | exact Mem.le.refl _ | assumption | (apply Mem.le.trans; rotate_left; assumption)))) (fr' := [(0, [], _), (1, [], _), (7, [], _), (8, [], _), (9, [], _)]) ⟨rfl, rfl, rfl, rfl, rfl, trivial⟩ ⟨k + 1, ⟨by omega, fun j hj => by
        by_cases e : j = k
        · rw [e]; exact hst
        · exact hall j (by omega)⟩, rfl, rfl, rfl⟩
  · skip
    have hkl : c.length ≤ k := by
      have : ¬ k < c.length := by simpa using h10
      omega
    refine G.region rfl (fun R hR => ?_)
    iterate 4 refine D.pure rfl rfl rfl rfl rfl rfl ?_
    refine D.done [(4, [], _)] ⟨rfl, trivial⟩ (hR _ _ _ rfl ?_); clear hR R
    refine G.retN (G.dropAll (G.fin1 rfl rfl ?_))
    refine ⟨?_, rfl⟩
    have h5 : ((List.range c.length).all fun k => arcB l (cI c k) && (decide (k = 0) || decide ((gR l (cI c (k - 1))).upper = (gR l (cI c k)).lower))) = true := by
      rw [List.all_eq_true]
      exact fun j hj => hall j (by have := List.mem_range.1 hj; omega)
    unfold chainB
    rw [h5, Bool.and_true]
    simp
theorem chain_in {l : List Rel} {c : List Int} (h : chainB l c = true) : 0 < c.length ∧ ∀ k, k < c.length → 0 ≤ cI c k ∧ cI c k < l.length := by
  unfold chainB at h
  rw [Bool.and_eq_true, List.all_eq_true] at h
  refine ⟨of_decide_eq_true h.1, fun k hk => ?_⟩
  have := h.2 k (List.mem_range.2 hk)
  rw [Bool.and_eq_true] at this
  exact arcB_in this.1
def inW (l : List Rel) (c : List Int) (w : Bool) (i : Nat) : Nat → Bool
  | 0 => w
  | k + 1 => inW l c w i k && !decide ((gR l (cI c k)).lower = (gR l (cI c i)).lower)
def dW (l : List Rel) (c : List Int) : Nat → Bool
  | 0 => e0B l c
  | i + 1 => inW l c (dW l c i) i i
theorem inW_eq (l : List Rel) (c : List Int) (w : Bool) (i : Nat) : ∀ k, inW l c w i k = (w && inB l c i k)
  | 0 => by unfold inW inB; simp
  | k + 1 => by
    rw [inW, inW_eq l c w i k]
    unfold inB
    rw [List.range_succ, List.all_append]
    simp [Bool.and_assoc]
theorem dW_eq (l : List Rel) (c : List Int) : ∀ i, dW l c i = (e0B l c && dB l c i)
  | 0 => by unfold dW dB; simp
  | i + 1 => by
    rw [dW, inW_eq, dW_eq l c i]
    unfold dB
    rw [List.range_succ, List.all_append]
    simp [Bool.and_assoc]
/-- What succession.Cycle answers at made relations. -/
theorem cycRes_own {D : Mem} {l : List Rel} {r : Value} (hm : Made l) (h : CycRes D l r) : ∃ (A : Option Addr) (n cp : Nat) (own : List Int) (f : Bool), r = .tuple #[.slice A n cp, .bool f, .int .i64 0] ∧ Sl D 1 (.slice A n cp) (own.map encI) ∧ own.length ≤ 1000000 ∧ cycB l own = f := by
  rcases h with ⟨h1, _⟩ | ⟨_, _, h2⟩ | ⟨_, q, v, hq, h2, h3⟩
  · exact absurd hm.err h1
  · exact ⟨none, 0, 0, [], false, h2, Sl.nil D 1, by simp, rfl⟩
  · obtain ⟨A, cp, rfl, _⟩ := id h3
    refine ⟨A, _, cp, (nums q).map fun n : Nat => (n : Int), true, h2, by rw [← encN_I]; exact h3, ?_, least_cyc hm hq⟩
    obtain ⟨⟨a0, q', hqe, hin, hch, _⟩, hmin, _⟩ := hq
    have hnd := short_nodup hin hch hmin
    have hb : ∀ x ∈ lows q, x < (unitsL l).length := fun x hx => by
      obtain ⟨a, ha, rfl⟩ := List.mem_map.1 hx
      obtain ⟨y, h4, _, h5⟩ := mem_arcs3.1 (hin a ha)
      rw [h5]
      exact posS_lt (mem_units (List.mem_of_getElem? h4)).1
    have h6 := nodup_len hnd hb
    have h7 := hm.units
    simp only [lows, List.length_map] at h6
    simp only [nums, List.length_map]
    omega
set_option maxHeartbeats 4000000 in
theorem cycles55_fn (C : Mem) (hT : Tabs C) (v vc : Value) (s : List Seen) (c : List Int) (hv : Sl C 3 v (s.map Seen.enc)) (hc : Sl C 1 vc (c.map encI)) : Gives cx.P 5 [v, vc] C (.bool true) := by
  obtain ⟨A, ca, rfl, _⟩ := id hv
  obtain ⟨Ac, cc, rfl, _⟩ := id hc
  simp only [List.length_map] at hv hc ⊢
  refine Fn.intro (by kernel_rfl) Tryz.func5 rfl 102 rfl rfl (fun w0 => ?_)
  refine G.region rfl (fun R hR => ?_)
  refine D.pure rfl rfl rfl rfl rfl rfl ?_
  refine D.done [(0, [], _), (1, [], _)] ⟨rfl, rfl, trivial⟩ (hR _ _ _ rfl ?_); clear hR R
  refine G.region rfl (fun R hR => ?_)
  refine D.gives2 (known_fn _ (hT.mono (by (repeat (first | exact Mem.le.refl _ | assumption | (apply Mem.le.trans; rotate_left; assumption)))))) rfl rfl rfl rfl rfl rfl rfl (fun _ => rfl) ?_
  iterate 3 refine D.pure rfl rfl rfl rfl rfl rfl ?_
  refine D.gives (fun _ => (fits_fn _ A s.length ca)) rfl rfl rfl rfl rfl rfl rfl rfl rfl ?_
  refine D.pure rfl rfl rfl rfl rfl rfl ?_
  refine D.pickOr rfl rfl rfl rfl rfl rfl rfl rfl ?_
  iterate 4 refine D.pure rfl rfl rfl rfl rfl rfl ?_
  refine D.pickOr rfl rfl rfl rfl rfl rfl rfl rfl ?_
  refine D.done [(0, [], _), (1, [], _), (23, [], _)] ⟨rfl, rfl, rfl, trivial⟩ (hR _ _ _ rfl ?_); clear hR R
  refine G.cond rfl (fun h23 => ?_) (fun h23 => ?_)
  · skip
    refine G.region rfl (fun R hR => ?_)
    refine D.gives2 (known_fn _ (hT.mono (by (repeat (first | exact Mem.le.refl _ | assumption | (apply Mem.le.trans; rotate_left; assumption)))))) rfl rfl rfl rfl rfl rfl rfl (fun _ => rfl) ?_
    refine D.pure rfl rfl rfl rfl rfl rfl ?_
    refine D.done [(4, [], _)] ⟨rfl, trivial⟩ (hR _ _ _ rfl ?_); clear hR R
    refine G.retN (G.dropAll (G.fin1 rfl rfl ?_))
    exact ⟨rfl, rfl⟩
  · skip
    have hcl : c.length ≤ 6 := by
      simp at h23
      omega
    refine G.region rfl (fun R hR => ?_)
    refine D.pure rfl rfl rfl rfl rfl rfl ?_
    refine D.callP (make_fn _ _ s (hv.mono (by (repeat (first | exact Mem.le.refl _ | assumption | (apply Mem.le.trans; rotate_left; assumption)))))) rfl rfl rfl rfl rfl rfl rfl (fun _ => rfl) (fun v26 C26 hle26 hq26 => ?_)
    obtain ⟨Am, cm, rfl, _⟩ := id hq26
    have hma := made_makeL s
    obtain ⟨l, hl⟩ : ∃ l, makeL s = l := ⟨_, rfl⟩
    rw [hl] at hq26 hma
    have hl8 := hma.1
    rw [List.length_map] at hq26
    rw [hl, List.length_map]
    refine D.pure rfl rfl rfl rfl rfl rfl ?_
    refine D.done [(1, [], _), (5, [], _)] ⟨rfl, rfl, trivial⟩ (hR _ _ _ rfl ?_); clear hR R
    refine G.region rfl (fun R hR => ?_)
    iterate 2 refine D.pure rfl rfl rfl rfl rfl rfl ?_
    refine D.gives2 (chain_fn _ _ _ l c (hq26.mono (by (repeat (first | exact Mem.le.refl _ | assumption | (apply Mem.le.trans; rotate_left; assumption))))) (hc.mono (by (repeat (first | exact Mem.le.refl _ | assumption | (apply Mem.le.trans; rotate_left; assumption)))))) rfl rfl rfl rfl rfl rfl rfl (fun _ => rfl) ?_
    refine D.pure rfl rfl rfl rfl rfl rfl ?_
    refine D.done [(1, [], _), (5, [], _), (6, [], _)] ⟨rfl, rfl, rfl, trivial⟩ (hR _ _ _ rfl ?_); clear hR R
    refine G.region rfl (fun R hR => ?_)
    refine D.pure rfl rfl rfl rfl rfl rfl ?_
    refine D.done [(1, [], _), (5, [], _), (6, [], _), (30, [], _)] ⟨rfl, rfl, rfl, rfl, trivial⟩ (hR _ _ _ rfl ?_); clear hR R
    refine G.cut (fun fr C' L' μ => (True) ∧ fr = [(1, [], .slice Ac c.length cc), (5, [], .slice Am l.length cm), (6, [], .bool (cycB l c))] ∧ L' = []) ?_ (fun fr C30 L30 μ hle30 hI => ?_)
    · skip
      refine G.cond rfl (fun h30 => ?_) (fun h30 => ?_)
      · skip
        obtain ⟨hn, hin⟩ := chain_in h30
        have hrl : (c.map encI)[((c.length : Int) - 1).toNat]? = some (encI (cI c (c.length - 1))) := by rw [show ((c.length : Int) - 1).toNat = c.length - 1 by omega, List.getElem?_map, cI_at (by omega)]; rfl
        have hr0 : (c.map encI)[(0 : Int).toNat]? = some (encI (cI c 0)) := by rw [show (0 : Int).toNat = 0 from rfl, List.getElem?_map, cI_at hn]; rfl
        obtain ⟨u0, u1⟩ := hin (c.length - 1) (by omega)
        obtain ⟨w0', w1⟩ := hin 0 hn
        refine G.draw [0, 1, 2, 3, 4, 5, 6, 7, 8, 9, 10, 11, 12, 13, 14, 15, 16, 17, 18] [] rfl (by kernel_rfl) (fun R hB hR => ?_)
        iterate 4 refine D.pure rfl rfl rfl rfl rfl rfl ?_
        refine D.i64 _ rfl rfl rfl rfl rfl (by omega) (by omega) rfl rfl ?_
        refine D.index0 (hc.mono (by (repeat (first | exact Mem.le.refl _ | assumption | (apply Mem.le.trans; rotate_left; assumption))))) rfl rfl rfl rfl rfl rfl rfl rfl rfl rfl (by omega) hrl (fun _ => rfl) (fun p36 hp36 => ?_)
        refine D.loadP0 hp36 rfl rfl rfl rfl rfl rfl rfl rfl ?_
        refine D.index0 (hq26.mono (by (repeat (first | exact Mem.le.refl _ | assumption | (apply Mem.le.trans; rotate_left; assumption))))) rfl rfl rfl rfl rfl rfl rfl rfl rfl rfl (by omega) (gR_at u0 u1).2 (fun _ => rfl) (fun p38 hp38 => ?_)
        refine D.fieldP0 hp38 rfl rfl rfl rfl rfl rfl rfl rfl rfl rfl (fun _ => rfl) (fun p39 hp39 => ?_)
        refine D.loadP0 hp39 rfl rfl rfl rfl rfl rfl rfl rfl ?_
        iterate 2 refine D.pure rfl rfl rfl rfl rfl rfl ?_
        refine D.index0 (hc.mono (by (repeat (first | exact Mem.le.refl _ | assumption | (apply Mem.le.trans; rotate_left; assumption))))) rfl rfl rfl rfl rfl rfl rfl rfl rfl rfl (by omega) hr0 (fun _ => rfl) (fun p43 hp43 => ?_)
        refine D.loadP0 hp43 rfl rfl rfl rfl rfl rfl rfl rfl ?_
        refine D.index0 (hq26.mono (by (repeat (first | exact Mem.le.refl _ | assumption | (apply Mem.le.trans; rotate_left; assumption))))) rfl rfl rfl rfl rfl rfl rfl rfl rfl rfl (by omega) (gR_at w0' w1).2 (fun _ => rfl) (fun p45 hp45 => ?_)
        refine D.fieldP0 hp45 rfl rfl rfl rfl rfl rfl rfl rfl rfl rfl (fun _ => rfl) (fun p46 hp46 => ?_)
        refine D.loadP0 hp46 rfl rfl rfl rfl rfl rfl rfl rfl ?_
        iterate 2 refine D.pure rfl rfl rfl rfl rfl rfl ?_
        refine D.done [(1, [], _), (5, [], _), (6, [], _)] ⟨rfl, rfl, rfl, trivial⟩ (hR _ _ _ rfl ?_); clear hR hB R
        refine G.region rfl (fun R hR => ?_)
        iterate 3 refine D.pure rfl rfl rfl rfl rfl rfl ?_
        refine D.done [(1, [], _), (5, [], _), (6, [], _), (50, [], _), (51, [], _)] ⟨rfl, rfl, rfl, rfl, rfl, trivial⟩ (hR _ _ _ rfl ?_); clear hR R
        rw [eqStr]
        refine G.loop (fun fr C' L' μ => ∃ (i : Nat), (i ≤ c.length) ∧ fr = [(1, [], .slice Ac c.length cc), (5, [], .slice Am l.length cm), (6, [], .bool (dW l c i)), (50, [], .int .i64 c.length), (51, [], .int .i64 i)] ∧ L' = [] ∧ μ = c.length - i) (fr' := [(1, [], _), (5, [], _), (6, [], _), (50, [], _), (51, [], _)]) ⟨rfl, rfl, rfl, rfl, rfl, trivial⟩ ⟨0, Nat.zero_le _, rfl, rfl, rfl⟩ (fun fr C0' L0' m hle0 hI => ?_)
        obtain ⟨i, hi, rfl, rfl, rfl⟩ := hI
        refine G.region rfl (fun R hR => ?_)
        refine D.pure rfl rfl rfl rfl rfl rfl ?_
        refine D.done [(1, [], _), (5, [], _), (6, [], _), (50, [], _), (51, [], _), (52, [], _)] ⟨rfl, rfl, rfl, rfl, rfl, rfl, trivial⟩ (hR _ _ _ rfl ?_); clear hR R
        refine G.cond rfl (fun h52 => ?_) (fun h52 => ?_)
        · skip
          have hil : i < c.length := by simpa using h52
          have hri : (c.map encI)[i]? = some (encI (cI c i)) := by rw [List.getElem?_map, cI_at hil]; rfl
          obtain ⟨i0, i1⟩ := hin i hil
          refine G.region rfl (fun R hR => ?_)
          iterate 2 refine D.pure rfl rfl rfl rfl rfl rfl ?_
          refine D.done [(1, [], _), (5, [], _), (6, [], _), (7, [], _), (50, [], _), (51, [], _)] ⟨rfl, rfl, rfl, rfl, rfl, rfl, trivial⟩ (hR _ _ _ rfl ?_); clear hR R
          refine G.region rfl (fun R hR => ?_)
          refine D.pure rfl rfl rfl rfl rfl rfl ?_
          refine D.done [(1, [], _), (5, [], _), (6, [], _), (7, [], _), (8, [], _), (50, [], _), (51, [], _)] ⟨rfl, rfl, rfl, rfl, rfl, rfl, rfl, trivial⟩ (hR _ _ _ rfl ?_); clear hR R
          refine G.loop (fun fr C' L' μ => ∃ (k : Nat), (k ≤ i) ∧ fr = [(1, [], .slice Ac c.length cc), (5, [], .slice Am l.length cm), (6, [], .bool (inW l c (dW l c i) i k)), (7, [], .int .i64 i), (8, [], .int .i64 k), (50, [], .int .i64 c.length), (51, [], .int .i64 i)] ∧ L' = [] ∧ μ = i - k) (fr' := [(1, [], _), (5, [], _), (6, [], _), (7, [], _), (8, [], _), (50, [], _), (51, [], _)]) ⟨rfl, rfl, rfl, rfl, rfl, rfl, rfl, trivial⟩ ⟨0, Nat.zero_le _, rfl, rfl, rfl⟩ (fun fr C1' L1' m hle1 hI => ?_)
          obtain ⟨k, hk, rfl, rfl, rfl⟩ := hI
          refine G.region rfl (fun R hR => ?_)
          iterate 3 refine D.pure rfl rfl rfl rfl rfl rfl ?_
          refine D.done [(1, [], _), (5, [], _), (6, [], _), (7, [], _), (8, [], _), (50, [], _), (51, [], _), (56, [], _)] ⟨rfl, rfl, rfl, rfl, rfl, rfl, rfl, rfl, trivial⟩ (hR _ _ _ rfl ?_); clear hR R
          refine G.cond rfl (fun h56 => ?_) (fun h56 => ?_)
          · skip
            have hki : k < i := by simpa using h56
            have hrk : (c.map encI)[k]? = some (encI (cI c k)) := by rw [List.getElem?_map, cI_at (by omega)]; rfl
            obtain ⟨k0, k1⟩ := hin k (by omega)
            refine G.draw [0, 1, 2, 3, 4, 5, 6, 7, 8, 9, 10, 11, 12, 13, 14, 15, 16, 17, 18, 19, 20] [] rfl (by kernel_rfl) (fun R hB hR => ?_)
            iterate 5 refine D.pure rfl rfl rfl rfl rfl rfl ?_
            refine D.index rfl rfl rfl rfl rfl rfl rfl rfl rfl rfl (fun hg => ⟨(hc.mono (by (repeat (first | exact Mem.le.refl _ | assumption | (apply Mem.le.trans; rotate_left; assumption))))), by omega, hrk⟩) (fun _ => rfl) rfl (fun p64 hp64 => ?_)
            refine D.loadP rfl rfl rfl rfl rfl rfl hp64 rfl rfl rfl ?_
            refine D.index rfl rfl rfl rfl rfl rfl rfl rfl rfl rfl (fun hg => ⟨(hq26.mono (by (repeat (first | exact Mem.le.refl _ | assumption | (apply Mem.le.trans; rotate_left; assumption))))), by omega, (gR_at k0 k1).2⟩) (fun _ => rfl) rfl (fun p66 hp66 => ?_)
            refine D.fieldP rfl rfl rfl rfl rfl rfl rfl rfl rfl rfl hp66 (fun _ => rfl) rfl (fun p67 hp67 => ?_)
            refine D.loadP rfl rfl rfl rfl rfl rfl hp67 rfl rfl rfl ?_
            iterate 3 refine D.pure rfl rfl rfl rfl rfl rfl ?_
            refine D.index rfl rfl rfl rfl rfl rfl rfl rfl rfl rfl (fun hg => ⟨(hc.mono (by (repeat (first | exact Mem.le.refl _ | assumption | (apply Mem.le.trans; rotate_left; assumption))))), by omega, hri⟩) (fun _ => rfl) rfl (fun p72 hp72 => ?_)
            refine D.loadP rfl rfl rfl rfl rfl rfl hp72 rfl rfl rfl ?_
            refine D.index rfl rfl rfl rfl rfl rfl rfl rfl rfl rfl (fun hg => ⟨(hq26.mono (by (repeat (first | exact Mem.le.refl _ | assumption | (apply Mem.le.trans; rotate_left; assumption))))), by omega, (gR_at i0 i1).2⟩) (fun _ => rfl) rfl (fun p74 hp74 => ?_)
            refine D.fieldP rfl rfl rfl rfl rfl rfl rfl rfl rfl rfl hp74 (fun _ => rfl) rfl (fun p75 hp75 => ?_)
            refine D.loadP rfl rfl rfl rfl rfl rfl hp75 rfl rfl rfl ?_
            refine D.pure rfl rfl rfl rfl rfl rfl ?_
            refine D.pickAnd rfl rfl rfl rfl rfl rfl rfl rfl ?_
            refine D.pure rfl rfl rfl rfl rfl rfl ?_
            refine D.done [(1, [], _), (5, [], _), (6, [], _), (7, [], _), (8, [], _), (50, [], _), (51, [], _)] ⟨rfl, rfl, rfl, rfl, rfl, rfl, rfl, trivial⟩ (hR _ _ _ rfl ?_); clear hR hB R
            refine G.region rfl (fun R hR => ?_)
            refine D.pure rfl rfl rfl rfl rfl rfl ?_
            refine D.i64 _ rfl rfl rfl rfl rfl (by omega) (by omega) rfl rfl ?_
            refine D.pure rfl rfl rfl rfl rfl rfl ?_
            refine D.done [(1, [], _), (5, [], _), (6, [], _), (7, [], _), (8, [], _), (50, [], _), (51, [], _)] ⟨rfl, rfl, rfl, rfl, rfl, rfl, rfl, trivial⟩ (hR _ _ _ rfl ?_); clear hR R
            rw [eqStr]
            refine G.again (m' := i - (k + 1)) (by omega) (by (repeat (first | exact Mem.le.refl _ | assumption | (apply Mem.le.trans; rotate_left; assumption)))) (fr' := [(1, [], _), (5, [], _), (6, [], _), (7, [], _), (8, [], _), (50, [], _), (51, [], _)]) ⟨rfl, rfl, rfl, rfl, rfl, rfl, rfl, trivial⟩ ⟨k + 1, by omega, rfl, rfl, rfl⟩
          · skip
            have hki : k = i := by
              have : ¬ k < i := by simpa using h56
              omega
            subst hki
            refine G.region rfl (fun R hR => ?_)
            refine D.i64 _ rfl rfl rfl rfl rfl (by omega) (by omega) rfl rfl ?_
            refine D.pure rfl rfl rfl rfl rfl rfl ?_
            refine D.done [(1, [], _), (5, [], _), (6, [], _), (50, [], _), (51, [], _)] ⟨rfl, rfl, rfl, rfl, rfl, trivial⟩ (hR _ _ _ rfl ?_); clear hR R
            refine G.again (m' := c.length - (k + 1)) (by omega) (by (repeat (first | exact Mem.le.refl _ | assumption | (apply Mem.le.trans; rotate_left; assumption)))) (fr' := [(1, [], _), (5, [], _), (6, [], _), (50, [], _), (51, [], _)]) ⟨rfl, rfl, rfl, rfl, rfl, trivial⟩ ⟨k + 1, by omega, rfl, rfl, rfl⟩
        · skip
          have hil : i = c.length := by
            have : ¬ i < c.length := by simpa using h52
            omega
          have hfin : dW l c i = cycB l c := by rw [hil, dW_eq, chain_cyc, h30, Bool.true_and]
          rw [hfin]
          refine G.meet 0 (by (repeat (first | exact Mem.le.refl _ | assumption | (apply Mem.le.trans; rotate_left; assumption)))) (fr' := [(1, [], _), (5, [], _), (6, [], _)]) ⟨rfl, rfl, rfl, trivial⟩ ⟨trivial, rfl, rfl⟩
      · skip
        have hfin : chainB l c = cycB l c := by rw [chain_cyc, h30, Bool.false_and]
        rw [hfin]
        refine G.meet 0 (by (repeat (first | exact Mem.le.refl _ | assumption | (apply Mem.le.trans; rotate_left; assumption)))) (fr' := [(1, [], _), (5, [], _), (6, [], _)]) ⟨rfl, rfl, rfl, trivial⟩ ⟨trivial, rfl, rfl⟩
    · skip
      obtain ⟨_, rfl, rfl⟩ := hI
      refine G.region rfl (fun R hR => ?_)
      refine D.pure rfl rfl rfl rfl rfl rfl ?_
      refine D.callP (cycle_fn _ _ l (hq26.mono (by (repeat (first | exact Mem.le.refl _ | assumption | (apply Mem.le.trans; rotate_left; assumption))))) (by omega) hma.short) rfl rfl rfl rfl rfl rfl rfl (fun _ => rfl) (fun v82 C82 hle82 hq82 => ?_)
      obtain ⟨Aw, nw, cw, own, f, rfl, how, hol, hof⟩ := cycRes_own hma hq82
      iterate 7 refine D.pure rfl rfl rfl rfl rfl rfl ?_
      refine D.done [(1, [], _), (5, [], _), (6, [], _), (9, [], _), (10, [], _), (11, [], _)] ⟨rfl, rfl, rfl, rfl, rfl, rfl, trivial⟩ (hR _ _ _ rfl ?_); clear hR R
      refine G.region rfl (fun R hR => ?_)
      iterate 2 refine D.pure rfl rfl rfl rfl rfl rfl ?_
      refine D.gives2 (ccycle_fn _ _ _ l c (hq26.mono (by (repeat (first | exact Mem.le.refl _ | assumption | (apply Mem.le.trans; rotate_left; assumption))))) (hc.mono (by (repeat (first | exact Mem.le.refl _ | assumption | (apply Mem.le.trans; rotate_left; assumption))))) (by omega)) rfl rfl rfl rfl rfl rfl rfl (fun _ => rfl) ?_
      iterate 5 refine D.pure rfl rfl rfl rfl rfl rfl ?_
      refine D.pickAnd rfl rfl rfl rfl rfl rfl rfl rfl ?_
      iterate 3 refine D.pure rfl rfl rfl rfl rfl rfl ?_
      refine D.gives (fun _ => (ccycle_fn _ _ _ l own (hq26.mono (by (repeat (first | exact Mem.le.refl _ | assumption | (apply Mem.le.trans; rotate_left; assumption))))) (how.mono (by (repeat (first | exact Mem.le.refl _ | assumption | (apply Mem.le.trans; rotate_left; assumption))))) hol)) rfl rfl rfl rfl rfl rfl rfl rfl rfl ?_
      iterate 2 refine D.pure rfl rfl rfl rfl rfl rfl ?_
      refine D.pickAnd rfl rfl rfl rfl rfl rfl rfl rfl ?_
      refine D.pure rfl rfl rfl rfl rfl rfl ?_
      refine D.done [(4, [], _)] ⟨rfl, trivial⟩ (hR _ _ _ rfl ?_); clear hR R
      refine G.retN (G.dropAll (G.fin1 rfl rfl ?_))
      refine ⟨?_, rfl⟩
      rw [hof]
      simp
end Go.Proofs.YtjcienaflbhedaaGreatDoor
namespace Go.Proofs.YtjcienaflbhedaaGreatDoor
open Go Go.Jog Go.ChangeShapes Go.WideShapes Go.ChangeAt Go.RowKit
set_option maxRecDepth 100000

namespace lawCheckerCycles
theorem laid_met (os : Os) (args : Array Value) : laidMetH Tryz.prog Rows.checkerCyclesRow.laid ((laidWorld os).forCall (fun _ _ => 0) ⟨#[], args, []⟩).memory :=
  laidMet_of_run' 8 (by kernel_rfl) (by kernel_rfl)
theorem contract (H : Type) (enc : TypeId × Value → H) (W : World) (base : Nat) (args : Array Value) (ds gs : List (DataW H)) (before : List MemPlace)
    (hval : ∀ (j : Nat) t v, Tryz.f5.params[j]? = some t → args[j]? = some v → Value.okWide Tryz.prog W .any base t v)
    (hW : DataW.Whole enc Tryz.prog Tryz.f5.params.toList Rows.checkerCyclesSpec.vars false W args.toList ds gs before) (hL : laidMet Tryz.prog Rows.checkerCyclesRow.laid W) :
    Calls Tryz.prog 5 args W fun e W' => ∃ v, e = .returned v ∧ Rows.checkerCyclesSpec.post enc Tryz.prog Tryz.f5 false true false false W args v W' := by
  have hW' := hW
  obtain ⟨p, q, hA0, hV, rfl, hfz, hnd⟩ := hW
  have hA : DataW.TrodAll enc Tryz.prog W 0 (fun _ => true) true Tryz.f5.params.toList args.toList ds p := hA0
  rw [Tryz.params5] at hA hval
  obtain ⟨v0, vs0, d0, ds0, p0, q0, hargs0, rfl, rfl, h0, r0⟩ := trodAll_cons hA
  obtain ⟨v1, vs1, d1, ds1, p1, q1, hargs1, rfl, rfl, h1, r1⟩ := trodAll_cons r0
  obtain ⟨rfl, rfl, rfl⟩ := trodAll_nil r1
  obtain rfl : args = #[v0, v1] := by cases args; simp_all
  obtain ⟨rfl, rfl⟩ := trodVars_none hV
  obtain ⟨a0, len0, cap0, rfl⟩ := okWide_slice Tryz.underlying25 (hval 0 25 v0 rfl rfl)
  obtain ⟨l0, hl0⟩ : ∃ l : List Seen, Sl (memOf W) 3 (.slice a0 len0 cap0) (l.map Seen.enc) := by
    obtain ⟨n, hn⟩ := (id h0)
    exact seens_of hn
  obtain ⟨a1, len1, cap1, rfl⟩ := okWide_slice Tryz.underlying32 (hval 1 32 v1 rfl rfl)
  obtain ⟨l1, hl1⟩ : ∃ l : List Int, Sl (memOf W) 1 (.slice a1 len1 cap1) (l.map encI) := by
    obtain ⟨n, hn⟩ := (id h1)
    exact ints_of hn
  simp only [List.append_nil] at hW'
  have hlt0 : ∀ x ∈ p0, x.block < W.heap.size := fun x hx => hW'.lt x (by simp [hx])
  have hlt1 : ∀ x ∈ p1, x.block < W.heap.size := fun x hx => hW'.lt x (by simp [hx])
  have main := gives_below (cycles55_fn (memOf W) (tabs_of hL) _ _ l0 l1 hl0 hl1)
  refine Calls.mono main fun e W' ⟨he, hb⟩ => ?_
  subst he
  refine ⟨_, rfl, post_of_below (pa := p0 ++ (p1 ++ ([]))) (pv := []) hW' (fun _ _ _ => trodAll_cons_mk (shut_bool Tryz.underlying4 _) trodAll_mk0) (fun sp hsp => ?_) (fun _ _ => rfl) (by simp) hb (ok_one (by kernel_rfl) rfl (okWide_bool_mk Tryz.underlying4 _))⟩
  exact trodAll_cons_mk (WideElems.Trod_stays laidOut' (by kernel_rfl) (of_decide_eq_true (by kernel_rfl)) h0 (fun x hx => hb.same (hlt0 x hx)) (fun x hx => hsp x (by simp [hx]))) (trodAll_cons_mk (WideElems.Trod_stays laidOut' (by kernel_rfl) (of_decide_eq_true (by kernel_rfl)) h1 (fun x hx => hb.same (hlt1 x hx)) (fun x hx => hsp x (by simp [hx]))) (trodAll_mk0))

theorem reads (os : Os) {H : Type} (enc : TypeId × Value → H) : ∃ places, DataW.whole enc Tryz.prog ((laidWorld os).forCall (fun _ _ => 0) ⟨#[], #[.slice none 0 0, .slice none 0 0], []⟩).memory Tryz.f5.params.toList Rows.checkerCyclesSpec.vars false (#[.slice none 0 0, .slice none 0 0] : Array Value).toList 8 = some ([.nil, .nil], [], places) :=
  ⟨[], by kernel_rfl⟩

theorem lifted (os : Os) (started : os.Started) (H : Type) (enc : TypeId × Value → H) (F : Stop.Interp) :
    ReturnsInHanded {} Tryz.checked os 5 .any ((OpenSpec.ofChange Rows.checkerCyclesSpec).preRow enc Tryz.prog Tryz.f5 Rows.checkerCyclesRow.domain false Rows.checkerCyclesRow.laid) (((OpenSpec.ofChange Rows.checkerCyclesSpec).at F).post enc Tryz.prog Tryz.f5 false true false false) := by
  obtain ⟨places, hx⟩ := reads os enc
  refine returnsInHanded_of_row (C := Tryz.checked) (s := OpenSpec.ofChange Rows.checkerCyclesSpec) own started (by kernel_rfl) Tryz.func5
    (witness_row_at (enc := enc) (C := Tryz.checked) false (laidWorld os) #[.slice none 0 0, .slice none 0 0] rfl (by kernel_rfl) (by kernel_rfl) (by kernel_rfl)
      (OpenSpec.preRow_of_cond 8 hx (by kernel_rfl) (fun k hk => by cases hk) (by kernel_rfl) (laid_met os _))) ?_
  intro W base args ds gs before hval hW _ _ _ hL _ _
  exact contract H enc W base args ds gs before hval hW hL

theorem said : Rows.CheckerCyclesSaid :=
  OpenClaim.holds_of_cond 5 Tryz.f5 rfl rfl rfl rfl rfl rfl rfl ⟨rfl, rfl, rfl, rfl, rfl⟩ rfl rfl rfl rfl rfl (by kernel_rfl) Tryz.func5 (by kernel_rfl)
    (of_decide_eq_true (by kernel_rfl)) (by unfold Func.isWrapper; first | (rw [if_pos (by decide +kernel)]; kernel_rfl) | (rw [if_neg (by decide +kernel)]; exact ⟨rfl, rfl⟩))
    (fun os started H enc _ F => by rw [OpenClaim.pre_eq_preRow]; exact lifted os started H enc F)

theorem plain (f : FuncId) (fn : Func) (hf : Tryz.pinned.checked.prog.funcNamed "klippe/klippelaw55.CheckerCycles" = some f) (hfn : Tryz.pinned.checked.prog.funcs[f]? = some fn) :
    false = Tryz.pinned.checked.prog.looks [] ∧ ∀ (j : Nat) t, fn.params[j]? = some t → Tryz.pinned.checked.prog.wantsStandIn t = false := by
  obtain rfl : f = 5 := Option.some.inj ((show Tryz.prog.funcNamed "klippe/klippelaw55.CheckerCycles" = some 5 by kernel_rfl).symm.trans hf) |>.symm
  obtain rfl : fn = Tryz.f5 := (Option.some.inj (Tryz.func5.symm.trans hfn)).symm
  refine ⟨by kernel_rfl, fun j t ht => ?_⟩
  rw [Tryz.params5] at ht
  have hm := Array.mem_of_getElem? ht
  simp only [List.mem_toArray, List.mem_cons, List.not_mem_nil, or_false] at hm
  rcases hm with rfl | rfl
  · exact (show Tryz.prog.wantsStandIn 25 = false by kernel_rfl)
  · exact (show Tryz.prog.wantsStandIn 32 = false by kernel_rfl)
end lawCheckerCycles

/-- FOR ANY DESCRIPTIONS AND ANY LIST OF NUMBERS CheckerCycles ANSWERS true, and leaves them as they were. The listed tables as the program's text lays them (the card ties them). -/
theorem checkerCycles_card : Rows.CheckerCyclesCardSaid :=
  Claim7.holds_tied_plain_at .later [] _ _ _ _ lawCheckerCycles.said (fun _ h => by cases h) (by kernel_rfl) (fun _ h => by cases h) checkerCycles_row_tie rfl ⟨rfl, rfl⟩ (by kernel_rfl) rfl lawCheckerCycles.plain (by kernel_rfl)
#print axioms checkerCycles_card
end Go.Proofs.YtjcienaflbhedaaGreatDoor
