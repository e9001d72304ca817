/- FOR ANY DESCRIPTIONS ContradictionRepairs ANSWERS true, and leaves them as they were. -/
import Derived.Test.YtcghlfepfcagbaaGreatG10
import Derived.Test.YtcghlfepfcagbaaGreatShelf
namespace Go.Proofs.YtcghlfepfcagbaaGreat
open Go Go.Jog
set_option maxRecDepth 100000

end Go.Proofs.YtcghlfepfcagbaaGreat
namespace Go.Proofs.YtcghlfepfcagbaaGreat
open Go Go.Jog
set_option maxRecDepth 100000

/-! ### Groups, plain -/
section
variable {α : Type}
structure Eqv (M : α → α → Bool) (K : List α) : Prop where
  refl : ∀ s ∈ K, M s s = true
  symm : ∀ s ∈ K, ∀ t ∈ K, M s t = true → M t s = true
  trans : ∀ s ∈ K, ∀ t ∈ K, ∀ u ∈ K, M s t = true → M t u = true → M s u = true
theorem Eqv.sub {M : α → α → Bool} {K R : List α} (h : Eqv M K) (hs : ∀ x ∈ R, x ∈ K) : Eqv M R :=
  ⟨fun s h1 => h.refl s (hs s h1), fun s h1 t h2 => h.symm s (hs s h1) t (hs t h2), fun s h1 t h2 u h3 => h.trans s (hs s h1) t (hs t h2) u (hs u h3)⟩
end
section
variable {α : Type} [DecidableEq α]
end
theorem OutS.at {C : Mem} {ov : List Value} {outs : List (List Str)} (h : OutS C ov outs) {j : Nat} {o : List Str} (ho : outs[j]? = some o) : ∃ A c, (ov.map fun x => [x])[j]? = some [.slice A o.length c] ∧ Sl C 1 (.slice A o.length c) (o.map encS) := by
  have hj := (List.getElem?_eq_some_iff.1 ho).1
  have hv : ov[j]? = some (ov[j]'(by rw [h.1]; exact hj)) := List.getElem?_eq_getElem _
  obtain ⟨A, c, he, _⟩ := id (h.2 j _ o hv ho)
  rw [List.length_map] at he
  have hs := h.2 j _ o hv ho
  rw [he] at hs hv
  exact ⟨A, c, by rw [List.getElem?_map, hv]; rfl, hs⟩
end Go.Proofs.YtcghlfepfcagbaaGreat
namespace Go.Proofs.YtcghlfepfcagbaaGreat
open Go Go.Jog
set_option maxRecDepth 100000

end Go.Proofs.YtcghlfepfcagbaaGreat
namespace Go.Proofs.YtcghlfepfcagbaaGreat
open Go Go.Jog
set_option maxRecDepth 100000

theorem lwithoutG_fn (C : Mem) (v : Value) (l : List Rel) (bits : Nat) (hv : Sl C 3 v (l.map Rel.enc)) (hl : l.length ≤ 60) (hb : bits < 9223372036854775808) :
    Pur cx.P 20 [v, .int .i64 bits] C fun r C' => ∃ x : Option Addr × Nat, r = .slice x.1 (wobL l bits).length x.2 ∧ Sl C' 3 (.slice x.1 (wobL l bits).length x.2) ((wobL l bits).map Rel.enc) :=
  Fn.mono (lwithout_fn C v l bits hv hl hb) (fun r C' _ _ ⟨h1, h2⟩ => ⟨h1, by
    obtain ⟨A, c, hqe, _⟩ := id h2
    rw [List.length_map] at hqe
    subst hqe
    exact ⟨(A, c), rfl, h2⟩⟩)
theorem lcyclesG_fn (C : Mem) (v : Value) (l : List Rel) (hv : Sl C 3 v (l.map Rel.enc)) (hl : l.length ≤ 8) :
    Pur cx.P 17 [v] C fun r C' => ∃ x : Option Addr × Nat, r = .slice x.1 (cycL l).length x.2 ∧ LL C' (.slice x.1 (cycL l).length x.2) (cycL l) :=
  Fn.mono (lcycles_fn C v l hv hl) (fun r C' _ _ ⟨h1, h2⟩ => ⟨h1, by
    obtain ⟨ov, h3, h4⟩ := id h2
    obtain ⟨A, c, hqe, _⟩ := id h3
    rw [List.length_map, h4.1] at hqe
    subst hqe
    exact ⟨(A, c), rfl, h2⟩⟩)
theorem wobL_len (l : List Rel) (b : Nat) : (wobL l b).length ≤ l.length := by
  have := cat_length_mul (f := wobAt l b) (m := 1) (fun i => by
    unfold wobAt; split
    · exact oneIf_len _ _
    · simp) l.length
  unfold wobL; omega
end Go.Proofs.YtcghlfepfcagbaaGreat
namespace Go.Proofs.YtcghlfepfcagbaaGreat
open Go Go.Jog
set_option maxRecDepth 100000

/-! ### What is left, by its indices -/
def phiI (l : List Rel) (g : List Nat) (k : Nat) : Nat := (leftI g l.length).getD k 0
theorem left_mem {n i : Nat} {g : List Nat} : i ∈ leftI g n ↔ i < n ∧ i ∉ g := by
  unfold leftI
  rw [idxs_mem, decide_eq_true_eq]
theorem woL_map (l : List Rel) (g : List Nat) : woL l g = (leftI g l.length).map fun i => l.getD i ⟨0, [], []⟩ := by
  unfold woL leftI idxs
  rw [cat_map']
  refine cat_congr (fun i hi => ?_)
  unfold woAt
  rw [List.getElem?_eq_getElem hi, oneIf_map]
  simp only
  have h1 : l.getD i ⟨0, [], []⟩ = l[i] := by rw [List.getD_eq_getElem?_getD, List.getElem?_eq_getElem hi]; rfl
  rw [h1]
  congr 1
  by_cases h : i ∈ g <;> simp [h]
theorem wo_get {l : List Rel} {g : List Nat} {k : Nat} {x : Rel} : (woL l g)[k]? = some x ↔ ∃ i, (leftI g l.length)[k]? = some i ∧ l[i]? = some x := by
  rw [woL_map, List.getElem?_map]
  cases hk : (leftI g l.length)[k]? with
  | none => simp
  | some i =>
    have hi := (left_mem.1 (List.mem_of_getElem? hk)).1
    have h1 : l.getD i ⟨0, [], []⟩ = l[i] := by rw [List.getD_eq_getElem?_getD, List.getElem?_eq_getElem hi]; rfl
    constructor
    · intro h
      simp only [Option.map_some, Option.some.injEq] at h
      exact ⟨i, rfl, by rw [← h, h1]; exact List.getElem?_eq_getElem hi⟩
    · rintro ⟨j, h2, h3⟩
      cases h2
      simp only [Option.map_some, Option.some.injEq]
      rw [h1]
      rw [List.getElem?_eq_getElem hi] at h3
      exact Option.some.inj h3
theorem phi_at {l : List Rel} {g : List Nat} {k i : Nat} (h : (leftI g l.length)[k]? = some i) : phiI l g k = i := by unfold phiI; rw [List.getD_eq_getElem?_getD, h]; rfl
theorem wo_from {l : List Rel} {g : List Nat} {s : Str} {k : Nat} (h : k ∈ fromL (woL l g) s) : phiI l g k ∈ fromL l s ∧ phiI l g k ∉ g ∧ upOf (woL l g) k = upOf l (phiI l g k) := by
  obtain ⟨x, h1, h2, h3⟩ := mem_from.1 h
  obtain ⟨i, h4, h5⟩ := wo_get.1 h1
  rw [phi_at h4]
  refine ⟨mem_from.2 ⟨x, h5, h2, h3⟩, (left_mem.1 (List.mem_of_getElem? h4)).2, ?_⟩
  unfold upOf; rw [h1, h5]
theorem wo_way {l : List Rel} {g : List Nat} : ∀ {x : List Nat} {s : Str}, WayL (woL l g) s x → WayL l s (x.map (phiI l g)) ∧ endL (woL l g) s x = endL l s (x.map (phiI l g)) ∧ ∀ k ∈ x.map (phiI l g), k ∉ g
  | [], s, _ => ⟨trivial, rfl, fun k hk => by cases hk⟩
  | k :: x, s, h => by
    obtain ⟨h1, h2, h3⟩ := wo_from h.1
    obtain ⟨h4, h5, h6⟩ := wo_way h.2
    rw [h3] at h4 h5
    refine ⟨⟨h1, h4⟩, ?_, fun j hj => ?_⟩
    · show endW (upOf (woL l g)) (upOf (woL l g) k) x = endW (upOf l) (upOf l (phiI l g k)) (x.map (phiI l g))
      rw [h3]; exact h5
    · rcases List.mem_cons.1 hj with rfl | hj
      · exact h2
      · exact h6 j hj
theorem way_wo {l : List Rel} {g : List Nat} : ∀ {y : List Nat} {s : Str}, WayL l s y → (∀ k ∈ y, k ∉ g) → ∃ x, WayL (woL l g) s x ∧ x.length = y.length ∧ endL (woL l g) s x = endL l s y
  | [], s, _, _ => ⟨[], trivial, rfl, rfl⟩
  | i :: y, s, h, hg => by
    obtain ⟨r, h1, h2, h3⟩ := mem_from.1 h.1
    have hi := (List.getElem?_eq_some_iff.1 h1).1
    obtain ⟨k, hk⟩ := List.getElem?_of_mem (left_mem.2 ⟨hi, hg i (by simp)⟩)
    have hw := wo_get.2 ⟨i, hk, h1⟩
    obtain ⟨x, k1, k2, k3⟩ := way_wo (g := g) h.2 (fun j hj => hg j (by simp [hj]))
    have hu : upOf (woL l g) k = upOf l i := by unfold upOf; rw [hw, h1]
    refine ⟨k :: x, ⟨mem_from.2 ⟨r, hw, h2, h3⟩, by rw [hu]; exact k1⟩, by simp [k2], ?_⟩
    show endW (upOf (woL l g)) (upOf (woL l g) k) x = _
    rw [hu]; exact k3
theorem back_way {l : List Rel} : Back (arcsOf l) ↔ ∃ s x, WayL l s x ∧ 0 < x.length ∧ endL l s x = s := by
  constructor
  · rintro ⟨k, w, hk, p, hi, hl, hc⟩
    cases p with
    | nil => simp at hl; omega
    | cons a p =>
      have ha := (In.cons.1 hi).1
      obtain ⟨x, h1, h2, h3⟩ := mem_arcs3.1 ha
      have hmu := mem_units (List.mem_of_getElem? h1)
      have hw : w = posS (unitsL l) x.lower := by rw [← hc.1, h3]
      subst hw
      obtain ⟨k1, k2, k3⟩ := way_of_chain hmu.1 hi hc
      exact ⟨x.lower, nums (a :: p), k1, by simp [nums], (pos_inj k2 hmu.1 k3.symm)⟩
  · rintro ⟨s, x, h1, h2, h3⟩
    cases x with
    | nil => simp at h2
    | cons k x =>
      have hs := low_unit h1.1
      exact ⟨_, posS (unitsL l) s, h2, (walk_way hs hs).2 ⟨k :: x, h1, rfl, h3⟩⟩
theorem noneB_iff {l : List Rel} {g : List Nat} (hl : l.length ≤ 100000) : noneB l g = true ↔ ¬ ∃ s y, WayL l s y ∧ 0 < y.length ∧ endL l s y = s ∧ ∀ k ∈ y, k ∉ g := by
  have hwl := woL_len l g
  unfold noneB
  rw [decide_eq_true_eq, ← Classical.not_not (a := cycL (woL l g) = []), ← Ne, cycL_ne (by omega), back_way]
  refine not_congr ⟨?_, ?_⟩
  · rintro ⟨s, x, h1, h2, h3⟩
    obtain ⟨k1, k2, k3⟩ := wo_way h1
    exact ⟨s, x.map (phiI l g), k1, by simpa using h2, by rw [← k2]; exact h3, k3⟩
  · rintro ⟨s, y, h1, h2, h3, h4⟩
    obtain ⟨x, k1, k2, k3⟩ := way_wo h1 h4
    exact ⟨s, x, k1, by omega, by rw [k3]; exact h3⟩
/-- A cycle of what is left is hit by each set that repairs. -/
theorem hit {l : List Rel} {g s : List Nat} (hl : l.length ≤ 100000) (hc : ¬ cycL (woL l g) = []) (hs : noneB l s = true) : ∃ k ∈ cyc0 (woL l g), phiI l g k ∈ s ∧ phiI l g k ∉ g ∧ phiI l g k < l.length := by
  have hwl := woL_len l g
  obtain ⟨m, hsm⟩ := short_ex (woL l g)
  have hm : 0 < m := (short_back hsm).2 ((cycL_ne (by omega)).1 hc)
  obtain ⟨c, r, hcr⟩ : ∃ c r, cycL (woL l g) = c :: r := by
    cases h : cycL (woL l g) with
    | nil => exact absurd h hc
    | cons c r => exact ⟨c, r, rfl⟩
  have hc0 : cyc0 (woL l g) = c := by unfold cyc0; rw [hcr]; rfl
  rw [cycL_eq (by omega) hsm] at hcr
  obtain ⟨p, h1, h2, h3⟩ := (cycAll_mem hsm hm (c := c)).1 (by rw [hcr]; simp)
  obtain ⟨a, q, rfl, hi, hch, _⟩ := h1
  obtain ⟨x, k1, k2, k3⟩ := mem_arcs3.1 (In.cons.1 hi).1
  have hmu := mem_units (List.mem_of_getElem? k1)
  have hal : a.lo = posS (unitsL (woL l g)) x.lower := by rw [k3]
  rw [hal] at hch
  obtain ⟨j1, j2, j3⟩ := way_of_chain hmu.1 hi hch
  have hend := (pos_inj j2 hmu.1 j3.symm)
  rw [h3] at j1 hend
  obtain ⟨w1, w2, w3⟩ := wo_way j1
  rw [hc0]
  apply Classical.byContradiction
  intro hno
  rw [noneB_iff hl] at hs
  apply hs
  refine ⟨x.lower, c.map (phiI l g), w1, by rw [← h3]; simp [nums], by rw [← w2]; exact hend, fun k hk hks => ?_⟩
  obtain ⟨k', hk', rfl⟩ := List.mem_map.1 hk
  exact hno ⟨k', hk', hks, w3 _ hk, by
    have := (cyc0_in (l := woL l g) (by omega)).1 k' (by rw [hc0]; exact hk')
    rw [← left_len] at this
    unfold phiI
    rw [List.getD_eq_getElem?_getD, List.getElem?_eq_getElem this]
    exact (left_mem.1 (List.getElem_mem this)).1⟩

/-! ### Sorted sets -/
theorem sortN_sorted {g : List Nat} (hn : g.Nodup) : (sortN g).Pairwise (· < ·) := by
  have h1 : (sortN g).Pairwise (fun x y => decide (x ≤ y) = true) := List.pairwise_mergeSort (le := fun x y : Nat => decide (x ≤ y)) (fun a b c h1 h2 => by simp only [decide_eq_true_eq] at *; omega) (fun a b => by simp only [Bool.or_eq_true, decide_eq_true_eq]; omega) g
  have h2 : (sortN g).Nodup := (List.mergeSort_perm g _).nodup_iff.2 hn
  refine (List.Pairwise.and h2 h1).imp (fun {a b} h => ?_)
  have := h.2
  simp only [decide_eq_true_eq] at this
  have := h.1
  omega
theorem sortN_eq {g s : List Nat} (hn : g.Nodup) (hs : s.Pairwise (· < ·)) (h : ∀ x, x ∈ g ↔ x ∈ s) : sortN g = s :=
  idx_unique (sortN_sorted hn) hs (fun x => by rw [sortN_mem]; exact h x)
theorem woL_congr {l : List Rel} {g s : List Nat} (h : ∀ x, x ∈ g ↔ x ∈ s) : woL l g = woL l s := cat_congr (fun i _ => by
  unfold woAt
  split
  · congr 2
    rw [Bool.eq_iff_iff, decide_eq_true_eq, decide_eq_true_eq]; exact h i
  · rfl)
theorem noneB_congr {l : List Rel} {g s : List Nat} (h : ∀ x, x ∈ g ↔ x ∈ s) : noneB l g = noneB l s := by unfold noneB; rw [woL_congr h]
/-- Sets that repair, of some size. -/
def Rep (l : List Rel) (n : Nat) (s : List Nat) : Prop := s.Pairwise (· < ·) ∧ (∀ x ∈ s, x < l.length) ∧ s.length = n ∧ noneB l s = true
theorem sub_perm {g s : List Nat} (hg : g.Nodup) (h : ∀ x ∈ g, x ∈ s) (hl : s.length ≤ g.length) : ∀ x, x ∈ g ↔ x ∈ s := fun x => ⟨h x, fun hx => by
  apply Classical.byContradiction
  intro hxg
  have := List.Nodup.length_le_of_subset (l₁ := x :: g) (l₂ := s) (List.nodup_cons.2 ⟨hxg, hg⟩) (fun y hy => by
    rcases List.mem_cons.1 hy with rfl | hy
    · exact hx
    · exact h y hy)
  simp at this; omega⟩
theorem setsF_complete {l : List Rel} (hl : l.length ≤ 100000) {n : Nat} {s : List Nat} (hs : Rep l n s) (hmin : ∀ k t, k < n → ¬ Rep l k t) : ∀ (m : Nat) (g : List Nat), g.Nodup → (∀ x ∈ g, x ∈ s) → n ≤ g.length + m → s ∈ setsF l m g := by
  intro m
  induction m with
  | zero =>
    intro g hg hgs hlen
    have hp := sub_perm hg hgs (by rw [hs.2.2.1]; omega)
    have hc : cycL (woL l g) = [] := by
      have := hs.2.2.2
      rw [← noneB_congr hp] at this
      simpa [noneB] using this
    simp only [setsF]
    rw [if_pos hc, sortN_eq hg hs.1 hp]; simp
  | succ m ih =>
    intro g hg hgs hlen
    simp only [setsF]
    by_cases hc : cycL (woL l g) = []
    · rw [if_pos hc]
      have hgl : n ≤ g.length := by
        rcases Nat.lt_or_ge g.length n with h | h
        · exfalso
          refine hmin g.length (sortN g) h ⟨sortN_sorted hg, fun x hx => hs.2.1 x (hgs x (sortN_mem.1 hx)), by simp [sortN], ?_⟩
          rw [noneB_congr (s := g) (fun x => sortN_mem)]
          simpa [noneB] using hc
        · exact h
      have hp := sub_perm hg hgs (by rw [hs.2.2.1]; omega)
      rw [sortN_eq hg hs.1 hp]; simp
    · rw [if_neg hc, List.mem_flatMap]
      obtain ⟨k, h1, h2, h3, _⟩ := hit hl hc hs.2.2.2
      refine ⟨k, h1, ih _ ?_ ?_ ?_⟩
      · rw [List.nodup_append]
        exact ⟨hg, by simp, fun a ha b hb e => by rw [List.mem_singleton.1 hb] at e; subst e; exact h3 ha⟩
      · intro x hx
        rcases List.mem_append.1 hx with hx | hx
        · exact hgs x hx
        · rw [List.mem_singleton.1 hx]; exact h2
      · simp; omega
theorem setsF_sound {l : List Rel} (hl : l.length ≤ 100000) : ∀ (m : Nat) (g : List Nat), g.Nodup → (∀ x ∈ g, x < l.length) → ∀ t ∈ setsF l m g, ∃ k, k ≤ g.length + m ∧ Rep l k t := by
  have leaf : ∀ (m : Nat) (g : List Nat), g.Nodup → (∀ x ∈ g, x < l.length) → cycL (woL l g) = [] → ∃ k, k ≤ g.length + m ∧ Rep l k (sortN g) := fun m g hg hgl hc =>
    ⟨g.length, by omega, sortN_sorted hg, fun x hx => hgl x (sortN_mem.1 hx), by simp [sortN], by
      rw [noneB_congr (s := g) (fun x => sortN_mem)]
      simpa [noneB] using hc⟩
  intro m
  induction m with
  | zero =>
    intro g hg hgl t ht
    simp only [setsF] at ht
    split at ht
    · rename_i hc; rw [List.mem_singleton.1 ht]; exact leaf 0 g hg hgl hc
    · cases ht
  | succ m ih =>
    intro g hg hgl t ht
    simp only [setsF] at ht
    split at ht
    · rename_i hc; rw [List.mem_singleton.1 ht]; exact leaf _ g hg hgl hc
    · obtain ⟨k, hk, ht⟩ := List.mem_flatMap.1 ht
      have hwl := woL_len l g
      have hkl := (cyc0_in (l := woL l g) (by omega)).1 k hk
      rw [← left_len] at hkl
      have hat : (leftI g l.length)[k]? = some (leftI g l.length)[k] := List.getElem?_eq_getElem hkl
      have hm := left_mem.1 (List.getElem_mem hkl)
      have hgd : (leftI g l.length).getD k 0 = (leftI g l.length)[k] := by rw [List.getD_eq_getElem?_getD, hat]; rfl
      obtain ⟨q, h1, h2⟩ := ih (g ++ [(leftI g l.length).getD k 0]) (by
        rw [List.nodup_append, hgd]
        exact ⟨hg, by simp, fun a ha b hb e => by rw [List.mem_singleton.1 hb] at e; subst e; exact hm.2 ha⟩) (fun x hx => by
        rcases List.mem_append.1 hx with hx | hx
        · exact hgl x hx
        · rw [List.mem_singleton.1 hx, hgd]; exact hm.1) t ht
      exact ⟨q, by simp at h1; omega, h2⟩
theorem sets_mem {l : List Rel} (hl : l.length ≤ 100000) {n : Nat} (hmin : ∀ k t, k < n → ¬ Rep l k t) {s : List Nat} : s ∈ setsF l n [] ↔ Rep l n s := by
  constructor
  · intro h
    obtain ⟨k, h1, h2⟩ := setsF_sound hl n [] List.nodup_nil (fun x hx => by cases hx) s h
    have hk : k = n := by
      rcases Nat.lt_or_ge k n with h3 | h3
      · exact absurd h2 (hmin k s h3)
      · simp at h1; omega
    rw [hk] at h2; exact h2
  · intro h
    exact setsF_complete hl h hmin n [] List.nodup_nil (fun x hx => by cases hx) (by simp)
theorem repL_sorted (l : List Rel) (n : Nat) : (repL l n).Pairwise fun x y => cmpL x y < 0 := tot_cmpL.setL_strict _
theorem mem_repL {l : List Rel} {n : Nat} {s : List Nat} : s ∈ repL l n ↔ s ∈ setsF l n [] := mem_setL
end Go.Proofs.YtcghlfepfcagbaaGreat
namespace Go.Proofs.YtcghlfepfcagbaaGreat
open Go Go.Jog
set_option maxRecDepth 100000

set_option maxHeartbeats 1000000 in
theorem less_fn (C : Mem) (v w : Value) (a b : List Nat) (hv : Sl C 1 v (a.map encN)) (hw : Sl C 1 w (b.map encN)) (ha : a.length ≤ 1000000) (_hb : b.length ≤ 1000000) :
    Gives cx.P 49 [v, w] C (.bool (decide (cmpL a b < 0))) := by
  obtain ⟨A, c, rfl, _⟩ := id hv
  obtain ⟨B, d, rfl, _⟩ := id hw
  simp only [List.length_map] at hv hw ⊢
  refine Fn.intro (by kernel_rfl) Tryz.func49 rfl 41 rfl rfl (fun w0 => ?_)
  refine G.region rfl (fun R hR => ?_)
  refine D.pure rfl rfl rfl rfl rfl rfl ?_
  refine D.done [(0, [], _), (1, [], _)] ⟨rfl, rfl, trivial⟩ (hR _ _ _ rfl ?_); clear hR R
  refine G.region rfl (fun R hR => ?_)
  refine D.pure rfl rfl rfl rfl rfl rfl ?_
  refine D.done [(0, [], _), (1, [], _), (5, [], _)] ⟨rfl, rfl, rfl, trivial⟩ (hR _ _ _ rfl ?_); clear hR R
  refine G.loop (fun fr C' L' μ => ∃ (k : Nat), (k ≤ a.length ∧ k ≤ b.length ∧ cmpL (a.drop k) (b.drop k) = cmpL a b) ∧ fr = [(0, [], .slice A a.length c), (1, [], .slice B b.length d), (5, [], .int .i64 k)] ∧ L' = [] ∧ μ = a.length - k) (fr' := [(0, [], _), (1, [], _), (5, [], _)]) ⟨rfl, rfl, rfl, trivial⟩ ⟨0, ⟨Nat.zero_le _, Nat.zero_le _, rfl⟩, rfl, rfl, rfl⟩ (fun fr C0' L0' m hle0 hI => ?_)
  obtain ⟨k, ⟨hka, hkb, hcm⟩, rfl, rfl, rfl⟩ := hI
  refine G.region rfl (fun R hR => ?_)
  iterate 9 refine D.pure rfl rfl rfl rfl rfl rfl ?_
  refine D.pickAnd rfl rfl rfl rfl rfl rfl rfl rfl ?_
  refine D.done [(0, [], _), (1, [], _), (5, [], _), (15, [], _)] ⟨rfl, rfl, rfl, rfl, trivial⟩ (hR _ _ _ rfl ?_); clear hR R
  refine G.cond rfl (fun h15 => ?_) (fun h15 => ?_)
  · skip
    have h15' : k < a.length ∧ k < b.length := by simpa using h15
    obtain ⟨hk2, hk3⟩ := h15'
    obtain ⟨x, hx⟩ : ∃ x, a[k]? = some x := ⟨a[k], List.getElem?_eq_getElem hk2⟩
    have hrx : (a.map encN)[k]? = some (encN x) := by rw [List.getElem?_map, hx]; rfl
    obtain ⟨y, hy⟩ : ∃ y, b[k]? = some y := ⟨b[k], List.getElem?_eq_getElem hk3⟩
    have hry : (b.map encN)[k]? = some (encN y) := by rw [List.getElem?_map, hy]; rfl
    have hdx : a.drop k = x :: a.drop (k + 1) := by rw [List.drop_eq_getElem_cons hk2, (List.getElem?_eq_some_iff.1 hx).2]
    have hdy : b.drop k = y :: b.drop (k + 1) := by rw [List.drop_eq_getElem_cons hk3, (List.getElem?_eq_some_iff.1 hy).2]
    refine G.draw [0, 1, 2, 3, 4, 5, 6, 7, 8] [] rfl (by kernel_rfl) (fun R hB hR => ?_)
    iterate 2 refine D.pure rfl rfl rfl rfl rfl rfl ?_
    refine D.index0 (hv.mono (by (repeat (first | exact Mem.le.refl _ | assumption | (apply Mem.le.trans; rotate_left; assumption))))) rfl rfl rfl rfl rfl rfl rfl rfl rfl rfl (by omega) hrx (fun _ => rfl) (fun p20 hp20 => ?_)
    refine D.loadP0 hp20 rfl rfl rfl rfl rfl rfl rfl rfl ?_
    iterate 2 refine D.pure rfl rfl rfl rfl rfl rfl ?_
    refine D.index0 (hw.mono (by (repeat (first | exact Mem.le.refl _ | assumption | (apply Mem.le.trans; rotate_left; assumption))))) rfl rfl rfl rfl rfl rfl rfl rfl rfl rfl (by omega) hry (fun _ => rfl) (fun p24 hp24 => ?_)
    refine D.loadP0 hp24 rfl rfl rfl rfl rfl rfl rfl rfl ?_
    refine D.pure rfl rfl rfl rfl rfl rfl ?_
    refine D.done [(0, [], _), (1, [], _), (5, [], _), (26, [], _)] ⟨rfl, rfl, rfl, rfl, trivial⟩ (hR _ _ _ rfl ?_); clear hR hB R
    refine G.cond rfl (fun h26 => ?_) (fun h26 => ?_)
    · skip
      have h26' : x ≠ y := by
        have : ¬ (x : Int) = y := by simpa using h26
        omega
      refine G.draw [0, 1, 2, 3, 4, 5, 6, 7, 8, 9] [] rfl (by kernel_rfl) (fun R hB hR => ?_)
      iterate 2 refine D.pure rfl rfl rfl rfl rfl rfl ?_
      refine D.index0 (hv.mono (by (repeat (first | exact Mem.le.refl _ | assumption | (apply Mem.le.trans; rotate_left; assumption))))) rfl rfl rfl rfl rfl rfl rfl rfl rfl rfl (by omega) hrx (fun _ => rfl) (fun p29 hp29 => ?_)
      refine D.loadP0 hp29 rfl rfl rfl rfl rfl rfl rfl rfl ?_
      iterate 2 refine D.pure rfl rfl rfl rfl rfl rfl ?_
      refine D.index0 (hw.mono (by (repeat (first | exact Mem.le.refl _ | assumption | (apply Mem.le.trans; rotate_left; assumption))))) rfl rfl rfl rfl rfl rfl rfl rfl rfl rfl (by omega) hry (fun _ => rfl) (fun p33 hp33 => ?_)
      refine D.loadP0 hp33 rfl rfl rfl rfl rfl rfl rfl rfl ?_
      iterate 2 refine D.pure rfl rfl rfl rfl rfl rfl ?_
      refine D.done [(4, [], _)] ⟨rfl, trivial⟩ (hR _ _ _ rfl ?_); clear hR hB R
      refine G.retN (G.dropAll (G.fin1 rfl rfl ?_))
      refine ⟨?_, rfl⟩
      rw [← hcm, hdx, hdy]
      congr 1
      simp only [cmpL]
      by_cases h1 : x < y
      · have : (x : Int) < y := by omega
        simp [h1]
      · have h2 : y < x := by omega
        have : ¬ (x : Int) < y := by omega
        simp [h1, h2]
    · skip
      have h26' : x = y := by
        have : (x : Int) = y := by simpa using h26
        omega
      refine G.region rfl (fun R hR => ?_)
      refine D.pure rfl rfl rfl rfl rfl rfl ?_
      refine D.i64 _ rfl rfl rfl rfl rfl (by omega) (by omega) rfl rfl ?_
      refine D.pure rfl rfl rfl rfl rfl rfl ?_
      refine D.done [(0, [], _), (1, [], _), (5, [], _)] ⟨rfl, rfl, rfl, trivial⟩ (hR _ _ _ rfl ?_); clear hR R
      refine G.again (m' := a.length - (k + 1)) (by omega) (by (repeat (first | exact Mem.le.refl _ | assumption | (apply Mem.le.trans; rotate_left; assumption)))) (fr' := [(0, [], _), (1, [], _), (5, [], _)]) ⟨rfl, rfl, rfl, trivial⟩ ⟨k + 1, ⟨by omega, by omega, by rw [← hcm, hdx, hdy, h26']; simp [cmpL]⟩, rfl, rfl, rfl⟩
  · skip
    have h15' : ¬ (k < a.length ∧ k < b.length) := fun hh => by simp [hh.1, hh.2] at h15
    refine G.region rfl (fun R hR => ?_)
    iterate 6 refine D.pure rfl rfl rfl rfl rfl rfl ?_
    refine D.done [(4, [], _)] ⟨rfl, trivial⟩ (hR _ _ _ rfl ?_); clear hR R
    refine G.retN (G.dropAll (G.fin1 rfl rfl ?_))
    refine ⟨?_, rfl⟩
    rw [← hcm]
    congr 1
    rcases Nat.lt_or_ge k a.length with h1 | h1
    · have h2 : k = b.length := by omega
      subst h2
      rw [List.drop_length, List.drop_eq_getElem_cons h1]
      have : ¬ (a.length : Int) < b.length := by omega
      simp [cmpL]; omega
    · have h2 : k = a.length := by omega
      subst h2
      rw [List.drop_length]
      rcases Nat.lt_or_ge a.length b.length with h3 | h3
      · rw [List.drop_eq_getElem_cons h3]
        simp [cmpL, h3]
      · rw [List.drop_eq_nil_of_le h3]
        simp [cmpL]; omega
theorem OutN.append {C : Mem} {a b : List Value} {la lb : List (List Nat)} (h : OutN C a la) (k : OutN C b lb) : OutN C (a ++ b) (la ++ lb) := by
  have h0 := h.1
  refine ⟨by simp [h0, k.1], fun j v o h1 h2 => ?_⟩
  rcases Nat.lt_or_ge j a.length with hlt | hge
  · rw [List.getElem?_append_left hlt] at h1
    rw [List.getElem?_append_left (by omega)] at h2
    exact h.2 j v o h1 h2
  · rw [List.getElem?_append_right hge] at h1
    rw [List.getElem?_append_right (by omega), ← h0] at h2
    exact k.2 _ v o h1 h2
theorem OutN.take {C : Mem} {a : List Value} {la : List (List Nat)} (h : OutN C a la) (n : Nat) : OutN C (a.take n) (la.take n) := by
  refine ⟨by simp [h.1], fun j v o h1 h2 => ?_⟩
  rw [List.getElem?_take] at h1 h2
  split at h1
  · rename_i hj; rw [if_pos hj] at h2; exact h.2 j v o h1 h2
  · cases h1
theorem OutN.drop {C : Mem} {a : List Value} {la : List (List Nat)} (h : OutN C a la) (n : Nat) : OutN C (a.drop n) (la.drop n) := by
  refine ⟨by simp [h.1], fun j v o h1 h2 => ?_⟩
  rw [List.getElem?_drop] at h1 h2
  exact h.2 _ v o h1 h2
theorem OutN.one {C : Mem} {v : Value} {o : List Nat} (h : Sl C 1 v (o.map encN)) : OutN C [v] [o] := by
  refine ⟨rfl, fun j v' o' h1 h2 => ?_⟩
  cases j with
  | zero => simp at h1 h2; subst h1; subst h2; exact h
  | succ j => simp at h1
theorem OutN.oneB {C : Mem} {a : List Value} {la : List (List Nat)} (h : OutN C a la) : (a.map fun x => [x]).all (fun r => r.all oneB) = true := by
  rw [List.all_eq_true]
  intro r hr
  obtain ⟨v, hv, rfl⟩ := List.mem_map.1 hr
  obtain ⟨j, hj⟩ := List.getElem?_of_mem hv
  have hjl := (List.getElem?_eq_some_iff.1 hj).1
  obtain ⟨A, c, h1, _⟩ := h.2 j v _ hj (List.getElem?_eq_getElem (by rw [← h.1]; exact hjl))
  rw [h1]; rfl
/-- What insert does: the place is behind the last that is not greater. -/
def InsAt (l : List (List Nat)) (x : List Nat) (at_ : Nat) : Prop := at_ ≤ l.length ∧ (∀ j y, at_ ≤ j → l[j]? = some y → cmpL x y < 0) ∧ (∀ y, 0 < at_ → l[at_ - 1]? = some y → ¬ cmpL x y < 0)
set_option maxHeartbeats 8000000 in
theorem insert_fn (C : Mem) (v w : Value) (l : List (List Nat)) (x : List Nat) (hv : LL C v l) (hw : Sl C 1 w (x.map encN)) (hl : l.length ≤ 1000000) (hx : x.length ≤ 1000000) (hl2 : ∀ y ∈ l, y.length ≤ 1000000) :
    Pur cx.P 21 [v, w] C fun r C' => ∃ at_, InsAt l x at_ ∧ LL C' r (l.take at_ ++ x :: l.drop at_) := by
  obtain ⟨ov, hvs, hvo⟩ := hv
  obtain ⟨A, c, hqe, hlc, hcm, _⟩ := id hvs
  have hovl := hvo.1
  rw [List.length_map, hovl] at hqe hlc
  subst hqe
  obtain ⟨Ax, cx1, rfl, _⟩ := id hw
  simp only [List.length_map] at hw ⊢
  refine Fn.intro (by kernel_rfl) Tryz.func21 rfl 33 rfl rfl (fun w0 => ?_)
  refine G.region rfl (fun R hR => ?_)
  refine D.pure rfl rfl rfl rfl rfl rfl ?_
  refine D.done [(0, [], _), (1, [], _)] ⟨rfl, rfl, trivial⟩ (hR _ _ _ rfl ?_); clear hR R
  refine G.region rfl (fun R hR => ?_)
  iterate 3 refine D.pure rfl rfl rfl rfl rfl rfl ?_
  refine D.done [(0, [], _), (1, [], _), (5, [], _)] ⟨rfl, rfl, rfl, trivial⟩ (hR _ _ _ rfl ?_); clear hR R
  refine G.loop (fun fr C' L' μ => ∃ (at_ : Nat), (at_ ≤ l.length ∧ ∀ j y, at_ ≤ j → l[j]? = some y → cmpL x y < 0) ∧ fr = [(0, [], .slice A l.length c), (1, [], .slice Ax x.length cx1), (5, [], .int .i64 at_)] ∧ L' = [] ∧ μ = 0 + at_) (fr' := [(0, [], _), (1, [], _), (5, [], _)]) ⟨rfl, rfl, rfl, trivial⟩ ⟨l.length, ⟨Nat.le_refl _, fun j y h1 h2 => by have := (List.getElem?_eq_some_iff.1 h2).1; omega⟩, rfl, rfl, rfl⟩ (fun fr C0' L0' m hle0 hI => ?_)
  obtain ⟨at_, ⟨hat, hgt⟩, rfl, rfl, rfl⟩ := hI
  obtain ⟨A2, c2, y, hrow⟩ : ∃ A2 c2 y, 0 < at_ → l[at_ - 1]? = some y ∧ (ov.map fun x => [x])[((at_ : Int) - 1).toNat]? = some [.slice A2 y.length c2] ∧ Sl C 1 (.slice A2 y.length c2) (y.map encN) := by
    rcases Nat.eq_zero_or_pos at_ with h | h
    · exact ⟨none, 0, [], fun h2 => by omega⟩
    · obtain ⟨y, hy⟩ : ∃ y, l[at_ - 1]? = some y := ⟨l[at_ - 1]'(by omega), List.getElem?_eq_getElem (by omega)⟩
      obtain ⟨A2, c2, _, h2, h3⟩ := hvo.at hy
      have e : ((at_ : Int) - 1).toNat = at_ - 1 := by omega
      exact ⟨A2, c2, y, fun _ => ⟨hy, by rw [e]; exact h2, h3⟩⟩
  refine G.region rfl (fun R hR => ?_)
  iterate 6 refine D.pure rfl rfl rfl rfl rfl rfl ?_
  refine D.i64 (((at_ : Int) - 1)) rfl rfl rfl rfl rfl (by omega) (by omega) rfl rfl ?_
  refine D.index rfl rfl rfl rfl rfl rfl rfl rfl rfl rfl (fun hg => ⟨hvs.mono (by (repeat (first | exact Mem.le.refl _ | assumption | (apply Mem.le.trans; rotate_left; assumption)))), (by have h : decide ((0 : Int) < (at_ : Int)) = true := hg.1; simp at h; omega), (hrow (by have h : decide ((0 : Int) < (at_ : Int)) = true := hg.1; simp at h; omega)).2.1⟩) (fun _ => rfl) rfl (fun p15 hp15 => ?_)
  refine D.loadP rfl rfl rfl rfl rfl rfl hp15 rfl rfl rfl ?_
  refine D.gives (fun hg => (less_fn _ _ _ x y (hw.mono (by (repeat (first | exact Mem.le.refl _ | assumption | (apply Mem.le.trans; rotate_left; assumption))))) ((hrow (by have h : decide ((0 : Int) < (at_ : Int)) = true := hg.1; simp at h; omega)).2.2.mono (by (repeat (first | exact Mem.le.refl _ | assumption | (apply Mem.le.trans; rotate_left; assumption))))) hx (hl2 y (List.mem_of_getElem? (hrow (by have h : decide ((0 : Int) < (at_ : Int)) = true := hg.1; simp at h; omega)).1)))) rfl rfl rfl rfl rfl rfl rfl rfl rfl ?_
  refine D.pickAnd rfl rfl rfl rfl rfl rfl rfl rfl ?_
  refine D.done [(0, [], _), (1, [], _), (5, [], _), (18, [], _)] ⟨rfl, rfl, rfl, rfl, trivial⟩ (hR _ _ _ rfl ?_); clear hR R
  refine G.cond rfl (fun h18 => ?_) (fun h18 => ?_)
  · skip
    have h18' : 0 < at_ ∧ cmpL x y < 0 := by simpa using h18
    obtain ⟨hp, hlt⟩ := h18'
    have hy := (hrow hp).1
    refine G.region rfl (fun R hR => ?_)
    refine D.pure rfl rfl rfl rfl rfl rfl ?_
    refine D.i64 (((at_ - 1 : Nat) : Int)) rfl rfl rfl rfl (by omega) (by omega) (by omega) rfl rfl ?_
    refine D.pure rfl rfl rfl rfl rfl rfl ?_
    refine D.done [(0, [], _), (1, [], _), (5, [], _)] ⟨rfl, rfl, rfl, trivial⟩ (hR _ _ _ rfl ?_); clear hR R
    refine G.again (m' := 0 + (at_ - 1)) (by omega) (by (repeat (first | exact Mem.le.refl _ | assumption | (apply Mem.le.trans; rotate_left; assumption)))) (fr' := [(0, [], _), (1, [], _), (5, [], _)]) ⟨rfl, rfl, rfl, trivial⟩ ⟨at_ - 1, ⟨by omega, fun j z h1 h2 => by
      rcases Nat.lt_or_ge j at_ with h3 | h3
      · have : j = at_ - 1 := by omega
        subst this
        rw [hy] at h2; cases h2; exact hlt
      · exact hgt j z h3 h2⟩, rfl, rfl, rfl⟩
  · skip
    have h18' : ∀ y', 0 < at_ → l[at_ - 1]? = some y' → ¬ cmpL x y' < 0 := fun y' h1 h2 hlt => by
      have hy := (hrow h1).1
      rw [hy] at h2; cases h2
      simp [h1, hlt] at h18
    have hins : InsAt l x at_ := ⟨hat, hgt, h18'⟩
    have hsub1 := hvs.sub (l := 0) (h := at_) (m := c) (Nat.zero_le _) (by rw [List.length_map]; omega) (by omega) (Nat.le_refl _)
    have hsub2 := hvs.sub (l := at_) (h := l.length) (m := c) hat (by rw [List.length_map]; omega) (by omega) (Nat.le_refl _)
    rw [List.drop_zero] at hsub1
    have hov1 : ((ov.map fun x => [x]).take at_).length = at_ := by rw [List.length_take, List.length_map]; omega
    have hov2 : (((ov.map fun x => [x]).take l.length).drop at_).length = l.length - at_ := by rw [List.length_drop, List.length_take, List.length_map]; omega
    refine G.cut (fun fr C' L' μ => ∃ (w : Value), (True) ∧ fr = [(4, [], w)] ∧ L' = [.arr w 31 1 (l.length + 1) (ov.take at_ ++ [.slice Ax x.length cx1] ++ ov.drop at_)]) ?_ (fun fr Cr4 Lr4 μ hler4 hI => ?_)
    · skip
      refine G.drawT (.cut [1, 2, 3, 5, 8, 9, 10] (.alt 0 (.cut [] (.alt 4 (.fin [6, 7, 11, 12]) (.alt 6 (.fin [4, 7, 11, 12]) .stop))) (.alt 6 (.fin [0, 4, 7, 11, 12]) .stop))) [] rfl rfl (by kernel_rfl) (fun R hB hR hH => ?_)
      iterate 2 refine D.pure rfl rfl rfl rfl rfl rfl ?_
      refine D.sliceV 0 at_ c rfl rfl rfl rfl rfl rfl rfl rfl rfl rfl rfl rfl (fun _ => ⟨.inl ⟨rfl, rfl⟩, .inr ⟨_, rfl⟩, .inl ⟨rfl, rfl⟩, by omega, by omega, Nat.le_refl _⟩) rfl rfl ?_
      iterate 3 refine D.pure rfl rfl rfl rfl rfl rfl ?_
      refine D.sliceV at_ l.length c rfl rfl rfl rfl rfl rfl rfl rfl rfl rfl rfl rfl (fun _ => ⟨.inr ⟨_, rfl⟩, .inl ⟨rfl, rfl⟩, .inl ⟨rfl, rfl⟩, by omega, by omega, Nat.le_refl _⟩) rfl rfl ?_
      refine D.fork hH rfl ⟨?_, ?_, trivial⟩
      · skip
        refine D.buildArr [] rfl rfl rfl rfl rfl rfl rfl rfl rfl rfl rfl rfl (fun _ => rfl) (fun b21 => ?_)
        refine D.fork hH rfl ⟨?_, ?_, trivial⟩
        · skip
          refine D.append (j := 0) rfl rfl rfl rfl rfl rfl rfl rfl rfl rfl rfl (hsub1.mono (by (repeat (first | exact Mem.le.refl _ | assumption | (apply Mem.le.trans; rotate_left; assumption))))) (by rw [← List.map_take]; exact (hvo.take at_).oneB) (by simp only [List.length_nil, hov1, maxLen]; omega) (by simp only [List.length_nil, hov1]; omega) (fun _ => rfl) (fun v25 => ?_)
          refine D.buildSlice [[.slice Ax x.length cx1]] rfl rfl rfl rfl rfl rfl rfl rfl rfl rfl rfl rfl (fun _ => rfl) (fun p27 C27 hle27 hs27 => ?_)
          refine D.append (j := 0) rfl rfl rfl rfl rfl rfl rfl rfl rfl rfl rfl (hs27.mono (by (repeat (first | exact Mem.le.refl _ | assumption | (apply Mem.le.trans; rotate_left; assumption))))) rfl (by simp only [List.length_nil, hov1, List.length_singleton, maxLen]; omega) (by simp only [List.length_nil, hov1, List.length_singleton]; omega) (fun _ => rfl) (fun v28 => ?_)
          refine D.append (j := 0) rfl rfl rfl rfl rfl rfl rfl rfl rfl rfl rfl (hsub2.mono (by (repeat (first | exact Mem.le.refl _ | assumption | (apply Mem.le.trans; rotate_left; assumption))))) (by rw [List.take_of_length_le (by rw [List.length_map]; omega), ← List.map_drop]; exact (hvo.drop at_).oneB) (by simp only [List.length_nil, hov1, hov2, List.length_singleton, maxLen]; omega) (by simp only [List.length_nil, hov1, hov2, List.length_singleton]; omega) (fun _ => rfl) (fun v32 => ?_)
          refine D.pure rfl rfl rfl rfl rfl rfl ?_
          refine D.done [(4, [], _)] ⟨rfl, trivial⟩ (hR _ _ _ rfl ?_); clear hR hB hH R
          refine G.eqL (L' := [.arr v32 31 1 (l.length + 1) (ov.take at_ ++ [Value.slice Ax x.length cx1] ++ ov.drop at_)]) (by
            have e1 : (([] : List (List Value)).length + ((ov.map fun x => [x]).take at_).length + ([[Value.slice Ax x.length cx1]] : List (List Value)).length + (((ov.map fun x => [x]).take l.length).drop at_).length) = l.length + 1 := by
              rw [hov1, hov2]; simp; omega
            have e2 : ((ov.map fun x => [x]).take at_).flatten = ov.take at_ := by rw [← List.map_take]; exact row1
            have e3 : (((ov.map fun x => [x]).take l.length).drop at_).flatten = ov.drop at_ := by rw [List.take_of_length_le (by rw [List.length_map]; omega), ← List.map_drop]; exact row1
            rw [e1, e2, e3]; rfl) ?_
          exact G.meet 0 (by (repeat (first | exact Mem.le.refl _ | assumption | (apply Mem.le.trans; rotate_left; assumption)))) (fr' := [(4, [], _)]) ⟨rfl, trivial⟩ ⟨_, trivial, rfl, rfl⟩
        · skip
          refine D.buildSlice [[.slice Ax x.length cx1]] rfl rfl rfl rfl rfl rfl rfl rfl rfl rfl rfl rfl (fun _ => rfl) (fun p27 C27 hle27 hs27 => ?_)
          refine D.append (j := 0) rfl rfl rfl rfl rfl rfl rfl rfl rfl rfl rfl (hsub1.mono (by (repeat (first | exact Mem.le.refl _ | assumption | (apply Mem.le.trans; rotate_left; assumption))))) (by rw [← List.map_take]; exact (hvo.take at_).oneB) (by simp only [List.length_nil, hov1, maxLen]; omega) (by simp only [List.length_nil, hov1]; omega) (fun _ => rfl) (fun v25 => ?_)
          refine D.append (j := 0) rfl rfl rfl rfl rfl rfl rfl rfl rfl rfl rfl (hs27.mono (by (repeat (first | exact Mem.le.refl _ | assumption | (apply Mem.le.trans; rotate_left; assumption))))) rfl (by simp only [List.length_nil, hov1, List.length_singleton, maxLen]; omega) (by simp only [List.length_nil, hov1, List.length_singleton]; omega) (fun _ => rfl) (fun v28 => ?_)
          refine D.append (j := 0) rfl rfl rfl rfl rfl rfl rfl rfl rfl rfl rfl (hsub2.mono (by (repeat (first | exact Mem.le.refl _ | assumption | (apply Mem.le.trans; rotate_left; assumption))))) (by rw [List.take_of_length_le (by rw [List.length_map]; omega), ← List.map_drop]; exact (hvo.drop at_).oneB) (by simp only [List.length_nil, hov1, hov2, List.length_singleton, maxLen]; omega) (by simp only [List.length_nil, hov1, hov2, List.length_singleton]; omega) (fun _ => rfl) (fun v32 => ?_)
          refine D.pure rfl rfl rfl rfl rfl rfl ?_
          refine D.done [(4, [], _)] ⟨rfl, trivial⟩ (hR _ _ _ rfl ?_); clear hR hB hH R
          refine G.eqL (L' := [.arr v32 31 1 (l.length + 1) (ov.take at_ ++ [Value.slice Ax x.length cx1] ++ ov.drop at_)]) (by
            have e1 : (([] : List (List Value)).length + ((ov.map fun x => [x]).take at_).length + ([[Value.slice Ax x.length cx1]] : List (List Value)).length + (((ov.map fun x => [x]).take l.length).drop at_).length) = l.length + 1 := by
              rw [hov1, hov2]; simp; omega
            have e2 : ((ov.map fun x => [x]).take at_).flatten = ov.take at_ := by rw [← List.map_take]; exact row1
            have e3 : (((ov.map fun x => [x]).take l.length).drop at_).flatten = ov.drop at_ := by rw [List.take_of_length_le (by rw [List.length_map]; omega), ← List.map_drop]; exact row1
            rw [e1, e2, e3]; rfl) ?_
          exact G.meet 0 (by (repeat (first | exact Mem.le.refl _ | assumption | (apply Mem.le.trans; rotate_left; assumption)))) (fr' := [(4, [], _)]) ⟨rfl, trivial⟩ ⟨_, trivial, rfl, rfl⟩
      · skip
        refine D.buildSlice [[.slice Ax x.length cx1]] rfl rfl rfl rfl rfl rfl rfl rfl rfl rfl rfl rfl (fun _ => rfl) (fun p27 C27 hle27 hs27 => ?_)
        refine D.buildArr [] rfl rfl rfl rfl rfl rfl rfl rfl rfl rfl rfl rfl (fun _ => rfl) (fun b21 => ?_)
        refine D.append (j := 0) rfl rfl rfl rfl rfl rfl rfl rfl rfl rfl rfl (hsub1.mono (by (repeat (first | exact Mem.le.refl _ | assumption | (apply Mem.le.trans; rotate_left; assumption))))) (by rw [← List.map_take]; exact (hvo.take at_).oneB) (by simp only [List.length_nil, hov1, maxLen]; omega) (by simp only [List.length_nil, hov1]; omega) (fun _ => rfl) (fun v25 => ?_)
        refine D.append (j := 0) rfl rfl rfl rfl rfl rfl rfl rfl rfl rfl rfl (hs27.mono (by (repeat (first | exact Mem.le.refl _ | assumption | (apply Mem.le.trans; rotate_left; assumption))))) rfl (by simp only [List.length_nil, hov1, List.length_singleton, maxLen]; omega) (by simp only [List.length_nil, hov1, List.length_singleton]; omega) (fun _ => rfl) (fun v28 => ?_)
        refine D.append (j := 0) rfl rfl rfl rfl rfl rfl rfl rfl rfl rfl rfl (hsub2.mono (by (repeat (first | exact Mem.le.refl _ | assumption | (apply Mem.le.trans; rotate_left; assumption))))) (by rw [List.take_of_length_le (by rw [List.length_map]; omega), ← List.map_drop]; exact (hvo.drop at_).oneB) (by simp only [List.length_nil, hov1, hov2, List.length_singleton, maxLen]; omega) (by simp only [List.length_nil, hov1, hov2, List.length_singleton]; omega) (fun _ => rfl) (fun v32 => ?_)
        refine D.pure rfl rfl rfl rfl rfl rfl ?_
        refine D.done [(4, [], _)] ⟨rfl, trivial⟩ (hR _ _ _ rfl ?_); clear hR hB hH R
        refine G.eqL (L' := [.arr v32 31 1 (l.length + 1) (ov.take at_ ++ [Value.slice Ax x.length cx1] ++ ov.drop at_)]) (by
          have e1 : (([] : List (List Value)).length + ((ov.map fun x => [x]).take at_).length + ([[Value.slice Ax x.length cx1]] : List (List Value)).length + (((ov.map fun x => [x]).take l.length).drop at_).length) = l.length + 1 := by
            rw [hov1, hov2]; simp; omega
          have e2 : ((ov.map fun x => [x]).take at_).flatten = ov.take at_ := by rw [← List.map_take]; exact row1
          have e3 : (((ov.map fun x => [x]).take l.length).drop at_).flatten = ov.drop at_ := by rw [List.take_of_length_le (by rw [List.length_map]; omega), ← List.map_drop]; exact row1
          rw [e1, e2, e3]; rfl) ?_
        exact G.meet 0 (by (repeat (first | exact Mem.le.refl _ | assumption | (apply Mem.le.trans; rotate_left; assumption)))) (fr' := [(4, [], _)]) ⟨rfl, trivial⟩ ⟨_, trivial, rfl, rfl⟩
    obtain ⟨w, htr, rfl, rfl⟩ := hI
    refine G.freezeArr 0 ((ov.take at_ ++ [Value.slice Ax x.length cx1] ++ ov.drop at_).map fun x => [x]) rfl row1.symm (by intro r hr; obtain ⟨y, _, rfl⟩ := List.mem_map.1 hr; rfl) (by simp; omega) (fun Cm hlem hsm => ?_)
    refine G.retN (G.dropAll (G.fin1 rfl rfl ?_))
    refine ⟨rfl, at_, hins, _, hsm, ?_⟩
    have := (((hvo.take at_).mono (show C.le Cm by (repeat (first | exact Mem.le.refl _ | assumption | (apply Mem.le.trans; rotate_left; assumption))))).append ((OutN.one hw).mono (show C.le Cm by (repeat (first | exact Mem.le.refl _ | assumption | (apply Mem.le.trans; rotate_left; assumption)))))).append ((hvo.drop at_).mono (show C.le Cm by (repeat (first | exact Mem.le.refl _ | assumption | (apply Mem.le.trans; rotate_left; assumption)))))
    simpa using this
end Go.Proofs.YtcghlfepfcagbaaGreat
namespace Go.Proofs.YtcghlfepfcagbaaGreat
open Go Go.Jog
set_option maxRecDepth 100000

def bitsI (b n : Nat) : List Nat := idxs (fun i => b.testBit i) n
theorem bits_mask {s : List Nat} {n : Nat} (hs : s.Pairwise (· < ·)) (h : ∀ x ∈ s, x < n) : bitsI (maskN s) n = s ∧ maskN s < 2 ^ n := by
  refine ⟨idx_unique (idxs_sorted _ _) hs (fun x => ?_), Nat.lt_pow_two_of_testBit _ (fun i hi => ?_)⟩
  · unfold bitsI
    rw [idxs_mem, maskN_bit]
    exact ⟨fun h => h.2, fun h2 => ⟨h x h2, h2⟩⟩
  · rw [Bool.eq_false_iff]
    intro hb
    have := h i (maskN_bit.1 hb)
    omega
theorem rep_bits {l : List Rel} {n : Nat} {s : List Nat} : Rep l n s ↔ ∃ b, b < 2 ^ l.length ∧ s = bitsI b l.length ∧ s.length = n ∧ noneB l s = true := by
  constructor
  · rintro ⟨h1, h2, h3, h4⟩
    obtain ⟨k1, k2⟩ := bits_mask h1 h2
    exact ⟨maskN s, k2, k1.symm, h3, h4⟩
  · rintro ⟨b, _, rfl, h3, h4⟩
    exact ⟨idxs_sorted _ _, fun x hx => (idxs_mem.1 hx).1, h3, h4⟩
theorem wobL_bits (l : List Rel) (b : Nat) : wobL l b = woL l (bitsI b l.length) := wobL_eq (fun i hi => by
  unfold bitsI
  rw [idxs_mem]
  exact ⟨fun h => ⟨hi, h⟩, fun h => h.2⟩)
theorem bits_inj {b c n : Nat} (hb : b < 2 ^ n) (hc : c < 2 ^ n) (h : bitsI b n = bitsI c n) : b = c := by
  refine Nat.eq_of_testBit_eq (fun i => ?_)
  rcases Nat.lt_or_ge i n with hi | hi
  · have h1 : b.testBit i = true ↔ i ∈ bitsI b n := by unfold bitsI; rw [idxs_mem]; exact ⟨fun h => ⟨hi, h⟩, fun h => h.2⟩
    have h2 : c.testBit i = true ↔ i ∈ bitsI c n := by unfold bitsI; rw [idxs_mem]; exact ⟨fun h => ⟨hi, h⟩, fun h => h.2⟩
    rw [Bool.eq_iff_iff, h1, h2, h]
  · rw [Nat.testBit_lt_two_pow (Nat.lt_of_lt_of_le hb (Nat.pow_le_pow_right (by decide) hi)), Nat.testBit_lt_two_pow (Nat.lt_of_lt_of_le hc (Nat.pow_le_pow_right (by decide) hi))]
theorem rep_few {l : List Rel} (hl : l.length ≤ 8) {n : Nat} (hmin : ∀ k t, k < n → ¬ Rep l k t) : (repL l n).length ≤ 70 ∧ ∀ s ∈ repL l n, Rep l n s := by
  have hl5 : l.length ≤ 100000 := by omega
  have hmem : ∀ s ∈ repL l n, Rep l n s := fun s hs => (sets_mem hl5 hmin).1 (mem_repL.1 hs)
  refine ⟨?_, hmem⟩
  have hlt : ∀ s ∈ repL l n, (∀ k ∈ s, k < 8) ∧ s.Nodup ∧ s.length = n := fun s hs => by
    obtain ⟨h1, h2, h3, _⟩ := hmem s hs
    exact ⟨fun k hk => by have := h2 k hk; omega, h1.imp (fun h e => by omega), h3⟩
  have hnd : ((repL l n).map maskN).Nodup := by
    unfold List.Nodup
    rw [List.pairwise_map]
    refine List.Pairwise.imp_of_mem (fun {a b} ha hb hab e => ?_) (repL_sorted l n)
    obtain ⟨a1, a2, _, _⟩ := hmem a ha
    obtain ⟨b1, b2, _, _⟩ := hmem b hb
    have : a = b := by rw [← (bits_mask a1 a2).1, ← (bits_mask b1 b2).1, e]
    rw [this, (cmpL_eq b b).2 rfl] at hab
    omega
  rcases Nat.lt_or_ge 8 n with hm | hm
  · have : repL l n = [] := by
      refine List.eq_nil_iff_forall_not_mem.2 (fun s hs => ?_)
      obtain ⟨h1, h2, h3⟩ := hlt s hs
      have := List.Nodup.length_le_of_subset h2 (l₂ := List.range 8) (fun k hk => List.mem_range.2 (h1 k hk))
      simp at this; omega
    rw [this]; simp
  · have := List.Nodup.length_le_of_subset hnd (l₂ := (List.range 256).filter fun x => popN x == n) (fun x hx => by
      obtain ⟨s, hs, rfl⟩ := List.mem_map.1 hx
      obtain ⟨h1, h2, h3⟩ := hlt s hs
      rw [List.mem_filter, List.mem_range]
      exact ⟨maskN_lt h1, by rw [maskN_pop h1 h2, h3]; simp⟩)
    rw [List.length_map] at this
    exact Nat.le_trans this (pop_few n hm)
/-- What Repairs returns, for few relations. -/
def RepOf (l : List Rel) (RR : List (List Nat)) (e : Int) : Prop := (∃ n, n ≤ 4 ∧ (∀ k t, k < n → ¬ Rep l k t) ∧ (∃ s, Rep l n s) ∧ RR = repL l n ∧ e = 0) ∨ ((∀ k t, k < 5 → ¬ Rep l k t) ∧ RR = [] ∧ e = 4)
theorem invL_len (l : List Rel) : (invL l).length ≤ l.length := idxs_len _ _
theorem sets_iff {l : List Rel} (hl : l.length ≤ 100000) {n : Nat} (hmin : ∀ k, k < n → setsF l k [] = []) : ∀ k t, k < n → ¬ Rep l k t := by
  induction n with
  | zero => intro k t h; omega
  | succ n ih =>
    have ih2 := ih (fun k hk => hmin k (by omega))
    intro k t hk hr
    rcases Nat.lt_or_ge k n with h | h
    · exact ih2 k t h hr
    · have : k = n := by omega
      subst this
      have := (sets_mem hl ih2).2 hr
      rw [hmin k hk] at this; cases this
theorem reps_few {C : Mem} {l : List Rel} {r : Value} (hM : Made l) (h : RepsRes C l r) : ∃ A c RR e, r = .tuple #[.slice A RR.length c, .int .i64 e] ∧ LL C (.slice A RR.length c) RR ∧ RepOf l RR e := by
  have hl5 : l.length ≤ 100000 := by have := hM.1; omega
  have hi := invL_len l
  have hl8 := hM.1
  rcases reps_ok hM.err (by omega) h with ⟨n, h1, h2, h3, h4⟩ | ⟨h2, rfl⟩
  · have hmin := sets_iff hl5 h2
    obtain ⟨hf, hr⟩ := rep_few hl8 hmin
    rcases h4 with ⟨h4, _⟩ | ⟨_, v, rfl, hv⟩
    · omega
    · obtain ⟨ov, k1, k2⟩ := id hv
      obtain ⟨A, c, hqe, _⟩ := id k1
      rw [List.length_map, k2.1] at hqe
      subst hqe
      refine ⟨A, c, repL l n, 0, rfl, hv, .inl ⟨n, h1, hmin, ?_, rfl, rfl⟩⟩
      obtain ⟨s, hs⟩ := List.exists_mem_of_ne_nil _ h3
      exact ⟨s, (sets_mem hl5 hmin).1 hs⟩
  · exact ⟨none, 0, [], 4, rfl, LL.nil _, .inr ⟨sets_iff hl5 h2, rfl, rfl⟩⟩
theorem insAt_sorted {W : List (List Nat)} {x : List Nat} {at_ : Nat} (hW : W.Pairwise fun a b => cmpL a b < 0) (hx : x ∉ W) (h : InsAt W x at_) : (W.take at_ ++ x :: W.drop at_).Pairwise fun a b => cmpL a b < 0 := by
  obtain ⟨h1, h2, h3⟩ := h
  have hlt : ∀ y ∈ W.drop at_, cmpL x y < 0 := fun y hy => by
    obtain ⟨j, hj⟩ := List.getElem?_of_mem hy
    rw [List.getElem?_drop] at hj
    exact h2 _ y (by omega) hj
  have hgt : ∀ y ∈ W.take at_, cmpL y x < 0 := fun y hy => by
    have hpos : 0 < at_ := by
      rcases Nat.eq_zero_or_pos at_ with e | e
      · rw [e] at hy; simp at hy
      · exact e
    obtain ⟨z, hz⟩ : ∃ z, W[at_ - 1]? = some z := ⟨W[at_ - 1]'(by omega), List.getElem?_eq_getElem (by omega)⟩
    have hzx : cmpL z x < 0 := by
      have h4 := h3 z hpos hz
      rcases tot_cmpL.tri x z with h5 | h5 | h5
      · exact absurd h5 h4
      · exact absurd (by rw [h5]; exact List.mem_of_getElem? hz) hx
      · exact h5
    obtain ⟨j, hj⟩ := List.getElem?_of_mem hy
    rw [List.getElem?_take] at hj
    split at hj
    · rename_i hja
      rcases Nat.lt_or_ge j (at_ - 1) with h5 | h5
      · obtain ⟨e1, e2⟩ := List.getElem?_eq_some_iff.1 hj
        obtain ⟨e3, e4⟩ := List.getElem?_eq_some_iff.1 hz
        have := List.pairwise_iff_getElem.1 hW j (at_ - 1) e1 e3 h5
        rw [e2, e4] at this
        exact tot_cmpL.trans _ _ _ this hzx
      · have : j = at_ - 1 := by omega
        subst this
        rw [hz] at hj; cases hj; exact hzx
    · cases hj
  rw [List.pairwise_append, List.pairwise_cons]
  refine ⟨hW.sublist (List.take_sublist _ _), ⟨hlt, hW.sublist (List.drop_sublist _ _)⟩, fun a ha b hb => ?_⟩
  rcases List.mem_cons.1 hb with rfl | hb
  · exact hgt a ha
  · exact tot_cmpL.trans _ _ _ (hgt a ha) (hlt b hb)
theorem insAt_mem {W : List (List Nat)} {x s : List Nat} {at_ : Nat} : s ∈ W.take at_ ++ x :: W.drop at_ ↔ s ∈ W ∨ s = x := by
  rw [List.mem_append, List.mem_cons]
  constructor
  · rintro (h | h | h)
    · exact .inl (List.mem_of_mem_take h)
    · exact .inr h
    · exact .inl (List.mem_of_mem_drop h)
  · rintro (h | h)
    · rw [← List.take_append_drop at_ W, List.mem_append] at h
      rcases h with h | h
      · exact .inl h
      · exact .inr (.inr h)
    · exact .inr (.inl h)
set_option maxHeartbeats 16000000 in
theorem crepairs_fn (C : Mem) (v : Value) (ss : List Seen) (hv : Sl C 3 v (ss.map Seen.enc)) : Pur cx.P 4 [v] C fun u _ => u = .bool true := by
  obtain ⟨A0, c0, rfl, _⟩ := id hv
  simp only [List.length_map] at hv ⊢
  refine Fn.intro (by kernel_rfl) Tryz.func4 rfl 84 rfl rfl (fun w0 => ?_)
  refine G.region rfl (fun R hR => ?_)
  refine D.pure rfl rfl rfl rfl rfl rfl ?_
  refine D.done [(0, [], _)] ⟨rfl, trivial⟩ (hR _ _ _ rfl ?_); clear hR R
  refine G.region rfl (fun R hR => ?_)
  refine D.callP (known23_fn _) rfl rfl rfl rfl rfl rfl rfl (fun _ => rfl) (fun v11 C11 hle11 hq11 => ?_)
  obtain rfl := hq11
  iterate 5 refine D.pure rfl rfl rfl rfl rfl rfl ?_
  refine D.pickOr rfl rfl rfl rfl rfl rfl rfl rfl ?_
  refine D.done [(0, [], _), (17, [], _)] ⟨rfl, rfl, trivial⟩ (hR _ _ _ rfl ?_); clear hR R
  refine G.cond rfl (fun h17 => ?_) (fun h17 => ?_)
  · skip
    refine G.region rfl (fun R hR => ?_)
    refine D.callP (known23_fn _) rfl rfl rfl rfl rfl rfl rfl (fun _ => rfl) (fun v18 C18 hle18 hq18 => ?_)
    obtain rfl := hq18
    refine D.pure rfl rfl rfl rfl rfl rfl ?_
    refine D.done [(2, [], _)] ⟨rfl, trivial⟩ (hR _ _ _ rfl ?_); clear hR R
    refine G.retN (G.dropAll (G.fin1 rfl rfl ?_))
    exact ⟨rfl, rfl⟩
  · skip
    have hss7 : ss.length ≤ 7 := by
      have : ¬ (7 : Int) < ss.length := fun h => by simp [h] at h17
      omega
    refine G.region rfl (fun R hR => ?_)
    refine D.pure rfl rfl rfl rfl rfl rfl ?_
    refine D.callP (make_fn _ _ ss (hv.mono (by (repeat (first | exact Mem.le.refl _ | assumption | (apply Mem.le.trans; rotate_left; assumption)))))) rfl rfl rfl rfl rfl rfl rfl (fun _ => rfl) (fun v20 C20 hle20 hq20 => ?_)
    obtain ⟨l, hl⟩ : ∃ l, makeL ss = l := ⟨_, rfl⟩
    have hM : Made l := by rw [← hl]; exact made_makeL ss
    have hl7 : l.length ≤ 7 := by rw [← hl]; simp [makeL]; omega
    rw [hl] at hq20
    obtain ⟨Al, cl, rfl, hlc, _⟩ := id hq20
    simp only [List.length_map] at hq20 hlc
    have hl5 : l.length ≤ 100000 := by omega
    simp only [List.length_map]
    refine D.pure rfl rfl rfl rfl rfl rfl ?_
    refine D.done [(3, [], _)] ⟨rfl, trivial⟩ (hR _ _ _ rfl ?_); clear hR R
    refine G.region rfl (fun R hR => ?_)
    refine D.pure rfl rfl rfl rfl rfl rfl ?_
    refine D.callP (repairs_fn _ _ l (hq20.mono (by (repeat (first | exact Mem.le.refl _ | assumption | (apply Mem.le.trans; rotate_left; assumption))))) hl5 hM.short) rfl rfl rfl rfl rfl rfl rfl (fun _ => rfl) (fun v23 C23 hle23 hq23 => ?_)
    obtain ⟨A4, c4, RR, er, rfl, hRR, hRe⟩ := reps_few hM hq23
    iterate 5 refine D.pure rfl rfl rfl rfl rfl rfl ?_
    refine D.done [(3, [], _), (4, [], _), (5, [], _)] ⟨rfl, rfl, rfl, trivial⟩ (hR _ _ _ rfl ?_); clear hR R
    refine G.region rfl (fun R hR => ?_)
    refine D.pure rfl rfl rfl rfl rfl rfl ?_
    refine D.done [(3, [], _), (4, [], _), (5, [], _), (6, [], _)] ⟨rfl, rfl, rfl, rfl, trivial⟩ (hR _ _ _ rfl ?_); clear hR R
    refine G.loop (fun fr C' L' μ => ∃ (n : Nat), (n ≤ 5 ∧ ∀ k t, k < n → ¬ Rep l k t) ∧ fr = [(3, [], .slice Al l.length cl), (4, [], .slice A4 RR.length c4), (5, [], .int .i64 er), (6, [], .int .i64 n)] ∧ L' = [] ∧ μ = 5 - n) (fr' := [(3, [], _), (4, [], _), (5, [], _), (6, [], _)]) ⟨rfl, rfl, rfl, rfl, trivial⟩ ⟨0, ⟨by omega, fun k t h => by omega⟩, rfl, rfl, rfl⟩ (fun fr C0' L0' m hle0 hI => ?_)
    obtain ⟨n, ⟨hn5, hno⟩, rfl, rfl, rfl⟩ := hI
    have hp7 : 2 ^ l.length ≤ 128 := Nat.le_trans (Nat.pow_le_pow_right (by decide) hl7) (by decide)
    refine G.region rfl (fun R hR => ?_)
    iterate 2 refine D.pure rfl rfl rfl rfl rfl rfl ?_
    refine D.done [(3, [], _), (4, [], _), (5, [], _), (6, [], _), (27, [], _)] ⟨rfl, rfl, rfl, rfl, rfl, trivial⟩ (hR _ _ _ rfl ?_); clear hR R
    refine G.cond rfl (fun h27 => ?_) (fun h27 => ?_)
    · skip
      have hn4 : n ≤ 4 := by
        have : (n : Int) ≤ 4 := by simpa using h27
        omega
      refine G.region rfl (fun R hR => ?_)
      refine D.pure rfl rfl rfl rfl rfl rfl ?_
      refine D.done [(3, [], _), (4, [], _), (5, [], _), (6, [], _), (7, [], _)] ⟨rfl, rfl, rfl, rfl, rfl, trivial⟩ (hR _ _ _ rfl ?_); clear hR R
      refine G.region rfl (fun R hR => ?_)
      refine D.pure rfl rfl rfl rfl rfl rfl ?_
      refine D.done [(3, [], _), (4, [], _), (5, [], _), (6, [], _), (7, [], _), (8, [], _)] ⟨rfl, rfl, rfl, rfl, rfl, rfl, trivial⟩ (hR _ _ _ rfl ?_); clear hR R
      refine G.loop (fun fr C' L' μ => ∃ (b : Nat) (W : List (List Nat)) (A7 : Option Addr) (c7 : Nat), (b ≤ 2 ^ l.length ∧ W.length ≤ b ∧ (W.Pairwise fun x y => cmpL x y < 0) ∧ (∀ s, s ∈ W ↔ ∃ b', b' < b ∧ s = bitsI b' l.length ∧ s.length = n ∧ noneB l s = true) ∧ LL C' (.slice A7 W.length c7) W) ∧ fr = [(3, [], .slice Al l.length cl), (4, [], .slice A4 RR.length c4), (5, [], .int .i64 er), (6, [], .int .i64 n), (7, [], .slice A7 W.length c7), (8, [], .int .i64 b)] ∧ L' = [] ∧ μ = 2 ^ l.length - b) (fr' := [(3, [], _), (4, [], _), (5, [], _), (6, [], _), (7, [], _), (8, [], _)]) ⟨rfl, rfl, rfl, rfl, rfl, rfl, trivial⟩ ⟨0, [], none, 0, ⟨Nat.zero_le _, Nat.le_refl _, List.Pairwise.nil, fun s => ⟨fun h => (by cases h), fun ⟨_, h, _⟩ => by omega⟩, LL.nil _⟩, rfl, rfl, rfl⟩ (fun fr C1' L1' m hle1 hI => ?_)
      obtain ⟨b, W, A7, c7, ⟨hb, hWb, hWs, hWm, hWL⟩, rfl, rfl, rfl⟩ := hI
      refine G.region rfl (fun R hR => ?_)
      iterate 3 refine D.pure rfl rfl rfl rfl rfl rfl ?_
      refine D.shl1 (l.length) rfl rfl rfl rfl rfl rfl (by first | exact .inl rfl | exact .inr rfl) rfl (by omega) rfl rfl ?_
      refine D.pure rfl rfl rfl rfl rfl rfl ?_
      refine D.done [(3, [], _), (4, [], _), (5, [], _), (6, [], _), (7, [], _), (8, [], _), (34, [], _)] ⟨rfl, rfl, rfl, rfl, rfl, rfl, rfl, trivial⟩ (hR _ _ _ rfl ?_); clear hR R
      refine G.cond rfl (fun h34 => ?_) (fun h34 => ?_)
      · skip
        have hbl : b < 2 ^ l.length := by
          have : (b : Int) < ((2 ^ l.length : Nat) : Int) := by simpa using h34
          omega
        refine G.region rfl (fun R hR => ?_)
        refine D.pure rfl rfl rfl rfl rfl rfl ?_
        refine D.done [(3, [], _), (4, [], _), (5, [], _), (6, [], _), (7, [], _), (8, [], _), (9, [], _)] ⟨rfl, rfl, rfl, rfl, rfl, rfl, rfl, trivial⟩ (hR _ _ _ rfl ?_); clear hR R
        refine G.region rfl (fun R hR => ?_)
        refine D.pure rfl rfl rfl rfl rfl rfl ?_
        refine D.done [(3, [], _), (4, [], _), (5, [], _), (6, [], _), (7, [], _), (8, [], _), (9, [], _), (10, [], _)] ⟨rfl, rfl, rfl, rfl, rfl, rfl, rfl, rfl, trivial⟩ (hR _ _ _ rfl ?_); clear hR R
        refine G.nilArr 3 1 ?_
        refine G.loop (fun fr C' L' μ => ∃ (i : Nat) (w : Value), (i ≤ l.length) ∧ fr = [(3, [], .slice Al l.length cl), (4, [], .slice A4 RR.length c4), (5, [], .int .i64 er), (6, [], .int .i64 n), (7, [], .slice A7 W.length c7), (8, [], .int .i64 b), (9, [], w), (10, [], .int .i64 i)] ∧ L' = [.arr w 3 1 (bitsI b i).length ((bitsI b i).map intN)] ∧ μ = l.length - i) (fr' := [(3, [], _), (4, [], _), (5, [], _), (6, [], _), (7, [], _), (8, [], _), (9, [], _), (10, [], _)]) ⟨rfl, rfl, rfl, rfl, rfl, rfl, rfl, rfl, trivial⟩ ⟨0, _, Nat.zero_le _, rfl, rfl, rfl⟩ (fun fr C2' L2' m hle2 hI => ?_)
        obtain ⟨i, w, hi, rfl, rfl, rfl⟩ := hI
        refine G.region rfl (fun R hR => ?_)
        iterate 4 refine D.pure rfl rfl rfl rfl rfl rfl ?_
        refine D.done [(3, [], _), (4, [], _), (5, [], _), (6, [], _), (7, [], _), (8, [], _), (9, [], _), (10, [], _), (40, [], _)] ⟨rfl, rfl, rfl, rfl, rfl, rfl, rfl, rfl, rfl, trivial⟩ (hR _ _ _ rfl ?_); clear hR R
        refine G.cond rfl (fun h40 => ?_) (fun h40 => ?_)
        · skip
          have hil : i < l.length := by simpa using h40
          have hbil : (bitsI b i).length ≤ i := idxs_len _ _
          have hdv : b / 2 ^ i < 9223372036854775808 := Nat.lt_of_le_of_lt (Nat.div_le_self _ _) (by omega)
          have htb : b.testBit i = decide (b / 2 ^ i % 2 = 1) := Nat.testBit_eq_decide_div_mod_eq
          refine G.region rfl (fun R hR => ?_)
          iterate 2 refine D.pure rfl rfl rfl rfl rfl rfl ?_
          refine D.shrI (b) (i) rfl rfl rfl rfl rfl rfl rfl rfl (by omega) rfl rfl ?_
          refine D.andI (b / 2 ^ i) (1) rfl rfl rfl rfl rfl rfl rfl rfl hdv (by omega) rfl rfl ?_
          refine D.pure rfl rfl rfl rfl rfl rfl ?_
          refine D.done [(3, [], _), (4, [], _), (5, [], _), (6, [], _), (7, [], _), (8, [], _), (9, [], _), (10, [], _), (47, [], _)] ⟨rfl, rfl, rfl, rfl, rfl, rfl, rfl, rfl, rfl, trivial⟩ (hR _ _ _ rfl ?_); clear hR R
          refine G.cond rfl (fun h47 => ?_) (fun h47 => ?_)
          · skip
            have h47' : b.testBit i = true := by
              rw [htb]
              have : ((b / 2 ^ i &&& 1 : Nat) : Int) = 1 := by simpa using h47
              rw [Nat.and_one_is_mod] at this
              simp; omega
            refine G.region rfl (fun R hR => ?_)
            iterate 2 refine D.pure rfl rfl rfl rfl rfl rfl ?_
            refine D.buildSlice [encN i] rfl rfl rfl rfl rfl rfl rfl rfl rfl rfl rfl rfl (fun _ => rfl) (fun p50 C50 hle50 hs50 => ?_)
            refine D.append (j := 0) rfl rfl rfl rfl rfl rfl rfl rfl rfl rfl rfl hs50 rfl (by simp only [List.length_singleton, maxLen]; omega) (by simp only [List.length_singleton]; omega) (fun _ => rfl) (fun v51 => ?_)
            refine D.pure rfl rfl rfl rfl rfl rfl ?_
            refine D.done [(3, [], _), (4, [], _), (5, [], _), (6, [], _), (7, [], _), (8, [], _), (9, [], _), (10, [], _)] ⟨rfl, rfl, rfl, rfl, rfl, rfl, rfl, rfl, trivial⟩ (hR _ _ _ rfl ?_); clear hR R
            refine G.region rfl (fun R hR => ?_)
            refine D.pure rfl rfl rfl rfl rfl rfl ?_
            refine D.i64 _ rfl rfl rfl rfl rfl (by omega) (by omega) rfl rfl ?_
            refine D.pure rfl rfl rfl rfl rfl rfl ?_
            refine D.done [(3, [], _), (4, [], _), (5, [], _), (6, [], _), (7, [], _), (8, [], _), (9, [], _), (10, [], _)] ⟨rfl, rfl, rfl, rfl, rfl, rfl, rfl, rfl, trivial⟩ (hR _ _ _ rfl ?_); clear hR R
            refine G.eqL (L' := [.arr v51 3 1 (bitsI b (i + 1)).length ((bitsI b (i + 1)).map intN)]) (by
              unfold bitsI
              rw [idxs_true (p := fun i => b.testBit i) h47']; simp [encN, intN]) ?_
            refine G.again (m' := l.length - (i + 1)) (by omega) (by (repeat (first | exact Mem.le.refl _ | assumption | (apply Mem.le.trans; rotate_left; assumption)))) (fr' := [(3, [], _), (4, [], _), (5, [], _), (6, [], _), (7, [], _), (8, [], _), (9, [], _), (10, [], _)]) ⟨rfl, rfl, rfl, rfl, rfl, rfl, rfl, rfl, trivial⟩ ⟨i + 1, v51, by omega, rfl, rfl, rfl⟩
          · skip
            have h47' : b.testBit i = false := by
              rw [htb]
              have : ¬ ((b / 2 ^ i &&& 1 : Nat) : Int) = 1 := by simpa using h47
              rw [Nat.and_one_is_mod] at this
              simp; omega
            refine G.region rfl (fun R hR => ?_)
            refine D.pure rfl rfl rfl rfl rfl rfl ?_
            refine D.i64 _ rfl rfl rfl rfl rfl (by omega) (by omega) rfl rfl ?_
            refine D.pure rfl rfl rfl rfl rfl rfl ?_
            refine D.done [(3, [], _), (4, [], _), (5, [], _), (6, [], _), (7, [], _), (8, [], _), (9, [], _), (10, [], _)] ⟨rfl, rfl, rfl, rfl, rfl, rfl, rfl, rfl, trivial⟩ (hR _ _ _ rfl ?_); clear hR R
            rw [show bitsI b i = bitsI b (i + 1) from (idxs_false (p := fun i => b.testBit i) h47').symm]
            refine G.again (m' := l.length - (i + 1)) (by omega) (by (repeat (first | exact Mem.le.refl _ | assumption | (apply Mem.le.trans; rotate_left; assumption)))) (fr' := [(3, [], _), (4, [], _), (5, [], _), (6, [], _), (7, [], _), (8, [], _), (9, [], _), (10, [], _)]) ⟨rfl, rfl, rfl, rfl, rfl, rfl, rfl, rfl, trivial⟩ ⟨i + 1, w, by omega, rfl, rfl, rfl⟩
        · skip
          have hil : i = l.length := by
            have : ¬ i < l.length := by simpa using h40
            omega
          subst hil
          have hbil : (bitsI b l.length).length ≤ l.length := idxs_len _ _
          refine G.freezeArr 0 ((bitsI b l.length).map encN) rfl (nats_flat _).symm (by intro r hr; obtain ⟨y, _, rfl⟩ := List.mem_map.1 hr; rfl) (by simp) (fun Cs hles hss => ?_)
          obtain ⟨S, hS⟩ : ∃ S, bitsI b l.length = S := ⟨_, rfl⟩
          obtain ⟨A9, c9, hqe, _⟩ := id hss
          rw [List.length_map] at hqe
          subst hqe
          have hwl := wobL_len l b
          have hwob := wobL_bits l b
          rw [hS] at hss hbil hwob ⊢
          refine G.regionO [(7, 2), (8, 2)] rfl (fun R hR => ?_)
          iterate 7 refine D.pure rfl rfl rfl rfl rfl rfl ?_
          refine D.callPG (fun x : Option Addr × Nat => .slice x.1 (wobL l b).length x.2) (fun hG59 => (lwithoutG_fn _ _ l b (hq20.mono (by (repeat (first | exact Mem.le.refl _ | assumption | (apply Mem.le.trans; rotate_left; assumption))))) (by omega) (by omega))) rfl rfl rfl rfl rfl rfl rfl (fun _ => rfl) rfl rfl (fun v59 C59 hle59 hq59 => ?_)
          refine D.callPG (fun x : Option Addr × Nat => .slice x.1 (cycL (wobL l b)).length x.2) (fun hG60 => (lcyclesG_fn _ _ (wobL l b) (hq59 (by exact hG60)) (by omega))) rfl rfl rfl rfl rfl rfl rfl (fun _ => rfl) rfl rfl (fun v60 C60 hle60 hq60 => ?_)
          iterate 2 refine D.pure rfl rfl rfl rfl rfl rfl ?_
          refine D.pickAnd rfl rfl rfl rfl rfl rfl rfl rfl ?_
          have hcz : ((((cycL (wobL l b)).length : Nat) : Int) == 0) = noneB l S := by
            unfold noneB
            rw [hwob, Bool.eq_iff_iff, beq_iff_eq, decide_eq_true_eq]
            constructor
            · intro h; exact List.eq_nil_of_length_eq_zero (by omega)
            · intro h; rw [h]; rfl
          rw [hcz]
          refine D.done [(3, [], _), (4, [], _), (5, [], _), (6, [], _), (7, [], _), (8, [], _), (9, [], _), (63, [], _)] ⟨rfl, rfl, rfl, rfl, rfl, rfl, rfl, rfl, trivial⟩ (hR _ _ _ rfl ?_); clear hR R
          refine G.cond rfl (fun h63 => ?_) (fun h63 => ?_)
          · skip
            have h63' : S.length = n ∧ noneB l S = true := by
              have : (S.length : Int) = n ∧ noneB l S = true := by simpa using h63
              exact ⟨by omega, this.2⟩
            have hSW : S ∉ W := fun h => by
              obtain ⟨b', h1, h2, _⟩ := (hWm S).1 h
              rw [← hS] at h2
              have := bits_inj hbl (by omega) h2
              omega
            refine G.region rfl (fun R hR => ?_)
            iterate 2 refine D.pure rfl rfl rfl rfl rfl rfl ?_
            refine D.callP (insert_fn _ _ _ W S (hWL.mono (by (repeat (first | exact Mem.le.refl _ | assumption | (apply Mem.le.trans; rotate_left; assumption))))) (hss.mono (by (repeat (first | exact Mem.le.refl _ | assumption | (apply Mem.le.trans; rotate_left; assumption))))) (by omega) (by omega) (fun y hy => by
              obtain ⟨b', _, h2, _⟩ := (hWm y).1 hy
              rw [h2]
              have : (bitsI b' l.length).length ≤ l.length := idxs_len _ _
              omega)) rfl rfl rfl rfl rfl rfl rfl (fun _ => rfl) (fun v66 C66 hle66 hq66 => ?_)
            obtain ⟨at_, hins, hWL2⟩ := hq66
            have hWs2 := insAt_sorted hWs hSW hins
            have hWl2 : (W.take at_ ++ S :: W.drop at_).length = W.length + 1 := by have := hins.1; simp; omega
            obtain ⟨ov2, k1, k2⟩ := id hWL2
            obtain ⟨A66, c66, hqe, _⟩ := id k1
            rw [List.length_map, k2.1] at hqe
            subst hqe
            refine D.pure rfl rfl rfl rfl rfl rfl ?_
            refine D.done [(3, [], _), (4, [], _), (5, [], _), (6, [], _), (7, [], _), (8, [], _)] ⟨rfl, rfl, rfl, rfl, rfl, rfl, trivial⟩ (hR _ _ _ rfl ?_); clear hR R
            refine G.region rfl (fun R hR => ?_)
            refine D.pure rfl rfl rfl rfl rfl rfl ?_
            refine D.i64 _ rfl rfl rfl rfl rfl (by omega) (by omega) rfl rfl ?_
            refine D.pure rfl rfl rfl rfl rfl rfl ?_
            refine D.done [(3, [], _), (4, [], _), (5, [], _), (6, [], _), (7, [], _), (8, [], _)] ⟨rfl, rfl, rfl, rfl, rfl, rfl, trivial⟩ (hR _ _ _ rfl ?_); clear hR R
            refine G.again (m' := 2 ^ l.length - (b + 1)) (by omega) (by (repeat (first | exact Mem.le.refl _ | assumption | (apply Mem.le.trans; rotate_left; assumption)))) (fr' := [(3, [], _), (4, [], _), (5, [], _), (6, [], _), (7, [], _), (8, [], _)]) ⟨rfl, rfl, rfl, rfl, rfl, rfl, trivial⟩ ⟨b + 1, W.take at_ ++ S :: W.drop at_, A66, c66, ⟨by omega, by omega, hWs2, fun s => by
              rw [insAt_mem, hWm]
              constructor
              · rintro (⟨b', h1, h2⟩ | h)
                · exact ⟨b', by omega, h2⟩
                · exact ⟨b, by omega, by rw [h, hS], by rw [h]; exact h63'.1, by rw [h]; exact h63'.2⟩
              · rintro ⟨b', h1, h2, h3⟩
                rcases Nat.lt_or_ge b' b with h4 | h4
                · exact .inl ⟨b', h4, h2, h3⟩
                · have : b' = b := by omega
                  subst this
                  exact .inr (by rw [h2, hS]), hWL2⟩, rfl, rfl, rfl⟩
          · skip
            have h63' : ¬ (S.length = n ∧ noneB l S = true) := fun hh => by simp [hh.1, hh.2] at h63
            refine G.region rfl (fun R hR => ?_)
            refine D.pure rfl rfl rfl rfl rfl rfl ?_
            refine D.i64 _ rfl rfl rfl rfl rfl (by omega) (by omega) rfl rfl ?_
            refine D.pure rfl rfl rfl rfl rfl rfl ?_
            refine D.done [(3, [], _), (4, [], _), (5, [], _), (6, [], _), (7, [], _), (8, [], _)] ⟨rfl, rfl, rfl, rfl, rfl, rfl, trivial⟩ (hR _ _ _ rfl ?_); clear hR R
            refine G.again (m' := 2 ^ l.length - (b + 1)) (by omega) (by (repeat (first | exact Mem.le.refl _ | assumption | (apply Mem.le.trans; rotate_left; assumption)))) (fr' := [(3, [], _), (4, [], _), (5, [], _), (6, [], _), (7, [], _), (8, [], _)]) ⟨rfl, rfl, rfl, rfl, rfl, rfl, trivial⟩ ⟨b + 1, W, A7, c7, ⟨by omega, by omega, hWs, fun s => by
              rw [hWm]
              constructor
              · rintro ⟨b', h1, h2⟩; exact ⟨b', by omega, h2⟩
              · rintro ⟨b', h1, h2, h3⟩
                rcases Nat.lt_or_ge b' b with h4 | h4
                · exact ⟨b', h4, h2, h3⟩
                · have : b' = b := by omega
                  subst this
                  rw [hS] at h2
                  rw [h2] at h3
                  exact absurd h3 h63', hWL.mono (by (repeat (first | exact Mem.le.refl _ | assumption | (apply Mem.le.trans; rotate_left; assumption))))⟩, rfl, rfl, rfl⟩
      · skip
        have hbl : b = 2 ^ l.length := by
          have : ¬ (b : Int) < ((2 ^ l.length : Nat) : Int) := by simpa using h34
          omega
        have hWr : ∀ s, s ∈ W ↔ Rep l n s := fun s => by rw [hWm, rep_bits, hbl]
        refine G.region rfl (fun R hR => ?_)
        iterate 3 refine D.pure rfl rfl rfl rfl rfl rfl ?_
        refine D.done [(3, [], _), (4, [], _), (5, [], _), (6, [], _), (7, [], _), (69, [], _)] ⟨rfl, rfl, rfl, rfl, rfl, rfl, trivial⟩ (hR _ _ _ rfl ?_); clear hR R
        refine G.cond rfl (fun h69 => ?_) (fun h69 => ?_)
        · skip
          have h69' : W ≠ [] := fun e => by rw [e] at h69; simp at h69
          obtain ⟨s0, hs0⟩ := List.exists_mem_of_ne_nil _ h69'
          have hr0 := (hWr s0).1 hs0
          have hRW : RR = W ∧ er = 0 := by
            rcases hRe with ⟨n0, h1, h2, ⟨t, h3⟩, h4, h5⟩ | ⟨h2, _⟩
            · have hn0 : n0 = n := by
                rcases Nat.lt_trichotomy n0 n with h6 | h6 | h6
                · exact absurd h3 (hno n0 t h6)
                · exact h6
                · exact absurd hr0 (h2 n s0 h6)
              subst hn0
              refine ⟨?_, h5⟩
              rw [h4]
              exact tot_cmpL.unique (repL_sorted l n0) hWs (fun s => by rw [mem_repL, sets_mem hl5 h2, hWr])
            · exact absurd hr0 (h2 n s0 (by omega))
          obtain ⟨hRW, rfl⟩ := hRW
          rw [hRW] at hRR ⊢
          refine G.region rfl (fun R hR => ?_)
          iterate 2 refine D.pure rfl rfl rfl rfl rfl rfl ?_
          refine D.gives2 (same_t _ _ _ W (hRR.mono (by (repeat (first | exact Mem.le.refl _ | assumption | (apply Mem.le.trans; rotate_left; assumption))))) (hWL.mono (by (repeat (first | exact Mem.le.refl _ | assumption | (apply Mem.le.trans; rotate_left; assumption))))) (by omega) (fun y hy => by
            obtain ⟨b', _, h2, _⟩ := (hWm y).1 hy
            rw [h2]
            have : (bitsI b' l.length).length ≤ l.length := idxs_len _ _
            omega)) rfl rfl rfl rfl rfl rfl rfl (fun _ => rfl) ?_
          iterate 3 refine D.pure rfl rfl rfl rfl rfl rfl ?_
          refine D.pickAnd rfl rfl rfl rfl rfl rfl rfl rfl ?_
          refine D.pure rfl rfl rfl rfl rfl rfl ?_
          refine D.done [(2, [], _)] ⟨rfl, trivial⟩ (hR _ _ _ rfl ?_); clear hR R
          refine G.retN (G.dropAll (G.fin1 rfl rfl ?_))
          exact ⟨rfl, rfl⟩
        · skip
          have h69' : W = [] := by simpa using h69
          refine G.region rfl (fun R hR => ?_)
          refine D.pure rfl rfl rfl rfl rfl rfl ?_
          refine D.i64 _ rfl rfl rfl rfl rfl (by omega) (by omega) rfl rfl ?_
          refine D.pure rfl rfl rfl rfl rfl rfl ?_
          refine D.done [(3, [], _), (4, [], _), (5, [], _), (6, [], _)] ⟨rfl, rfl, rfl, rfl, trivial⟩ (hR _ _ _ rfl ?_); clear hR R
          refine G.again (m' := 5 - (n + 1)) (by omega) (by (repeat (first | exact Mem.le.refl _ | assumption | (apply Mem.le.trans; rotate_left; assumption)))) (fr' := [(3, [], _), (4, [], _), (5, [], _), (6, [], _)]) ⟨rfl, rfl, rfl, rfl, trivial⟩ ⟨n + 1, ⟨by omega, fun k t hk hr => by
            rcases Nat.lt_or_ge k n with h | h
            · exact hno k t h hr
            · have : k = n := by omega
              subst this
              have := (hWr t).2 hr
              rw [h69'] at this; cases this⟩, rfl, rfl, rfl⟩
    · skip
      have hn5' : n = 5 := by
        have : ¬ (n : Int) ≤ 4 := by simpa using h27
        omega
      subst hn5'
      have hRW : RR = [] ∧ er = 4 := by
        rcases hRe with ⟨n0, h1, _, ⟨t, h3⟩, _⟩ | ⟨_, h⟩
        · exact absurd h3 (hno n0 t (by omega))
        · exact h
      obtain ⟨rfl, rfl⟩ := hRW
      refine G.region rfl (fun R hR => ?_)
      iterate 6 refine D.pure rfl rfl rfl rfl rfl rfl ?_
      refine D.pickAnd rfl rfl rfl rfl rfl rfl rfl rfl ?_
      refine D.pure rfl rfl rfl rfl rfl rfl ?_
      refine D.done [(2, [], _)] ⟨rfl, trivial⟩ (hR _ _ _ rfl ?_); clear hR R
      refine G.retN (G.dropAll (G.fin1 rfl rfl ?_))
      exact ⟨rfl, rfl⟩
end Go.Proofs.YtcghlfepfcagbaaGreat
namespace Go.Proofs.YtcghlfepfcagbaaGreat
open Go Go.Jog Go.ChangeShapes Go.WideShapes Go.ChangeAt Go.RowKit
set_option maxRecDepth 100000

namespace lawContradictionRepairs
theorem laid_met (os : Os) (args : Array Value) : laidMetH Tryz.prog Rows.contradictionRepairsRow.laid ((laidWorld os).forCall (fun _ _ => 0) ⟨#[], args, []⟩).memory :=
  laidMet_of_run' 8 (by kernel_rfl) (by kernel_rfl)
theorem contract (H : Type) (enc : TypeId × Value → H) (W : World) (base : Nat) (args : Array Value) (ds gs : List (DataW H)) (before : List MemPlace)
    (hval : ∀ (j : Nat) t v, Tryz.f4.params[j]? = some t → args[j]? = some v → Value.okWide Tryz.prog W .any base t v)
    (hW : DataW.Whole enc Tryz.prog Tryz.f4.params.toList Rows.contradictionRepairsSpec.vars false W args.toList ds gs before) (_hsh : W.ShapedOpen Tryz.prog) :
    Calls Tryz.prog 4 args W fun e W' => ∃ v, e = .returned v ∧ Rows.contradictionRepairsSpec.post enc Tryz.prog Tryz.f4 false true false false W args v W' := by
  have hW' := hW
  obtain ⟨p, q, hA0, hV, rfl, hfz, hnd⟩ := hW
  have hA : DataW.TrodAll enc Tryz.prog W 0 (fun _ => true) true Tryz.f4.params.toList args.toList ds p := hA0
  rw [Tryz.params4] at hA hval
  obtain ⟨v0, vs0, d0, ds0, p0, q0, hargs0, rfl, rfl, h0, r0⟩ := trodAll_cons hA
  obtain ⟨rfl, rfl, rfl⟩ := trodAll_nil r0
  obtain rfl : args = #[v0] := by cases args; simp_all
  obtain ⟨rfl, rfl⟩ := trodVars_none hV
  obtain ⟨a0, len0, cap0, rfl⟩ := okWide_slice Tryz.underlying22 (hval 0 22 v0 rfl rfl)
  obtain ⟨l0, hl0⟩ : ∃ l : List Seen, Sl (memOf W) 3 (.slice a0 len0 cap0) (l.map Seen.enc) := by
    obtain ⟨n, hn⟩ := (id h0)
    exact seens_of hn
  simp only [List.append_nil] at hW'
  have hlt0 : ∀ x ∈ p0, x.block < W.heap.size := fun x hx => hW'.lt x (by simp [hx])
  have main := gives_below (gives_of (crepairs_fn (memOf W) _ l0 hl0))
  refine Calls.mono main fun e W' ⟨he, hb⟩ => ?_
  subst he
  refine ⟨_, rfl, post_of_below (pa := p0 ++ ([])) (pv := []) hW' (fun _ _ _ => trodAll_cons_mk (shut_bool Tryz.underlying4 _) trodAll_mk0) (fun sp hsp => ?_) (fun _ _ => rfl) (by simp) hb (ok_one (by kernel_rfl) rfl (okWide_bool_mk Tryz.underlying4 _))⟩
  exact trodAll_cons_mk (WideElems.Trod_stays laidOut' (by kernel_rfl) (of_decide_eq_true (by kernel_rfl)) h0 (fun x hx => hb.same (hlt0 x hx)) (fun x hx => hsp x (by simp [hx]))) (trodAll_mk0)

theorem reads (os : Os) {H : Type} (enc : TypeId × Value → H) : ∃ places, DataW.whole enc Tryz.prog ((laidWorld os).forCall (fun _ _ => 0) ⟨#[], #[.slice none 0 0], []⟩).memory Tryz.f4.params.toList Rows.contradictionRepairsSpec.vars false (#[.slice none 0 0] : Array Value).toList 8 = some ([.nil], [], places) :=
  ⟨[], by kernel_rfl⟩

theorem lifted (os : Os) (started : os.Started) (H : Type) (enc : TypeId × Value → H) (F : Stop.Interp) :
    ReturnsInHanded {} Tryz.checked os 4 .any ((OpenSpec.ofChange Rows.contradictionRepairsSpec).preRow enc Tryz.prog Tryz.f4 Rows.contradictionRepairsRow.domain false Rows.contradictionRepairsRow.laid) (((OpenSpec.ofChange Rows.contradictionRepairsSpec).at F).post enc Tryz.prog Tryz.f4 false true false false) := by
  obtain ⟨places, hx⟩ := reads os enc
  refine returnsInHanded_of_row (C := Tryz.checked) (s := OpenSpec.ofChange Rows.contradictionRepairsSpec) own started (by kernel_rfl) Tryz.func4
    (witness_row_at (enc := enc) (C := Tryz.checked) false (laidWorld os) #[.slice none 0 0] rfl (by kernel_rfl) (by kernel_rfl) (by kernel_rfl)
      (OpenSpec.preRow_of_cond 8 hx (by kernel_rfl) (fun k hk => by cases hk) (by kernel_rfl) (laid_met os _))) ?_
  intro W base args ds gs before hval hW _ _ _ hL hsh _
  exact contract H enc W base args ds gs before hval hW hsh

theorem said : Rows.ContradictionRepairsSaid :=
  OpenClaim.holds_of_cond 4 Tryz.f4 rfl rfl rfl rfl rfl rfl rfl ⟨rfl, rfl, rfl, rfl, rfl⟩ rfl rfl rfl rfl rfl (by kernel_rfl) Tryz.func4 (by kernel_rfl)
    (of_decide_eq_true (by kernel_rfl)) (by unfold Func.isWrapper; first | (rw [if_pos (by decide +kernel)]; kernel_rfl) | (rw [if_neg (by decide +kernel)]; exact ⟨rfl, rfl⟩))
    (fun os started H enc _ F => by rw [OpenClaim.pre_eq_preRow]; exact lifted os started H enc F)

end lawContradictionRepairs

/-- FOR ANY DESCRIPTIONS ContradictionRepairs ANSWERS true, and leaves them as they were. -/
theorem contradictionRepairs_said : Rows.ContradictionRepairsSaid := lawContradictionRepairs.said
#print axioms contradictionRepairs_said
end Go.Proofs.YtcghlfepfcagbaaGreat
