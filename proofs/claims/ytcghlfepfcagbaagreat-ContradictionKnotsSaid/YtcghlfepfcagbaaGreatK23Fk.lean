/- FOR ANY DESCRIPTIONS ContradictionKnots ANSWERS true, and leaves them as they were. -/
import Derived.Test.YtcghlfepfcagbaaGreatG10
import Derived.Test.YtcghlfepfcagbaaGreatShelf
namespace Go.Proofs.YtcghlfepfcagbaaGreat
open Go Go.Jog
set_option maxRecDepth 100000

end Go.Proofs.YtcghlfepfcagbaaGreat
namespace Go.Proofs.YtcghlfepfcagbaaGreat
open Go Go.Jog
set_option maxRecDepth 100000

/-! ### Groups, plain -/
section
variable {α : Type}
structure Eqv (M : α → α → Bool) (K : List α) : Prop where
  refl : ∀ s ∈ K, M s s = true
  symm : ∀ s ∈ K, ∀ t ∈ K, M s t = true → M t s = true
  trans : ∀ s ∈ K, ∀ t ∈ K, ∀ u ∈ K, M s t = true → M t u = true → M s u = true
theorem Eqv.sub {M : α → α → Bool} {K R : List α} (h : Eqv M K) (hs : ∀ x ∈ R, x ∈ K) : Eqv M R :=
  ⟨fun s h1 => h.refl s (hs s h1), fun s h1 t h2 => h.symm s (hs s h1) t (hs t h2), fun s h1 t h2 u h3 => h.trans s (hs s h1) t (hs t h2) u (hs u h3)⟩
theorem find_filter {p q : α → Bool} : ∀ {K : List α}, (∀ x ∈ K, p x = true → q x = true) → (K.filter q).find? p = K.find? p
  | [], _ => rfl
  | x :: K, h => by
    have ih := find_filter (K := K) (fun y hy => h y (by simp [hy]))
    by_cases hp : p x = true
    · rw [List.filter_cons, if_pos (h x (by simp) hp), List.find?_cons, List.find?_cons, hp]
    · have hp' : p x = false := by simpa using hp
      rw [List.filter_cons]
      split
      · rw [List.find?_cons, List.find?_cons, hp', ih]
      · rw [List.find?_cons, hp', ih]
theorem filter_sub {p q : α → Bool} {K : List α} (h : ∀ x ∈ K, p x = true → q x = true) : (K.filter q).filter p = K.filter p := by
  rw [List.filter_filter]
  refine List.filter_congr (fun x hx => ?_)
  by_cases hp : p x = true
  · rw [hp, h x hx hp]; rfl
  · have hp' : p x = false := by simpa using hp
    rw [hp']; rfl
end
section
variable {α : Type} [DecidableEq α]
/-- The first of its group. -/
def fstB (M : α → α → Bool) (K : List α) (s : α) : Bool := decide (K.find? (M s) = some s)
/-- The groups of a part that holds whole groups. -/
theorem groups_part {M : α → α → Bool} {K : List α} {c : α → Bool} (hM : ∀ s ∈ K, ∀ t ∈ K, c s = true → M s t = true → c t = true) :
    (((K.filter c).filter (fstB M (K.filter c))).map fun s => (K.filter c).filter (M s)) = (K.filter fun s => c s && fstB M K s).map fun s => K.filter (M s) := by
  have h1 : (K.filter c).filter (fstB M (K.filter c)) = K.filter fun s => c s && fstB M K s := by
    rw [List.filter_filter]
    refine List.filter_congr (fun s hs => ?_)
    by_cases hc : c s = true
    · rw [hc, Bool.and_true, Bool.true_and]
      unfold fstB
      rw [find_filter (fun t ht hm => hM s hs t ht hc hm)]
    · have hc' : c s = false := by simpa using hc
      rw [hc']; simp
  rw [h1]
  refine List.map_congr_left (fun s hs => ?_)
  rw [List.mem_filter, Bool.and_eq_true] at hs
  exact filter_sub (fun t ht hm => hM s hs.1 t ht hs.2.1 hm)
end
theorem knF_groups {l : List Rel} : ∀ {f : Nat} {K : List Str}, K.length ≤ f → K.Nodup → Eqv (mutB l) K → knF l f K = (K.filter (fstB (mutB l) K)).map fun s => K.filter (mutB l s)
  | 0, K, hf, _, _ => by
    have : K = [] := List.eq_nil_of_length_eq_zero (by omega)
    subst this; rfl
  | f + 1, [], _, _, _ => rfl
  | f + 1, a :: r, hf, hn, hE => by
    have hr := hE.refl a (by simp)
    have hn2 := List.nodup_cons.1 hn
    obtain ⟨R, hR⟩ : ∃ R, (a :: r).filter (fun u => !mutB l a u) = R := ⟨_, rfl⟩
    have hRr : R = r.filter fun u => !mutB l a u := by rw [← hR, List.filter_cons, hr]; rfl
    have hsub : ∀ x ∈ R, x ∈ a :: r := fun x hx => by rw [← hR] at hx; exact (List.mem_filter.1 hx).1
    have hRl : R.length ≤ f := by
      rw [hRr]; have := List.length_filter_le (fun u => !mutB l a u) r; simp at hf; omega
    have hRn : R.Nodup := by rw [hRr]; exact hn2.2.filter _
    have ih := knF_groups hRl hRn (hE.sub hsub)
    show (a :: r).filter (mutB l a) :: knF l f ((a :: r).filter fun u => !mutB l a u) = _
    rw [hR, ih]
    have hfa : fstB (mutB l) (a :: r) a = true := by unfold fstB; rw [List.find?_cons, hr]; simp
    conv => rhs; rw [List.filter_cons, if_pos hfa, List.map_cons]
    congr 1
    have hM : ∀ s ∈ a :: r, ∀ t ∈ a :: r, (!mutB l a s) = true → mutB l s t = true → (!mutB l a t) = true := fun s hs t ht h1 h2 => by
      rw [Bool.not_eq_true'] at h1 ⊢
      rw [Bool.eq_false_iff] at h1 ⊢
      intro h3
      exact h1 (hE.trans a (by simp) t ht s hs h3 (hE.symm s hs t ht h2))
    have hg := groups_part (M := mutB l) (K := a :: r) (c := fun u => !mutB l a u) hM
    rw [hR] at hg
    rw [hg, List.filter_cons]
    rw [if_neg (by simp [hr])]
    congr 1
    refine List.filter_congr (fun s hs => ?_)
    by_cases hm : mutB l a s = true
    · have : fstB (mutB l) (a :: r) s = false := by
        unfold fstB
        rw [List.find?_cons, hE.symm a (by simp) s (by simp [hs]) hm]
        simp
        intro e; subst e; exact hn2.1 hs
      rw [this]; simp
    · have hm' : mutB l a s = false := by simpa using hm
      rw [hm']; simp

/-! ### The law's groups -/
theorem reach_trans {l : List Rel} {s t u : Str} (hs : s ∈ unitsL l) (ht : t ∈ unitsL l) (hu : u ∈ unitsL l) (h : reachB l s t = true) (k : reachB l t u = true) : reachB l s u = true := by
  rw [reach_iff hs ht] at h
  rw [reach_iff ht hu] at k
  obtain ⟨x, h1, rfl⟩ := h
  obtain ⟨y, h3, h4⟩ := k
  exact (reach_iff hs hu).2 ⟨x ++ y, IsWay.append.2 ⟨h1, h3⟩, by rw [endL, endW_append]; exact h4⟩
theorem mut_eqv (l : List Rel) : Eqv (mutB l) (unitsL l) := ⟨fun s hs => by unfold mutB; rw [reach_self hs]; rfl, fun s _ t _ h => by unfold mutB at h ⊢; rw [Bool.and_comm]; exact h, fun s hs t ht u hu h k => by
  unfold mutB at h k ⊢
  rw [Bool.and_eq_true] at h k ⊢
  exact ⟨reach_trans hu ht hs k.1 h.1, reach_trans hs ht hu h.2 k.2⟩⟩
theorem reach_older {l : List Rel} {s t : Str} (hs : s ∈ unitsL l) (ht : t ∈ unitsL l) (hne : s ≠ t) : reachB l s t = olderB l s t := by
  rw [Bool.eq_iff_iff, reach_iff hs ht, older_iff]
  constructor
  · rintro ⟨x, h1, h2⟩
    refine ⟨x, h1, ?_, h2⟩
    cases x with
    | nil => exact absurd h2 hne
    | cons => simp
  · rintro ⟨x, h1, _, h2⟩; exact ⟨x, h1, h2⟩
def eqB (l : List Rel) (i j : Nat) : Bool := (i == j) || (olderB l (nameAt (unitsL l) i) (nameAt (unitsL l) j) && olderB l (nameAt (unitsL l) j) (nameAt (unitsL l) i))
theorem nameAt_mem {N : List Str} {i : Nat} (h : i < N.length) : nameAt N i ∈ N := List.mem_of_getElem? (nameAt_get h)
theorem eqB_mut {l : List Rel} {i j : Nat} (hi : i < (unitsL l).length) (hj : j < (unitsL l).length) : eqB l i j = mutB l (nameAt (unitsL l) i) (nameAt (unitsL l) j) := by
  have h1 := nameAt_mem hi
  have h2 := nameAt_mem hj
  unfold eqB mutB
  by_cases e : i = j
  · subst e; rw [reach_self h1]; simp
  · have hne : nameAt (unitsL l) i ≠ nameAt (unitsL l) j := fun h => e (nameAt_inj (unitsL_nodup l) hi hj h)
    rw [reach_older h1 h2 hne, reach_older h2 h1 (Ne.symm hne), Bool.and_comm]
    simp [e]
def grpN (l : List Rel) (i : Nat) : List Str := (idxs (eqB l i) (unitsL l).length).map (nameAt (unitsL l))
def firstI (l : List Rel) (i : Nat) : Bool := (idxs (eqB l i) (unitsL l).length).all fun q => decide (i ≤ q)
def okI (l : List Rel) (i : Nat) : Bool := firstI l i && decide (2 ≤ (grpN l i).length)
def knI (l : List Rel) (n : Nat) : List (List Str) := cat (fun i => oneIf (okI l i) (grpN l i)) n
theorem idxs_filter (p : Nat → Bool) : ∀ n, idxs p n = (List.range n).filter p
  | 0 => rfl
  | n + 1 => by
    rw [List.range_succ, List.filter_append, ← idxs_filter p n]
    by_cases h : p n = true
    · rw [idxs_true h]; simp [h]
    · have h' : p n = false := by simpa using h
      rw [idxs_false h']; simp [h']
theorem cat_oneIf {β : Type} (p : Nat → Bool) (f : Nat → β) : ∀ n, cat (fun i => oneIf (p i) (f i)) n = ((List.range n).filter p).map f
  | 0 => rfl
  | n + 1 => by
    rw [cat_succ, cat_oneIf p f n, List.range_succ, List.filter_append, List.map_append]
    congr 1
    by_cases h : p n = true
    · rw [oneIf_true h]; simp [h]
    · have h' : p n = false := by simpa using h
      rw [oneIf_false h']; simp [h']
theorem range_names (N : List Str) : (List.range N.length).map (nameAt N) = N := by
  refine List.ext_getElem? (fun i => ?_)
  rw [List.getElem?_map]
  rcases Nat.lt_or_ge i N.length with h | h
  · rw [List.getElem?_range h, nameAt_get h]; rfl
  · rw [List.getElem?_eq_none (by simpa using h), List.getElem?_eq_none h]; rfl
theorem grp_eq {l : List Rel} {i : Nat} (hi : i < (unitsL l).length) : grpN l i = (unitsL l).filter (mutB l (nameAt (unitsL l) i)) := by
  unfold grpN
  have e : (unitsL l).filter (mutB l (nameAt (unitsL l) i)) = ((List.range (unitsL l).length).filter (mutB l (nameAt (unitsL l) i) ∘ nameAt (unitsL l))).map (nameAt (unitsL l)) := by
    rw [← List.filter_map, range_names]
  rw [idxs_filter, e]
  congr 1
  refine List.filter_congr (fun j hj => ?_)
  exact eqB_mut hi (List.mem_range.1 hj)
theorem first_eq {l : List Rel} {i : Nat} (hi : i < (unitsL l).length) : firstI l i = fstB (mutB l) (unitsL l) (nameAt (unitsL l) i) := by
  rw [Bool.eq_iff_iff]
  unfold firstI fstB
  rw [List.all_eq_true, decide_eq_true_eq, List.find?_eq_some_iff_getElem]
  have hself : mutB l (nameAt (unitsL l) i) (nameAt (unitsL l) i) = true := (mut_eqv l).refl _ (nameAt_mem hi)
  constructor
  · intro h
    refine ⟨hself, i, hi, (List.getElem?_eq_some_iff.1 (nameAt_get hi)).2, fun j hj => ?_⟩
    rw [Bool.not_eq_true', Bool.eq_false_iff]
    intro hm
    have hj2 : j < (unitsL l).length := by omega
    have := h j (idxs_mem.2 ⟨hj2, by rw [eqB_mut hi hj2]; rw [(List.getElem?_eq_some_iff.1 (nameAt_get hj2)).2] at hm; exact hm⟩)
    simp at this; omega
  · rintro ⟨_, k, hk, he, hno⟩ q hq
    obtain ⟨hq1, hq2⟩ := idxs_mem.1 hq
    have hki : k = i := nameAt_inj (unitsL_nodup l) hk hi (by rw [← he]; exact (List.getElem?_eq_some_iff.1 (nameAt_get hk)).2.symm)
    subst hki
    rw [decide_eq_true_eq]
    rcases Nat.lt_or_ge q k with h | h
    · have := hno q h
      rw [eqB_mut hi hq1] at hq2
      rw [(List.getElem?_eq_some_iff.1 (nameAt_get hq1)).2, hq2] at this
      cases this
    · exact h
/-- A unit is in a cycle just where its group has two or more. -/
theorem group_two {l : List Rel} (hM : Made l) {s : Str} (hs : s ∈ unitsL l) : decide (2 ≤ ((unitsL l).filter (mutB l s)).length) = decide (s ∈ (invL l).map (lowOf l)) := by
  have hn : ((unitsL l).filter (mutB l s)).Nodup := (unitsL_nodup l).filter _
  rw [Bool.eq_iff_iff, decide_eq_true_eq, decide_eq_true_eq]
  have hin : s ∈ (invL l).map (lowOf l) ↔ ∃ k ∈ fromL l s, reachB l (upOf l k) s = true := by
    constructor
    · intro h
      obtain ⟨i, hi, rfl⟩ := List.mem_map.1 h
      have h2 := (idxs_mem.1 hi).2
      unfold invB at h2
      rw [Bool.and_eq_true] at h2
      exact ⟨i, arcB_from.1 h2.1, h2.2⟩
    · rintro ⟨k, h1, h2⟩
      have hl := from_low _ _ h1
      refine List.mem_map.2 ⟨k, idxs_mem.2 ⟨from_lt _ _ h1, ?_⟩, hl⟩
      unfold invB
      rw [Bool.and_eq_true]
      exact ⟨arcB_from.2 (by rw [hl]; exact h1), by rw [hl]; exact h2⟩
  rw [hin]
  constructor
  · intro h
    obtain ⟨t, ht, hne⟩ : ∃ t ∈ (unitsL l).filter (mutB l s), t ≠ s := by
      apply Classical.byContradiction
      intro hc
      have : ∀ t ∈ (unitsL l).filter (mutB l s), t ∈ [s] := fun t ht => by
        by_cases e : t = s
        · simp [e]
        · exact absurd ⟨t, ht, e⟩ hc
      have := List.Nodup.length_le_of_subset hn this
      simp at this; omega
    rw [List.mem_filter] at ht
    obtain ⟨htu, htm⟩ := ht
    unfold mutB at htm
    rw [Bool.and_eq_true] at htm
    obtain ⟨x, x1, x2⟩ := (reach_iff hs htu).1 htm.2
    cases x with
    | nil => exact absurd x2.symm hne
    | cons k x =>
      have hu := up_unit x1.1
      exact ⟨k, x1.1, reach_trans hu htu hs ((reach_iff hu htu).2 ⟨x, x1.2, x2⟩) htm.1⟩
  · rintro ⟨k, h1, h2⟩
    have hu := up_unit h1
    obtain ⟨x, hx1, hx2, hx3⟩ := mem_from.1 h1
    have hne : upOf l k ≠ s := fun e => by
      have ha : (⟨k, posS (unitsL l) x.lower, posS (unitsL l) x.upper⟩ : Arc3) ∈ arcsOf l := mem_arcs3.2 ⟨x, hx1, hx2, rfl⟩
      have e2 : upOf l k = x.upper := by unfold upOf; rw [hx1]
      have := hM.self _ ha
      apply this
      show posS (unitsL l) x.upper = posS (unitsL l) x.lower
      rw [← e2, e, hx3]
    have hsu : reachB l s (upOf l k) = true := (reach_iff hs hu).2 ⟨[k], ⟨h1, trivial⟩, rfl⟩
    have := List.Nodup.length_le_of_subset (l₁ := [s, upOf l k]) (l₂ := (unitsL l).filter (mutB l s)) (by simp [Ne.symm hne]) (fun t ht => by
      rw [List.mem_filter]
      simp at ht
      rcases ht with rfl | rfl
      · exact ⟨hs, (mut_eqv l).refl _ hs⟩
      · exact ⟨hu, by unfold mutB; rw [h2, hsu]; rfl⟩)
    simpa using this
theorem knots_law {l : List Rel} (hM : Made l) : knF l (inU l (invL l)).length (inU l (invL l)) = knI l (unitsL l).length := by
  have hE := mut_eqv l
  have hsub : ∀ x ∈ inU l (invL l), x ∈ unitsL l := inU_sub
  have hnd : (inU l (invL l)).Nodup := (unitsL_nodup l).filter _
  rw [knF_groups (Nat.le_refl (inU l (invL l)).length) hnd (hE.sub hsub)]
  unfold inU
  have hc : ∀ s ∈ unitsL l, ∀ t ∈ unitsL l, decide (s ∈ (invL l).map (lowOf l)) = true → mutB l s t = true → decide (t ∈ (invL l).map (lowOf l)) = true := fun s hs t ht h1 h2 => by
    rw [← group_two hM hs] at h1
    rw [← group_two hM ht]
    have : (unitsL l).filter (mutB l t) = (unitsL l).filter (mutB l s) := List.filter_congr (fun u hu => by
      rw [Bool.eq_iff_iff]
      exact ⟨fun h => hE.trans s hs t ht u hu h2 h, fun h => hE.trans t ht s hs u hu (hE.symm s hs t ht h2) h⟩)
    rw [this]; exact h1
  rw [groups_part hc]
  unfold knI
  rw [cat_oneIf]
  have e : (unitsL l).filter (fun s => decide (s ∈ (invL l).map (lowOf l)) && fstB (mutB l) (unitsL l) s) = ((List.range (unitsL l).length).filter ((fun s => decide (s ∈ (invL l).map (lowOf l)) && fstB (mutB l) (unitsL l) s) ∘ nameAt (unitsL l))).map (nameAt (unitsL l)) := by
    rw [← List.filter_map, range_names]
  have hf : (List.range (unitsL l).length).filter ((fun s => decide (s ∈ (invL l).map (lowOf l)) && fstB (mutB l) (unitsL l) s) ∘ nameAt (unitsL l)) = (List.range (unitsL l).length).filter (okI l) := List.filter_congr (fun i hi => by
    have hil := List.mem_range.1 hi
    simp only [Function.comp]
    unfold okI
    rw [first_eq hil, grp_eq hil, group_two hM (nameAt_mem hil), Bool.and_comm])
  rw [e, hf, List.map_map]
  refine List.map_congr_left (fun i hi => ?_)
  have hil := List.mem_range.1 (List.mem_filter.1 hi).1
  rw [grp_eq hil]; rfl

theorem lolderG_fn (C : Mem) (v : Value) (l : List Rel) (a b : Str) (hv : Sl C 3 v (l.map Rel.enc)) (hl : l.length ≤ 8) :
    Pur cx.P 24 [v, strV a, strV b] C fun r _ => ∃ c : Bool, r = .bool c ∧ c = olderB l a b :=
  Fn.mono (lolder_fn C v l a b hv hl) (fun _ _ _ _ ⟨h1, h2⟩ => ⟨h1, _, h2, rfl⟩)
theorem OutS.at {C : Mem} {ov : List Value} {outs : List (List Str)} (h : OutS C ov outs) {j : Nat} {o : List Str} (ho : outs[j]? = some o) : ∃ A c, (ov.map fun x => [x])[j]? = some [.slice A o.length c] ∧ Sl C 1 (.slice A o.length c) (o.map encS) := by
  have hj := (List.getElem?_eq_some_iff.1 ho).1
  have hv : ov[j]? = some (ov[j]'(by rw [h.1]; exact hj)) := List.getElem?_eq_getElem _
  obtain ⟨A, c, he, _⟩ := id (h.2 j _ o hv ho)
  rw [List.length_map] at he
  have hs := h.2 j _ o hv ho
  rw [he] at hs hv
  exact ⟨A, c, by rw [List.getElem?_map, hv]; rfl, hs⟩
end Go.Proofs.YtcghlfepfcagbaaGreat
namespace Go.Proofs.YtcghlfepfcagbaaGreat
open Go Go.Jog
set_option maxRecDepth 100000

def UnitsRes (C : Mem) (l : List Rel) (r : Value) : Prop :=
  (errU l ≠ 0 ∧ r = .tuple #[nilV, .int .i64 (errU l)]) ∨ (errU l = 0 ∧ ∃ v, r = .tuple #[v, .int .i64 0] ∧ Sl C 1 v ((unitsL l).map encS))
theorem unitsR_fn (C : Mem) (v : Value) (l : List Rel) (hv : Sl C 3 v (l.map Rel.enc)) (hl : l.length ≤ 100000) (hsh : ∀ x ∈ l, x.short) : Pur cx.P 22 [v] C fun r C' => UnitsRes C' l r := by
  obtain ⟨A0, c0, rfl, _⟩ := id hv
  refine Fn.intro (by kernel_rfl) Tryz.func22 rfl 12 rfl rfl (fun w0 => ?_)
  refine G.region rfl (fun R hR => ?_)
  iterate 2 refine D.pure rfl rfl rfl rfl rfl rfl ?_
  refine D.done [(0, [], _)] ⟨rfl, trivial⟩ (hR _ _ _ rfl ?_); clear hR R
  refine G.region rfl (fun R hR => ?_)
  refine D.pure rfl rfl rfl rfl rfl rfl ?_
  refine D.gives2 (check_fn _ _ l hv hl hsh) rfl rfl rfl rfl rfl rfl rfl (fun _ => rfl) ?_
  refine D.pure rfl rfl rfl rfl rfl rfl ?_
  refine D.done [(0, [], _), (4, [], _)] ⟨rfl, rfl, trivial⟩ (hR _ _ _ rfl ?_); clear hR R
  refine G.region rfl (fun R hR => ?_)
  iterate 2 refine D.pure rfl rfl rfl rfl rfl rfl ?_
  refine D.done [(0, [], _), (4, [], _), (8, [], _)] ⟨rfl, rfl, rfl, trivial⟩ (hR _ _ _ rfl ?_); clear hR R
  refine G.cond rfl (fun h8 => ?_) (fun h8 => ?_)
  · skip
    have h8' : errU l ≠ 0 := by simpa using h8
    refine G.region rfl (fun R hR => ?_)
    iterate 3 refine D.pure rfl rfl rfl rfl rfl rfl ?_
    refine D.done [(2, [], _), (3, [], _)] ⟨rfl, rfl, trivial⟩ (hR _ _ _ rfl ?_); clear hR R
    refine G.retN (G.dropAll (G.fin2 rfl rfl rfl ?_))
    exact ⟨rfl, .inl ⟨h8', rfl⟩⟩
  · skip
    have h8' : errU l = 0 := by simpa using h8
    refine G.region rfl (fun R hR => ?_)
    refine D.pure rfl rfl rfl rfl rfl rfl ?_
    refine D.callP (units_fn _ _ l (hv.mono (by (repeat (first | exact Mem.le.refl _ | assumption | (apply Mem.le.trans; rotate_left; assumption))))) hl) rfl rfl rfl rfl rfl rfl rfl (fun _ => rfl) (fun v11 C11 hle11 hq11 => ?_)
    iterate 2 refine D.pure rfl rfl rfl rfl rfl rfl ?_
    refine D.done [(2, [], _), (3, [], _)] ⟨rfl, rfl, trivial⟩ (hR _ _ _ rfl ?_); clear hR R
    refine G.retN (G.dropAll (G.fin2 rfl rfl rfl ?_))
    exact ⟨rfl, .inr ⟨h8', _, rfl, hq11⟩⟩
theorem units_ok {C : Mem} {l : List Rel} {r : Value} (hE : errU l = 0) (h : UnitsRes C l r) : ∃ A c, r = .tuple #[.slice A (unitsL l).length c, .int .i64 0] ∧ Sl C 1 (.slice A (unitsL l).length c) ((unitsL l).map encS) := by
  rcases h with ⟨h, _⟩ | ⟨_, v, h2, h3⟩
  · exact absurd hE h
  · obtain ⟨A, c, hqe, _⟩ := id h3
    rw [List.length_map] at hqe
    subst hqe
    exact ⟨A, c, h2, h3⟩
theorem ii_eq (i j : Nat) : ((i : Int) == (j : Int)) = (i == j) := by
  rw [Bool.eq_iff_iff, beq_iff_eq, beq_iff_eq]; omega
set_option maxHeartbeats 8000000 in
theorem cknots_fn (C : Mem) (v : Value) (ss : List Seen) (hv : Sl C 3 v (ss.map Seen.enc)) : Pur cx.P 5 [v] C fun u _ => u = .bool true := by
  obtain ⟨A0, c0, rfl, _⟩ := id hv
  simp only [List.length_map] at hv ⊢
  refine Fn.intro (by kernel_rfl) Tryz.func5 rfl 137 rfl rfl (fun w0 => ?_)
  refine G.region rfl (fun R hR => ?_)
  refine D.pure rfl rfl rfl rfl rfl rfl ?_
  refine D.done [(0, [], _)] ⟨rfl, trivial⟩ (hR _ _ _ rfl ?_); clear hR R
  refine G.region rfl (fun R hR => ?_)
  refine D.callP (known23_fn _) rfl rfl rfl rfl rfl rfl rfl (fun _ => rfl) (fun v14 C14 hle14 hq14 => ?_)
  obtain rfl := hq14
  iterate 3 refine D.pure rfl rfl rfl rfl rfl rfl ?_
  refine D.gives (fun _ => (fits_fn _ _ _ _)) rfl rfl rfl rfl rfl rfl rfl rfl rfl ?_
  refine D.pure rfl rfl rfl rfl rfl rfl ?_
  refine D.pickOr rfl rfl rfl rfl rfl rfl rfl rfl ?_
  refine D.done [(0, [], _), (20, [], _)] ⟨rfl, rfl, trivial⟩ (hR _ _ _ rfl ?_); clear hR R
  refine G.cond rfl (fun h20 => ?_) (fun h20 => ?_)
  · skip
    refine G.region rfl (fun R hR => ?_)
    refine D.callP (known23_fn _) rfl rfl rfl rfl rfl rfl rfl (fun _ => rfl) (fun v21 C21 hle21 hq21 => ?_)
    obtain rfl := hq21
    refine D.pure rfl rfl rfl rfl rfl rfl ?_
    refine D.done [(2, [], _)] ⟨rfl, trivial⟩ (hR _ _ _ rfl ?_); clear hR R
    refine G.retN (G.dropAll (G.fin1 rfl rfl ?_))
    exact ⟨rfl, rfl⟩
  · skip
    refine G.region rfl (fun R hR => ?_)
    refine D.pure rfl rfl rfl rfl rfl rfl ?_
    refine D.callP (make_fn _ _ ss (hv.mono (by (repeat (first | exact Mem.le.refl _ | assumption | (apply Mem.le.trans; rotate_left; assumption)))))) rfl rfl rfl rfl rfl rfl rfl (fun _ => rfl) (fun v23 C23 hle23 hq23 => ?_)
    obtain ⟨l, hl⟩ : ∃ l, makeL ss = l := ⟨_, rfl⟩
    have hM : Made l := by rw [← hl]; exact made_makeL ss
    rw [hl] at hq23
    obtain ⟨Al, cl, rfl, hlc, _⟩ := id hq23
    simp only [List.length_map] at hq23 hlc
    have hl8 := hM.1
    have hE := hM.err
    have hN6 := hM.units
    simp only [List.length_map]
    refine D.pure rfl rfl rfl rfl rfl rfl ?_
    refine D.done [(3, [], _)] ⟨rfl, trivial⟩ (hR _ _ _ rfl ?_); clear hR R
    refine G.region rfl (fun R hR => ?_)
    refine D.pure rfl rfl rfl rfl rfl rfl ?_
    refine D.callP (unitsR_fn _ _ l (hq23.mono (by (repeat (first | exact Mem.le.refl _ | assumption | (apply Mem.le.trans; rotate_left; assumption))))) (by omega) hM.short) rfl rfl rfl rfl rfl rfl rfl (fun _ => rfl) (fun v26 C26 hle26 hq26 => ?_)
    obtain ⟨Au, cu, rfl, hus⟩ := units_ok hE hq26
    iterate 5 refine D.pure rfl rfl rfl rfl rfl rfl ?_
    refine D.done [(3, [], _), (4, [], _), (5, [], _)] ⟨rfl, rfl, rfl, trivial⟩ (hR _ _ _ rfl ?_); clear hR R
    refine G.region rfl (fun R hR => ?_)
    refine D.pure rfl rfl rfl rfl rfl rfl ?_
    refine D.callP (knots_fn _ _ l (hq23.mono (by (repeat (first | exact Mem.le.refl _ | assumption | (apply Mem.le.trans; rotate_left; assumption))))) (by omega) hM.short) rfl rfl rfl rfl rfl rfl rfl (fun _ => rfl) (fun v31 C31 hle31 hq31 => ?_)
    obtain ⟨vk, ovk, rfl, hks, hko⟩ := knots_ok hE hq31
    rw [knots_law hM] at hko
    obtain ⟨Ak, ck, hqe, _⟩ := id hks
    have hkl := hko.1
    rw [List.length_map, hkl] at hqe
    subst hqe
    iterate 5 refine D.pure rfl rfl rfl rfl rfl rfl ?_
    obtain ⟨KK, hKK⟩ : ∃ KK, knI l (unitsL l).length = KK := ⟨_, rfl⟩
    rw [hKK] at hko hkl hks ⊢
    refine D.done [(3, [], _), (4, [], _), (5, [], _), (6, [], _), (7, [], _)] ⟨rfl, rfl, rfl, rfl, rfl, trivial⟩ (hR _ _ _ rfl ?_); clear hR R
    refine G.region rfl (fun R hR => ?_)
    iterate 5 refine D.pure rfl rfl rfl rfl rfl rfl ?_
    refine D.pickOr rfl rfl rfl rfl rfl rfl rfl rfl ?_
    refine D.done [(3, [], _), (4, [], _), (6, [], _), (39, [], _)] ⟨rfl, rfl, rfl, rfl, trivial⟩ (hR _ _ _ rfl ?_); clear hR R
    refine G.cond rfl (fun h39 => ?_) (fun h39 => ?_)
    · skip
      exfalso
      simp at h39
    · skip
      refine G.region rfl (fun R hR => ?_)
      refine D.pure rfl rfl rfl rfl rfl rfl ?_
      refine D.done [(3, [], _), (4, [], _), (6, [], _), (8, [], _)] ⟨rfl, rfl, rfl, rfl, trivial⟩ (hR _ _ _ rfl ?_); clear hR R
      refine G.region rfl (fun R hR => ?_)
      refine D.pure rfl rfl rfl rfl rfl rfl ?_
      refine D.done [(3, [], _), (4, [], _), (6, [], _), (8, [], _), (9, [], _)] ⟨rfl, rfl, rfl, rfl, rfl, trivial⟩ (hR _ _ _ rfl ?_); clear hR R
      refine G.loop (fun fr C' L' μ => ∃ (i : Nat), (i ≤ (unitsL l).length) ∧ fr = [(3, [], .slice Al l.length cl), (4, [], .slice Au (unitsL l).length cu), (6, [], .slice Ak KK.length ck), (8, [], .int .i64 (knI l i).length), (9, [], .int .i64 i)] ∧ L' = [] ∧ μ = (unitsL l).length - i) (fr' := [(3, [], _), (4, [], _), (6, [], _), (8, [], _), (9, [], _)]) ⟨rfl, rfl, rfl, rfl, rfl, trivial⟩ ⟨0, Nat.zero_le _, rfl, rfl, rfl⟩ (fun fr C0' L0' m hle0 hI => ?_)
      obtain ⟨i, hi, rfl, rfl, rfl⟩ := hI
      refine G.region rfl (fun R hR => ?_)
      iterate 4 refine D.pure rfl rfl rfl rfl rfl rfl ?_
      refine D.done [(3, [], _), (4, [], _), (6, [], _), (8, [], _), (9, [], _), (43, [], _)] ⟨rfl, rfl, rfl, rfl, rfl, rfl, trivial⟩ (hR _ _ _ rfl ?_); clear hR R
      refine G.cond rfl (fun h43 => ?_) (fun h43 => ?_)
      · skip
        have hil : i < (unitsL l).length := by simpa using h43
        have hri : ((unitsL l).map encS)[i]? = some (encS (nameAt (unitsL l) i)) := by rw [List.getElem?_map, nameAt_get hil]; rfl
        refine G.region rfl (fun R hR => ?_)
        refine D.pure rfl rfl rfl rfl rfl rfl ?_
        refine D.done [(3, [], _), (4, [], _), (6, [], _), (8, [], _), (9, [], _), (10, [], _)] ⟨rfl, rfl, rfl, rfl, rfl, rfl, trivial⟩ (hR _ _ _ rfl ?_); clear hR R
        refine G.region rfl (fun R hR => ?_)
        refine D.pure rfl rfl rfl rfl rfl rfl ?_
        refine D.done [(3, [], _), (4, [], _), (6, [], _), (8, [], _), (9, [], _), (10, [], _), (11, [], _)] ⟨rfl, rfl, rfl, rfl, rfl, rfl, rfl, trivial⟩ (hR _ _ _ rfl ?_); clear hR R
        refine G.region rfl (fun R hR => ?_)
        refine D.pure rfl rfl rfl rfl rfl rfl ?_
        refine D.done [(3, [], _), (4, [], _), (6, [], _), (8, [], _), (9, [], _), (10, [], _), (11, [], _), (12, [], _)] ⟨rfl, rfl, rfl, rfl, rfl, rfl, rfl, rfl, trivial⟩ (hR _ _ _ rfl ?_); clear hR R
        refine G.nilArr 9 1 ?_
        refine G.loop (fun fr C' L' μ => ∃ (j : Nat) (w : Value), (j ≤ (unitsL l).length) ∧ fr = [(3, [], .slice Al l.length cl), (4, [], .slice Au (unitsL l).length cu), (6, [], .slice Ak KK.length ck), (8, [], .int .i64 (knI l i).length), (9, [], .int .i64 i), (10, [], w), (11, [], .bool ((idxs (eqB l i) j).all fun q => decide (i ≤ q))), (12, [], .int .i64 j)] ∧ L' = [.arr w 9 1 (idxs (eqB l i) j).length ((idxs (eqB l i) j).map fun q => strV (nameAt (unitsL l) q))] ∧ μ = (unitsL l).length - j) (fr' := [(3, [], _), (4, [], _), (6, [], _), (8, [], _), (9, [], _), (10, [], _), (11, [], _), (12, [], _)]) ⟨rfl, rfl, rfl, rfl, rfl, rfl, rfl, rfl, trivial⟩ ⟨0, _, Nat.zero_le _, rfl, rfl, rfl⟩ (fun fr C1' L1' m hle1 hI => ?_)
        obtain ⟨j, w, hj, rfl, rfl, rfl⟩ := hI
        refine G.region rfl (fun R hR => ?_)
        iterate 4 refine D.pure rfl rfl rfl rfl rfl rfl ?_
        refine D.done [(3, [], _), (4, [], _), (6, [], _), (8, [], _), (9, [], _), (10, [], _), (11, [], _), (12, [], _), (49, [], _)] ⟨rfl, rfl, rfl, rfl, rfl, rfl, rfl, rfl, rfl, trivial⟩ (hR _ _ _ rfl ?_); clear hR R
        refine G.cond rfl (fun h49 => ?_) (fun h49 => ?_)
        · skip
          have hjl : j < (unitsL l).length := by simpa using h49
          have hrj : ((unitsL l).map encS)[j]? = some (encS (nameAt (unitsL l) j)) := by rw [List.getElem?_map, nameAt_get hjl]; rfl
          have hixl := idxs_len (eqB l i) j
          refine G.draw [0, 1, 2, 3, 4, 5, 6, 7, 8, 9, 10, 11, 12, 13, 14, 15, 16, 17, 18, 19, 20, 21, 22, 23, 24, 25, 26] [(13, 2), (24, 2)] rfl (by kernel_rfl) (fun R hB hR => ?_)
          iterate 7 refine D.pure rfl rfl rfl rfl rfl rfl ?_
          refine D.index rfl rfl rfl rfl rfl rfl rfl rfl rfl rfl (fun hg => ⟨(hus.mono (by (repeat (first | exact Mem.le.refl _ | assumption | (apply Mem.le.trans; rotate_left; assumption))))), by omega, hri⟩) (fun _ => rfl) rfl (fun p59 hp59 => ?_)
          refine D.loadP rfl rfl rfl rfl rfl rfl hp59 rfl rfl rfl ?_
          iterate 2 refine D.pure rfl rfl rfl rfl rfl rfl ?_
          refine D.index rfl rfl rfl rfl rfl rfl rfl rfl rfl rfl (fun hg => ⟨(hus.mono (by (repeat (first | exact Mem.le.refl _ | assumption | (apply Mem.le.trans; rotate_left; assumption))))), by omega, hrj⟩) (fun _ => rfl) rfl (fun p63 hp63 => ?_)
          refine D.loadP rfl rfl rfl rfl rfl rfl hp63 rfl rfl rfl ?_
          refine D.callPG (fun b : Bool => .bool b) (fun hG65 => (lolderG_fn _ _ l _ _ (hq23.mono (by (repeat (first | exact Mem.le.refl _ | assumption | (apply Mem.le.trans; rotate_left; assumption))))) hl8)) rfl rfl rfl rfl rfl rfl rfl (fun _ => rfl) rfl rfl (fun v65 C65 hle65 hq65 => ?_)
          iterate 4 refine D.pure rfl rfl rfl rfl rfl rfl ?_
          refine D.index rfl rfl rfl rfl rfl rfl rfl rfl rfl rfl (fun hg => ⟨(hus.mono (by (repeat (first | exact Mem.le.refl _ | assumption | (apply Mem.le.trans; rotate_left; assumption))))), by omega, hrj⟩) (fun _ => rfl) rfl (fun p70 hp70 => ?_)
          refine D.loadP rfl rfl rfl rfl rfl rfl hp70 rfl rfl rfl ?_
          iterate 2 refine D.pure rfl rfl rfl rfl rfl rfl ?_
          refine D.index rfl rfl rfl rfl rfl rfl rfl rfl rfl rfl (fun hg => ⟨(hus.mono (by (repeat (first | exact Mem.le.refl _ | assumption | (apply Mem.le.trans; rotate_left; assumption))))), by omega, hri⟩) (fun _ => rfl) rfl (fun p74 hp74 => ?_)
          refine D.loadP rfl rfl rfl rfl rfl rfl hp74 rfl rfl rfl ?_
          refine D.callPG (fun b : Bool => .bool b) (fun hG76 => (lolderG_fn _ _ l _ _ (hq23.mono (by (repeat (first | exact Mem.le.refl _ | assumption | (apply Mem.le.trans; rotate_left; assumption))))) hl8)) rfl rfl rfl rfl rfl rfl rfl (fun _ => rfl) rfl rfl (fun v76 C76 hle76 hq76 => ?_)
          refine D.pickAnd rfl rfl rfl rfl rfl rfl rfl rfl ?_
          refine D.pickOr rfl rfl rfl rfl rfl rfl rfl rfl ?_
          have hval : (((i : Int) == (j : Int)) || (v65 && v76)) = eqB l i j := by
            by_cases h : i = j
            · subst h; simp [eqB]
            · have g : ((i : Int) == (j : Int)) = false := by rw [ii_eq]; simpa using h
              have e1 := hq65 ⟨g, trivial⟩
              have g2 : (i == j) = false := by simpa using h
              unfold eqB
              rw [g, g2, ← e1]
              cases hv65 : v65 with
              | false => rfl
              | true =>
                have e2 := hq76 ⟨hv65, g, trivial⟩
                rw [e2]
          refine D.done [(3, [], _), (4, [], _), (6, [], _), (8, [], _), (9, [], _), (10, [], _), (11, [], _), (12, [], _), (78, [], _)] ⟨rfl, rfl, rfl, rfl, rfl, rfl, rfl, rfl, rfl, trivial⟩ (hR _ _ _ rfl ?_); clear hR hB R
          refine G.cond rfl (fun h78 => ?_) (fun h78 => ?_)
          · skip
            have h78' : eqB l i j = true := by rw [← hval]; exact h78
            refine G.region rfl (fun R hR => ?_)
            iterate 3 refine D.pure rfl rfl rfl rfl rfl rfl ?_
            refine D.index0 (hus.mono (by (repeat (first | exact Mem.le.refl _ | assumption | (apply Mem.le.trans; rotate_left; assumption))))) rfl rfl rfl rfl rfl rfl rfl rfl rfl rfl (by omega) hrj (fun _ => rfl) (fun p82 hp82 => ?_)
            refine D.loadP0 hp82 rfl rfl rfl rfl rfl rfl rfl rfl ?_
            refine D.buildSlice [encS (nameAt (unitsL l) j)] rfl rfl rfl rfl rfl rfl rfl rfl rfl rfl rfl rfl (fun _ => rfl) (fun p84 C84 hle84 hs84 => ?_)
            refine D.append (j := 0) rfl rfl rfl rfl rfl rfl rfl rfl rfl rfl rfl hs84 rfl (by simp only [List.length_singleton, maxLen]; omega) (by simp only [List.length_singleton]; omega) (fun _ => rfl) (fun v85 => ?_)
            refine D.pure rfl rfl rfl rfl rfl rfl ?_
            refine D.done [(3, [], _), (4, [], _), (6, [], _), (8, [], _), (9, [], _), (10, [], _), (11, [], _), (12, [], _)] ⟨rfl, rfl, rfl, rfl, rfl, rfl, rfl, rfl, trivial⟩ (hR _ _ _ rfl ?_); clear hR R
            refine G.region rfl (fun R hR => ?_)
            iterate 5 refine D.pure rfl rfl rfl rfl rfl rfl ?_
            refine D.pickAnd rfl rfl rfl rfl rfl rfl rfl rfl ?_
            refine D.pure rfl rfl rfl rfl rfl rfl ?_
            refine D.done [(3, [], _), (4, [], _), (6, [], _), (8, [], _), (9, [], _), (10, [], _), (11, [], _), (12, [], _)] ⟨rfl, rfl, rfl, rfl, rfl, rfl, rfl, rfl, trivial⟩ (hR _ _ _ rfl ?_); clear hR R
            refine G.region rfl (fun R hR => ?_)
            refine D.pure rfl rfl rfl rfl rfl rfl ?_
            refine D.i64 _ rfl rfl rfl rfl rfl (by omega) (by omega) rfl rfl ?_
            refine D.pure rfl rfl rfl rfl rfl rfl ?_
            refine D.done [(3, [], _), (4, [], _), (6, [], _), (8, [], _), (9, [], _), (10, [], _), (11, [], _), (12, [], _)] ⟨rfl, rfl, rfl, rfl, rfl, rfl, rfl, rfl, trivial⟩ (hR _ _ _ rfl ?_); clear hR R
            refine G.eqL (L' := [.arr v85 9 1 (idxs (eqB l i) (j + 1)).length ((idxs (eqB l i) (j + 1)).map fun q => strV (nameAt (unitsL l) q))]) (by rw [idxs_true h78']; simp [encS]) ?_
            have e11 : (((idxs (eqB l i) j).all fun q => decide (i ≤ q)) && decide ((i : Int) ≤ (j : Int))) = ((idxs (eqB l i) (j + 1)).all fun q => decide (i ≤ q)) := by
              rw [idxs_true h78', List.all_append]
              congr 1
              by_cases h : i ≤ j
              · have : (i : Int) ≤ j := by omega
                simp [h]
              · have : ¬ (i : Int) ≤ j := by omega
                simp [h]
            rw [e11]
            refine G.again (m' := (unitsL l).length - (j + 1)) (by omega) (by (repeat (first | exact Mem.le.refl _ | assumption | (apply Mem.le.trans; rotate_left; assumption)))) (fr' := [(3, [], _), (4, [], _), (6, [], _), (8, [], _), (9, [], _), (10, [], _), (11, [], _), (12, [], _)]) ⟨rfl, rfl, rfl, rfl, rfl, rfl, rfl, rfl, trivial⟩ ⟨j + 1, v85, by omega, rfl, rfl, rfl⟩
          · skip
            have h78' : eqB l i j = false := by rw [← hval]; exact h78
            refine G.region rfl (fun R hR => ?_)
            refine D.pure rfl rfl rfl rfl rfl rfl ?_
            refine D.i64 _ rfl rfl rfl rfl rfl (by omega) (by omega) rfl rfl ?_
            refine D.pure rfl rfl rfl rfl rfl rfl ?_
            refine D.done [(3, [], _), (4, [], _), (6, [], _), (8, [], _), (9, [], _), (10, [], _), (11, [], _), (12, [], _)] ⟨rfl, rfl, rfl, rfl, rfl, rfl, rfl, rfl, trivial⟩ (hR _ _ _ rfl ?_); clear hR R
            rw [show (idxs (eqB l i) j) = idxs (eqB l i) (j + 1) from (idxs_false h78').symm]
            refine G.again (m' := (unitsL l).length - (j + 1)) (by omega) (by (repeat (first | exact Mem.le.refl _ | assumption | (apply Mem.le.trans; rotate_left; assumption)))) (fr' := [(3, [], _), (4, [], _), (6, [], _), (8, [], _), (9, [], _), (10, [], _), (11, [], _), (12, [], _)]) ⟨rfl, rfl, rfl, rfl, rfl, rfl, rfl, rfl, trivial⟩ ⟨j + 1, w, by omega, rfl, rfl, rfl⟩
        · skip
          have hjl : j = (unitsL l).length := by
            have : ¬ j < (unitsL l).length := by simpa using h49
            omega
          subst hjl
          have hgl : (grpN l i).length = (idxs (eqB l i) (unitsL l).length).length := by simp [grpN]
          have hgl2 := idxs_len (eqB l i) (unitsL l).length
          refine G.eqL (L' := [.arr w 9 1 (grpN l i).length ((grpN l i).map encS).flatten]) (by rw [flat_enc, hgl]; unfold grpN; rw [List.map_map]; rfl) ?_
          refine G.freezeArr 0 ((grpN l i).map encS) rfl rfl (by intro r hr; obtain ⟨y, _, rfl⟩ := List.mem_map.1 hr; rfl) (by simp) (fun Cg hleg hgs => ?_)
          obtain ⟨Ag, cg, hqe, _⟩ := id hgs
          rw [List.length_map] at hqe
          subst hqe
          rw [show ((idxs (eqB l i) (unitsL l).length).all fun q => decide (i ≤ q)) = firstI l i from rfl]
          refine G.region rfl (fun R hR => ?_)
          iterate 6 refine D.pure rfl rfl rfl rfl rfl rfl ?_
          refine D.pickOr rfl rfl rfl rfl rfl rfl rfl rfl ?_
          refine D.done [(3, [], _), (4, [], _), (6, [], _), (8, [], _), (9, [], _), (10, [], _), (98, [], _)] ⟨rfl, rfl, rfl, rfl, rfl, rfl, rfl, trivial⟩ (hR _ _ _ rfl ?_); clear hR R
          refine G.cond rfl (fun h98 => ?_) (fun h98 => ?_)
          · skip
            have h98' : okI l i = false := by
              unfold okI
              rw [Bool.eq_false_iff]
              intro hh
              rw [Bool.and_eq_true, decide_eq_true_eq] at hh
              obtain ⟨h1, h2⟩ := hh
              simp [h1] at h98
              omega
            have hkn : knI l (i + 1) = knI l i := by unfold knI; rw [cat_succ, oneIf_false h98', List.append_nil]
            refine G.region rfl (fun R hR => ?_)
            refine D.pure rfl rfl rfl rfl rfl rfl ?_
            refine D.i64 _ rfl rfl rfl rfl rfl (by omega) (by omega) rfl rfl ?_
            refine D.pure rfl rfl rfl rfl rfl rfl ?_
            refine D.done [(3, [], _), (4, [], _), (6, [], _), (8, [], _), (9, [], _)] ⟨rfl, rfl, rfl, rfl, rfl, trivial⟩ (hR _ _ _ rfl ?_); clear hR R
            rw [← hkn]
            refine G.again (m' := (unitsL l).length - (i + 1)) (by omega) (by (repeat (first | exact Mem.le.refl _ | assumption | (apply Mem.le.trans; rotate_left; assumption)))) (fr' := [(3, [], _), (4, [], _), (6, [], _), (8, [], _), (9, [], _)]) ⟨rfl, rfl, rfl, rfl, rfl, trivial⟩ ⟨i + 1, by omega, rfl, rfl, rfl⟩
          · skip
            have h98' : okI l i = true := by
              unfold okI
              rw [Bool.and_eq_true, decide_eq_true_eq]
              by_cases h1 : firstI l i = true
              · refine ⟨h1, ?_⟩
                simp [h1] at h98
                omega
              · have h1' : firstI l i = false := by simpa using h1
                simp [h1'] at h98
            have hkn : knI l (i + 1) = knI l i ++ [grpN l i] := by unfold knI; rw [cat_succ, oneIf_true h98']
            have hat : KK[(knI l i).length]? = some (grpN l i) := by
              have := cat_at (f := fun i => oneIf (okI l i) (grpN l i)) (pre := []) (post := []) hil (oneIf_true h98')
              rw [← hKK]; exact this
            have hlt := (List.getElem?_eq_some_iff.1 hat).1
            have hki := cat_length_mul (f := fun i => oneIf (okI l i) (grpN l i)) (m := 1) (fun i => oneIf_len _ _) i
            have hki2 : (knI l i).length ≤ i * 1 := hki
            obtain ⟨Ax, cx1, hrx, hsx⟩ := hko.at hat
            refine G.region rfl (fun R hR => ?_)
            iterate 7 refine D.pure rfl rfl rfl rfl rfl rfl ?_
            refine D.index rfl rfl rfl rfl rfl rfl rfl rfl rfl rfl (fun hg => ⟨(hks.mono (by (repeat (first | exact Mem.le.refl _ | assumption | (apply Mem.le.trans; rotate_left; assumption))))), (by omega), hrx⟩) (fun _ => rfl) rfl (fun p106 hp106 => ?_)
            refine D.loadP rfl rfl rfl rfl rfl rfl hp106 rfl rfl rfl ?_
            iterate 4 refine D.pure rfl rfl rfl rfl rfl rfl ?_
            refine D.pickOr rfl rfl rfl rfl rfl rfl rfl rfl ?_
            refine D.done [(3, [], _), (4, [], _), (6, [], _), (8, [], _), (9, [], _), (10, [], _), (112, [], _)] ⟨rfl, rfl, rfl, rfl, rfl, rfl, rfl, trivial⟩ (hR _ _ _ rfl ?_); clear hR R
            refine G.cond rfl (fun h112 => ?_) (fun h112 => ?_)
            · skip
              exfalso
              simp at h112
              omega
            · skip
              refine G.region rfl (fun R hR => ?_)
              refine D.pure rfl rfl rfl rfl rfl rfl ?_
              refine D.done [(3, [], _), (4, [], _), (6, [], _), (8, [], _), (9, [], _), (10, [], _), (13, [], _)] ⟨rfl, rfl, rfl, rfl, rfl, rfl, rfl, trivial⟩ (hR _ _ _ rfl ?_); clear hR R
              refine G.loop (fun fr C' L' μ => ∃ (q : Nat), (q ≤ (grpN l i).length) ∧ fr = [(3, [], .slice Al l.length cl), (4, [], .slice Au (unitsL l).length cu), (6, [], .slice Ak KK.length ck), (8, [], .int .i64 (knI l i).length), (9, [], .int .i64 i), (10, [], .slice Ag (grpN l i).length cg), (13, [], .int .i64 q)] ∧ L' = [] ∧ μ = (grpN l i).length - q) (fr' := [(3, [], _), (4, [], _), (6, [], _), (8, [], _), (9, [], _), (10, [], _), (13, [], _)]) ⟨rfl, rfl, rfl, rfl, rfl, rfl, rfl, trivial⟩ ⟨0, Nat.zero_le _, rfl, rfl, rfl⟩ (fun fr C2' L2' m hle2 hI => ?_)
              obtain ⟨q, hq, rfl, rfl, rfl⟩ := hI
              refine G.region rfl (fun R hR => ?_)
              iterate 4 refine D.pure rfl rfl rfl rfl rfl rfl ?_
              refine D.done [(3, [], _), (4, [], _), (6, [], _), (8, [], _), (9, [], _), (10, [], _), (13, [], _), (116, [], _)] ⟨rfl, rfl, rfl, rfl, rfl, rfl, rfl, rfl, trivial⟩ (hR _ _ _ rfl ?_); clear hR R
              refine G.cond rfl (fun h116 => ?_) (fun h116 => ?_)
              · skip
                have hql : q < (grpN l i).length := by simpa using h116
                obtain ⟨z, hz⟩ : ∃ z, (grpN l i)[q]? = some z := ⟨(grpN l i)[q], List.getElem?_eq_getElem hql⟩
                have hrz : ((grpN l i).map encS)[q]? = some (encS z) := by rw [List.getElem?_map, hz]; rfl
                refine G.draw [0, 1, 2, 3, 4, 5, 6, 7, 8, 9, 10, 11] [] rfl (by kernel_rfl) (fun R hB hR => ?_)
                iterate 2 refine D.pure rfl rfl rfl rfl rfl rfl ?_
                refine D.index0 (hks.mono (by (repeat (first | exact Mem.le.refl _ | assumption | (apply Mem.le.trans; rotate_left; assumption))))) rfl rfl rfl rfl rfl rfl rfl rfl rfl rfl (by omega) hrx (fun _ => rfl) (fun p121 hp121 => ?_)
                refine D.loadP0 hp121 rfl rfl rfl rfl rfl rfl rfl rfl ?_
                refine D.pure rfl rfl rfl rfl rfl rfl ?_
                refine D.index0 (hsx.mono (by (repeat (first | exact Mem.le.refl _ | assumption | (apply Mem.le.trans; rotate_left; assumption))))) rfl rfl rfl rfl rfl rfl rfl rfl rfl rfl (by omega) hrz (fun _ => rfl) (fun p124 hp124 => ?_)
                refine D.loadP0 hp124 rfl rfl rfl rfl rfl rfl rfl rfl ?_
                iterate 2 refine D.pure rfl rfl rfl rfl rfl rfl ?_
                refine D.index0 (hgs.mono (by (repeat (first | exact Mem.le.refl _ | assumption | (apply Mem.le.trans; rotate_left; assumption))))) rfl rfl rfl rfl rfl rfl rfl rfl rfl rfl (by omega) hrz (fun _ => rfl) (fun p128 hp128 => ?_)
                refine D.loadP0 hp128 rfl rfl rfl rfl rfl rfl rfl rfl ?_
                refine D.pure rfl rfl rfl rfl rfl rfl ?_
                refine D.done [(3, [], _), (4, [], _), (6, [], _), (8, [], _), (9, [], _), (10, [], _), (13, [], _), (130, [], _)] ⟨rfl, rfl, rfl, rfl, rfl, rfl, rfl, rfl, trivial⟩ (hR _ _ _ rfl ?_); clear hR hB R
                refine G.cond rfl (fun h130 => ?_) (fun h130 => ?_)
                · skip
                  exfalso
                  simp at h130
                · skip
                  refine G.region rfl (fun R hR => ?_)
                  refine D.pure rfl rfl rfl rfl rfl rfl ?_
                  refine D.i64 _ rfl rfl rfl rfl rfl (by omega) (by omega) rfl rfl ?_
                  refine D.pure rfl rfl rfl rfl rfl rfl ?_
                  refine D.done [(3, [], _), (4, [], _), (6, [], _), (8, [], _), (9, [], _), (10, [], _), (13, [], _)] ⟨rfl, rfl, rfl, rfl, rfl, rfl, rfl, trivial⟩ (hR _ _ _ rfl ?_); clear hR R
                  refine G.again (m' := (grpN l i).length - (q + 1)) (by omega) (by (repeat (first | exact Mem.le.refl _ | assumption | (apply Mem.le.trans; rotate_left; assumption)))) (fr' := [(3, [], _), (4, [], _), (6, [], _), (8, [], _), (9, [], _), (10, [], _), (13, [], _)]) ⟨rfl, rfl, rfl, rfl, rfl, rfl, rfl, trivial⟩ ⟨q + 1, by omega, rfl, rfl, rfl⟩
              · skip
                skip
                refine G.region rfl (fun R hR => ?_)
                refine D.pure rfl rfl rfl rfl rfl rfl ?_
                refine D.i64 _ rfl rfl rfl rfl rfl (by omega) (by omega) rfl rfl ?_
                refine D.pure rfl rfl rfl rfl rfl rfl ?_
                refine D.done [(3, [], _), (4, [], _), (6, [], _), (8, [], _), (9, [], _)] ⟨rfl, rfl, rfl, rfl, rfl, trivial⟩ (hR _ _ _ rfl ?_); clear hR R
                refine G.region rfl (fun R hR => ?_)
                refine D.pure rfl rfl rfl rfl rfl rfl ?_
                refine D.i64 _ rfl rfl rfl rfl rfl (by omega) (by omega) rfl rfl ?_
                refine D.pure rfl rfl rfl rfl rfl rfl ?_
                refine D.done [(3, [], _), (4, [], _), (6, [], _), (8, [], _), (9, [], _)] ⟨rfl, rfl, rfl, rfl, rfl, trivial⟩ (hR _ _ _ rfl ?_); clear hR R
                rw [show (((knI l i).length : Nat) : Int) + 1 = (((knI l (i + 1)).length : Nat) : Int) by rw [hkn]; simp]
                refine G.again (m' := (unitsL l).length - (i + 1)) (by omega) (by (repeat (first | exact Mem.le.refl _ | assumption | (apply Mem.le.trans; rotate_left; assumption)))) (fr' := [(3, [], _), (4, [], _), (6, [], _), (8, [], _), (9, [], _)]) ⟨rfl, rfl, rfl, rfl, rfl, trivial⟩ ⟨i + 1, by omega, rfl, rfl, rfl⟩
      · skip
        have hil : i = (unitsL l).length := by
          have : ¬ i < (unitsL l).length := by simpa using h43
          omega
        subst hil
        refine G.region rfl (fun R hR => ?_)
        iterate 5 refine D.pure rfl rfl rfl rfl rfl rfl ?_
        refine D.done [(2, [], _)] ⟨rfl, trivial⟩ (hR _ _ _ rfl ?_); clear hR R
        refine G.retN (G.dropAll (G.fin1 rfl rfl ?_))
        exact ⟨rfl, by rw [hKK]; simp⟩
end Go.Proofs.YtcghlfepfcagbaaGreat
namespace Go.Proofs.YtcghlfepfcagbaaGreat
open Go Go.Jog Go.ChangeShapes Go.WideShapes Go.ChangeAt Go.RowKit
set_option maxRecDepth 100000

namespace lawContradictionKnots
theorem laid_met (os : Os) (args : Array Value) : laidMetH Tryz.prog Rows.contradictionKnotsRow.laid ((laidWorld os).forCall (fun _ _ => 0) ⟨#[], args, []⟩).memory :=
  laidMet_of_run' 8 (by kernel_rfl) (by kernel_rfl)
theorem contract (H : Type) (enc : TypeId × Value → H) (W : World) (base : Nat) (args : Array Value) (ds gs : List (DataW H)) (before : List MemPlace)
    (hval : ∀ (j : Nat) t v, Tryz.f5.params[j]? = some t → args[j]? = some v → Value.okWide Tryz.prog W .any base t v)
    (hW : DataW.Whole enc Tryz.prog Tryz.f5.params.toList Rows.contradictionKnotsSpec.vars false W args.toList ds gs before) (_hsh : W.ShapedOpen Tryz.prog) :
    Calls Tryz.prog 5 args W fun e W' => ∃ v, e = .returned v ∧ Rows.contradictionKnotsSpec.post enc Tryz.prog Tryz.f5 false true false false W args v W' := by
  have hW' := hW
  obtain ⟨p, q, hA0, hV, rfl, hfz, hnd⟩ := hW
  have hA : DataW.TrodAll enc Tryz.prog W 0 (fun _ => true) true Tryz.f5.params.toList args.toList ds p := hA0
  rw [Tryz.params5] at hA hval
  obtain ⟨v0, vs0, d0, ds0, p0, q0, hargs0, rfl, rfl, h0, r0⟩ := trodAll_cons hA
  obtain ⟨rfl, rfl, rfl⟩ := trodAll_nil r0
  obtain rfl : args = #[v0] := by cases args; simp_all
  obtain ⟨rfl, rfl⟩ := trodVars_none hV
  obtain ⟨a0, len0, cap0, rfl⟩ := okWide_slice Tryz.underlying22 (hval 0 22 v0 rfl rfl)
  obtain ⟨l0, hl0⟩ : ∃ l : List Seen, Sl (memOf W) 3 (.slice a0 len0 cap0) (l.map Seen.enc) := by
    obtain ⟨n, hn⟩ := (id h0)
    exact seens_of hn
  simp only [List.append_nil] at hW'
  have hlt0 : ∀ x ∈ p0, x.block < W.heap.size := fun x hx => hW'.lt x (by simp [hx])
  have main := gives_below (gives_of (cknots_fn (memOf W) _ l0 hl0))
  refine Calls.mono main fun e W' ⟨he, hb⟩ => ?_
  subst he
  refine ⟨_, rfl, post_of_below (pa := p0 ++ ([])) (pv := []) hW' (fun _ _ _ => trodAll_cons_mk (shut_bool Tryz.underlying4 _) trodAll_mk0) (fun sp hsp => ?_) (fun _ _ => rfl) (by simp) hb (ok_one (by kernel_rfl) rfl (okWide_bool_mk Tryz.underlying4 _))⟩
  exact trodAll_cons_mk (WideElems.Trod_stays laidOut' (by kernel_rfl) (of_decide_eq_true (by kernel_rfl)) h0 (fun x hx => hb.same (hlt0 x hx)) (fun x hx => hsp x (by simp [hx]))) (trodAll_mk0)

theorem reads (os : Os) {H : Type} (enc : TypeId × Value → H) : ∃ places, DataW.whole enc Tryz.prog ((laidWorld os).forCall (fun _ _ => 0) ⟨#[], #[.slice none 0 0], []⟩).memory Tryz.f5.params.toList Rows.contradictionKnotsSpec.vars false (#[.slice none 0 0] : Array Value).toList 8 = some ([.nil], [], places) :=
  ⟨[], by kernel_rfl⟩

theorem lifted (os : Os) (started : os.Started) (H : Type) (enc : TypeId × Value → H) (F : Stop.Interp) :
    ReturnsInHanded {} Tryz.checked os 5 .any ((OpenSpec.ofChange Rows.contradictionKnotsSpec).preRow enc Tryz.prog Tryz.f5 Rows.contradictionKnotsRow.domain false Rows.contradictionKnotsRow.laid) (((OpenSpec.ofChange Rows.contradictionKnotsSpec).at F).post enc Tryz.prog Tryz.f5 false true false false) := by
  obtain ⟨places, hx⟩ := reads os enc
  refine returnsInHanded_of_row (C := Tryz.checked) (s := OpenSpec.ofChange Rows.contradictionKnotsSpec) own started (by kernel_rfl) Tryz.func5
    (witness_row_at (enc := enc) (C := Tryz.checked) false (laidWorld os) #[.slice none 0 0] rfl (by kernel_rfl) (by kernel_rfl) (by kernel_rfl)
      (OpenSpec.preRow_of_cond 8 hx (by kernel_rfl) (fun k hk => by cases hk) (by kernel_rfl) (laid_met os _))) ?_
  intro W base args ds gs before hval hW _ _ _ hL hsh _
  exact contract H enc W base args ds gs before hval hW hsh

theorem said : Rows.ContradictionKnotsSaid :=
  OpenClaim.holds_of_cond 5 Tryz.f5 rfl rfl rfl rfl rfl rfl rfl ⟨rfl, rfl, rfl, rfl, rfl⟩ rfl rfl rfl rfl rfl (by kernel_rfl) Tryz.func5 (by kernel_rfl)
    (of_decide_eq_true (by kernel_rfl)) (by unfold Func.isWrapper; first | (rw [if_pos (by decide +kernel)]; kernel_rfl) | (rw [if_neg (by decide +kernel)]; exact ⟨rfl, rfl⟩))
    (fun os started H enc _ F => by rw [OpenClaim.pre_eq_preRow]; exact lifted os started H enc F)

end lawContradictionKnots

/-- FOR ANY DESCRIPTIONS ContradictionKnots ANSWERS true, and leaves them as they were. -/
theorem contradictionKnots_said : Rows.ContradictionKnotsSaid := lawContradictionKnots.said
#print axioms contradictionKnots_said
end Go.Proofs.YtcghlfepfcagbaaGreat
