/- FOR ANY DESCRIPTIONS ContradictionLaws ANSWERS true, and leaves them as they were. -/
import Derived.Test.YtcghlfepfcagbaaGreatG10
import Derived.Test.YtcghlfepfcagbaaGreatShelf
namespace Go.Proofs.YtcghlfepfcagbaaGreat
open Go Go.Jog
set_option maxRecDepth 100000

theorem inv_ok {C : Mem} {l : List Rel} {r : Value} (hE : errU l = 0) (h : InvRes C l r) : ∃ A c, r = .tuple #[.slice A (invL l).length c, .int .i64 0] ∧ Sl C 1 (.slice A (invL l).length c) ((invL l).map encN) := by
  rcases h with ⟨h, _⟩ | ⟨_, q, v, h1, h2, h3⟩
  · exact absurd hE h
  · have := invs_eq h1
    subst this
    obtain ⟨A, c, hqe, _⟩ := id h3
    rw [List.length_map] at hqe
    subst hqe
    exact ⟨A, c, h2, h3⟩
end Go.Proofs.YtcghlfepfcagbaaGreat
namespace Go.Proofs.YtcghlfepfcagbaaGreat
open Go Go.Jog
set_option maxRecDepth 100000

/-! ### Groups, plain -/
section
variable {α : Type}
structure Eqv (M : α → α → Bool) (K : List α) : Prop where
  refl : ∀ s ∈ K, M s s = true
  symm : ∀ s ∈ K, ∀ t ∈ K, M s t = true → M t s = true
  trans : ∀ s ∈ K, ∀ t ∈ K, ∀ u ∈ K, M s t = true → M t u = true → M s u = true
theorem Eqv.sub {M : α → α → Bool} {K R : List α} (h : Eqv M K) (hs : ∀ x ∈ R, x ∈ K) : Eqv M R :=
  ⟨fun s h1 => h.refl s (hs s h1), fun s h1 t h2 => h.symm s (hs s h1) t (hs t h2), fun s h1 t h2 u h3 => h.trans s (hs s h1) t (hs t h2) u (hs u h3)⟩
theorem find_filter {p q : α → Bool} : ∀ {K : List α}, (∀ x ∈ K, p x = true → q x = true) → (K.filter q).find? p = K.find? p
  | [], _ => rfl
  | x :: K, h => by
    have ih := find_filter (K := K) (fun y hy => h y (by simp [hy]))
    by_cases hp : p x = true
    · rw [List.filter_cons, if_pos (h x (by simp) hp), List.find?_cons, List.find?_cons, hp]
    · have hp' : p x = false := by simpa using hp
      rw [List.filter_cons]
      split
      · rw [List.find?_cons, List.find?_cons, hp', ih]
      · rw [List.find?_cons, hp', ih]
theorem filter_sub {p q : α → Bool} {K : List α} (h : ∀ x ∈ K, p x = true → q x = true) : (K.filter q).filter p = K.filter p := by
  rw [List.filter_filter]
  refine List.filter_congr (fun x hx => ?_)
  by_cases hp : p x = true
  · rw [hp, h x hx hp]; rfl
  · have hp' : p x = false := by simpa using hp
    rw [hp']; rfl
end
section
variable {α : Type} [DecidableEq α]
/-- The first of its group. -/
def fstB (M : α → α → Bool) (K : List α) (s : α) : Bool := decide (K.find? (M s) = some s)
/-- The groups of a part that holds whole groups. -/
theorem groups_part {M : α → α → Bool} {K : List α} {c : α → Bool} (hM : ∀ s ∈ K, ∀ t ∈ K, c s = true → M s t = true → c t = true) :
    (((K.filter c).filter (fstB M (K.filter c))).map fun s => (K.filter c).filter (M s)) = (K.filter fun s => c s && fstB M K s).map fun s => K.filter (M s) := by
  have h1 : (K.filter c).filter (fstB M (K.filter c)) = K.filter fun s => c s && fstB M K s := by
    rw [List.filter_filter]
    refine List.filter_congr (fun s hs => ?_)
    by_cases hc : c s = true
    · rw [hc, Bool.and_true, Bool.true_and]
      unfold fstB
      rw [find_filter (fun t ht hm => hM s hs t ht hc hm)]
    · have hc' : c s = false := by simpa using hc
      rw [hc']; simp
  rw [h1]
  refine List.map_congr_left (fun s hs => ?_)
  rw [List.mem_filter, Bool.and_eq_true] at hs
  exact filter_sub (fun t ht hm => hM s hs.1 t ht hs.2.1 hm)
end
theorem knF_groups {l : List Rel} : ∀ {f : Nat} {K : List Str}, K.length ≤ f → K.Nodup → Eqv (mutB l) K → knF l f K = (K.filter (fstB (mutB l) K)).map fun s => K.filter (mutB l s)
  | 0, K, hf, _, _ => by
    have : K = [] := List.eq_nil_of_length_eq_zero (by omega)
    subst this; rfl
  | f + 1, [], _, _, _ => rfl
  | f + 1, a :: r, hf, hn, hE => by
    have hr := hE.refl a (by simp)
    have hn2 := List.nodup_cons.1 hn
    obtain ⟨R, hR⟩ : ∃ R, (a :: r).filter (fun u => !mutB l a u) = R := ⟨_, rfl⟩
    have hRr : R = r.filter fun u => !mutB l a u := by rw [← hR, List.filter_cons, hr]; rfl
    have hsub : ∀ x ∈ R, x ∈ a :: r := fun x hx => by rw [← hR] at hx; exact (List.mem_filter.1 hx).1
    have hRl : R.length ≤ f := by
      rw [hRr]; have := List.length_filter_le (fun u => !mutB l a u) r; simp at hf; omega
    have hRn : R.Nodup := by rw [hRr]; exact hn2.2.filter _
    have ih := knF_groups hRl hRn (hE.sub hsub)
    show (a :: r).filter (mutB l a) :: knF l f ((a :: r).filter fun u => !mutB l a u) = _
    rw [hR, ih]
    have hfa : fstB (mutB l) (a :: r) a = true := by unfold fstB; rw [List.find?_cons, hr]; simp
    conv => rhs; rw [List.filter_cons, if_pos hfa, List.map_cons]
    congr 1
    have hM : ∀ s ∈ a :: r, ∀ t ∈ a :: r, (!mutB l a s) = true → mutB l s t = true → (!mutB l a t) = true := fun s hs t ht h1 h2 => by
      rw [Bool.not_eq_true'] at h1 ⊢
      rw [Bool.eq_false_iff] at h1 ⊢
      intro h3
      exact h1 (hE.trans a (by simp) t ht s hs h3 (hE.symm s hs t ht h2))
    have hg := groups_part (M := mutB l) (K := a :: r) (c := fun u => !mutB l a u) hM
    rw [hR] at hg
    rw [hg, List.filter_cons]
    rw [if_neg (by simp [hr])]
    congr 1
    refine List.filter_congr (fun s hs => ?_)
    by_cases hm : mutB l a s = true
    · have : fstB (mutB l) (a :: r) s = false := by
        unfold fstB
        rw [List.find?_cons, hE.symm a (by simp) s (by simp [hs]) hm]
        simp
        intro e; subst e; exact hn2.1 hs
      rw [this]; simp
    · have hm' : mutB l a s = false := by simpa using hm
      rw [hm']; simp

/-! ### The law's groups -/
theorem reach_trans {l : List Rel} {s t u : Str} (hs : s ∈ unitsL l) (ht : t ∈ unitsL l) (hu : u ∈ unitsL l) (h : reachB l s t = true) (k : reachB l t u = true) : reachB l s u = true := by
  rw [reach_iff hs ht] at h
  rw [reach_iff ht hu] at k
  obtain ⟨x, h1, rfl⟩ := h
  obtain ⟨y, h3, h4⟩ := k
  exact (reach_iff hs hu).2 ⟨x ++ y, IsWay.append.2 ⟨h1, h3⟩, by rw [endL, endW_append]; exact h4⟩
theorem mut_eqv (l : List Rel) : Eqv (mutB l) (unitsL l) := ⟨fun s hs => by unfold mutB; rw [reach_self hs]; rfl, fun s _ t _ h => by unfold mutB at h ⊢; rw [Bool.and_comm]; exact h, fun s hs t ht u hu h k => by
  unfold mutB at h k ⊢
  rw [Bool.and_eq_true] at h k ⊢
  exact ⟨reach_trans hu ht hs k.1 h.1, reach_trans hs ht hu h.2 k.2⟩⟩
theorem reach_older {l : List Rel} {s t : Str} (hs : s ∈ unitsL l) (ht : t ∈ unitsL l) (hne : s ≠ t) : reachB l s t = olderB l s t := by
  rw [Bool.eq_iff_iff, reach_iff hs ht, older_iff]
  constructor
  · rintro ⟨x, h1, h2⟩
    refine ⟨x, h1, ?_, h2⟩
    cases x with
    | nil => exact absurd h2 hne
    | cons => simp
  · rintro ⟨x, h1, _, h2⟩; exact ⟨x, h1, h2⟩
def eqB (l : List Rel) (i j : Nat) : Bool := (i == j) || (olderB l (nameAt (unitsL l) i) (nameAt (unitsL l) j) && olderB l (nameAt (unitsL l) j) (nameAt (unitsL l) i))
theorem nameAt_mem {N : List Str} {i : Nat} (h : i < N.length) : nameAt N i ∈ N := List.mem_of_getElem? (nameAt_get h)
theorem eqB_mut {l : List Rel} {i j : Nat} (hi : i < (unitsL l).length) (hj : j < (unitsL l).length) : eqB l i j = mutB l (nameAt (unitsL l) i) (nameAt (unitsL l) j) := by
  have h1 := nameAt_mem hi
  have h2 := nameAt_mem hj
  unfold eqB mutB
  by_cases e : i = j
  · subst e; rw [reach_self h1]; simp
  · have hne : nameAt (unitsL l) i ≠ nameAt (unitsL l) j := fun h => e (nameAt_inj (unitsL_nodup l) hi hj h)
    rw [reach_older h1 h2 hne, reach_older h2 h1 (Ne.symm hne), Bool.and_comm]
    simp [e]
def grpN (l : List Rel) (i : Nat) : List Str := (idxs (eqB l i) (unitsL l).length).map (nameAt (unitsL l))
def firstI (l : List Rel) (i : Nat) : Bool := (idxs (eqB l i) (unitsL l).length).all fun q => decide (i ≤ q)
def okI (l : List Rel) (i : Nat) : Bool := firstI l i && decide (2 ≤ (grpN l i).length)
def knI (l : List Rel) (n : Nat) : List (List Str) := cat (fun i => oneIf (okI l i) (grpN l i)) n
theorem idxs_filter (p : Nat → Bool) : ∀ n, idxs p n = (List.range n).filter p
  | 0 => rfl
  | n + 1 => by
    rw [List.range_succ, List.filter_append, ← idxs_filter p n]
    by_cases h : p n = true
    · rw [idxs_true h]; simp [h]
    · have h' : p n = false := by simpa using h
      rw [idxs_false h']; simp [h']
theorem cat_oneIf {β : Type} (p : Nat → Bool) (f : Nat → β) : ∀ n, cat (fun i => oneIf (p i) (f i)) n = ((List.range n).filter p).map f
  | 0 => rfl
  | n + 1 => by
    rw [cat_succ, cat_oneIf p f n, List.range_succ, List.filter_append, List.map_append]
    congr 1
    by_cases h : p n = true
    · rw [oneIf_true h]; simp [h]
    · have h' : p n = false := by simpa using h
      rw [oneIf_false h']; simp [h']
theorem range_names (N : List Str) : (List.range N.length).map (nameAt N) = N := by
  refine List.ext_getElem? (fun i => ?_)
  rw [List.getElem?_map]
  rcases Nat.lt_or_ge i N.length with h | h
  · rw [List.getElem?_range h, nameAt_get h]; rfl
  · rw [List.getElem?_eq_none (by simpa using h), List.getElem?_eq_none h]; rfl
theorem grp_eq {l : List Rel} {i : Nat} (hi : i < (unitsL l).length) : grpN l i = (unitsL l).filter (mutB l (nameAt (unitsL l) i)) := by
  unfold grpN
  have e : (unitsL l).filter (mutB l (nameAt (unitsL l) i)) = ((List.range (unitsL l).length).filter (mutB l (nameAt (unitsL l) i) ∘ nameAt (unitsL l))).map (nameAt (unitsL l)) := by
    rw [← List.filter_map, range_names]
  rw [idxs_filter, e]
  congr 1
  refine List.filter_congr (fun j hj => ?_)
  exact eqB_mut hi (List.mem_range.1 hj)
theorem first_eq {l : List Rel} {i : Nat} (hi : i < (unitsL l).length) : firstI l i = fstB (mutB l) (unitsL l) (nameAt (unitsL l) i) := by
  rw [Bool.eq_iff_iff]
  unfold firstI fstB
  rw [List.all_eq_true, decide_eq_true_eq, List.find?_eq_some_iff_getElem]
  have hself : mutB l (nameAt (unitsL l) i) (nameAt (unitsL l) i) = true := (mut_eqv l).refl _ (nameAt_mem hi)
  constructor
  · intro h
    refine ⟨hself, i, hi, (List.getElem?_eq_some_iff.1 (nameAt_get hi)).2, fun j hj => ?_⟩
    rw [Bool.not_eq_true', Bool.eq_false_iff]
    intro hm
    have hj2 : j < (unitsL l).length := by omega
    have := h j (idxs_mem.2 ⟨hj2, by rw [eqB_mut hi hj2]; rw [(List.getElem?_eq_some_iff.1 (nameAt_get hj2)).2] at hm; exact hm⟩)
    simp at this; omega
  · rintro ⟨_, k, hk, he, hno⟩ q hq
    obtain ⟨hq1, hq2⟩ := idxs_mem.1 hq
    have hki : k = i := nameAt_inj (unitsL_nodup l) hk hi (by rw [← he]; exact (List.getElem?_eq_some_iff.1 (nameAt_get hk)).2.symm)
    subst hki
    rw [decide_eq_true_eq]
    rcases Nat.lt_or_ge q k with h | h
    · have := hno q h
      rw [eqB_mut hi hq1] at hq2
      rw [(List.getElem?_eq_some_iff.1 (nameAt_get hq1)).2, hq2] at this
      cases this
    · exact h
/-- A unit is in a cycle just where its group has two or more. -/
theorem group_two {l : List Rel} (hM : Made l) {s : Str} (hs : s ∈ unitsL l) : decide (2 ≤ ((unitsL l).filter (mutB l s)).length) = decide (s ∈ (invL l).map (lowOf l)) := by
  have hn : ((unitsL l).filter (mutB l s)).Nodup := (unitsL_nodup l).filter _
  rw [Bool.eq_iff_iff, decide_eq_true_eq, decide_eq_true_eq]
  have hin : s ∈ (invL l).map (lowOf l) ↔ ∃ k ∈ fromL l s, reachB l (upOf l k) s = true := by
    constructor
    · intro h
      obtain ⟨i, hi, rfl⟩ := List.mem_map.1 h
      have h2 := (idxs_mem.1 hi).2
      unfold invB at h2
      rw [Bool.and_eq_true] at h2
      exact ⟨i, arcB_from.1 h2.1, h2.2⟩
    · rintro ⟨k, h1, h2⟩
      have hl := from_low _ _ h1
      refine List.mem_map.2 ⟨k, idxs_mem.2 ⟨from_lt _ _ h1, ?_⟩, hl⟩
      unfold invB
      rw [Bool.and_eq_true]
      exact ⟨arcB_from.2 (by rw [hl]; exact h1), by rw [hl]; exact h2⟩
  rw [hin]
  constructor
  · intro h
    obtain ⟨t, ht, hne⟩ : ∃ t ∈ (unitsL l).filter (mutB l s), t ≠ s := by
      apply Classical.byContradiction
      intro hc
      have : ∀ t ∈ (unitsL l).filter (mutB l s), t ∈ [s] := fun t ht => by
        by_cases e : t = s
        · simp [e]
        · exact absurd ⟨t, ht, e⟩ hc
      have := List.Nodup.length_le_of_subset hn this
      simp at this; omega
    rw [List.mem_filter] at ht
    obtain ⟨htu, htm⟩ := ht
    unfold mutB at htm
    rw [Bool.and_eq_true] at htm
    obtain ⟨x, x1, x2⟩ := (reach_iff hs htu).1 htm.2
    cases x with
    | nil => exact absurd x2.symm hne
    | cons k x =>
      have hu := up_unit x1.1
      exact ⟨k, x1.1, reach_trans hu htu hs ((reach_iff hu htu).2 ⟨x, x1.2, x2⟩) htm.1⟩
  · rintro ⟨k, h1, h2⟩
    have hu := up_unit h1
    obtain ⟨x, hx1, hx2, hx3⟩ := mem_from.1 h1
    have hne : upOf l k ≠ s := fun e => by
      have ha : (⟨k, posS (unitsL l) x.lower, posS (unitsL l) x.upper⟩ : Arc3) ∈ arcsOf l := mem_arcs3.2 ⟨x, hx1, hx2, rfl⟩
      have e2 : upOf l k = x.upper := by unfold upOf; rw [hx1]
      have := hM.self _ ha
      apply this
      show posS (unitsL l) x.upper = posS (unitsL l) x.lower
      rw [← e2, e, hx3]
    have hsu : reachB l s (upOf l k) = true := (reach_iff hs hu).2 ⟨[k], ⟨h1, trivial⟩, rfl⟩
    have := List.Nodup.length_le_of_subset (l₁ := [s, upOf l k]) (l₂ := (unitsL l).filter (mutB l s)) (by simp [Ne.symm hne]) (fun t ht => by
      rw [List.mem_filter]
      simp at ht
      rcases ht with rfl | rfl
      · exact ⟨hs, (mut_eqv l).refl _ hs⟩
      · exact ⟨hu, by unfold mutB; rw [h2, hsu]; rfl⟩)
    simpa using this
theorem knots_law {l : List Rel} (hM : Made l) : knF l (inU l (invL l)).length (inU l (invL l)) = knI l (unitsL l).length := by
  have hE := mut_eqv l
  have hsub : ∀ x ∈ inU l (invL l), x ∈ unitsL l := inU_sub
  have hnd : (inU l (invL l)).Nodup := (unitsL_nodup l).filter _
  rw [knF_groups (Nat.le_refl (inU l (invL l)).length) hnd (hE.sub hsub)]
  unfold inU
  have hc : ∀ s ∈ unitsL l, ∀ t ∈ unitsL l, decide (s ∈ (invL l).map (lowOf l)) = true → mutB l s t = true → decide (t ∈ (invL l).map (lowOf l)) = true := fun s hs t ht h1 h2 => by
    rw [← group_two hM hs] at h1
    rw [← group_two hM ht]
    have : (unitsL l).filter (mutB l t) = (unitsL l).filter (mutB l s) := List.filter_congr (fun u hu => by
      rw [Bool.eq_iff_iff]
      exact ⟨fun h => hE.trans s hs t ht u hu h2 h, fun h => hE.trans t ht s hs u hu (hE.symm s hs t ht h2) h⟩)
    rw [this]; exact h1
  rw [groups_part hc]
  unfold knI
  rw [cat_oneIf]
  have e : (unitsL l).filter (fun s => decide (s ∈ (invL l).map (lowOf l)) && fstB (mutB l) (unitsL l) s) = ((List.range (unitsL l).length).filter ((fun s => decide (s ∈ (invL l).map (lowOf l)) && fstB (mutB l) (unitsL l) s) ∘ nameAt (unitsL l))).map (nameAt (unitsL l)) := by
    rw [← List.filter_map, range_names]
  have hf : (List.range (unitsL l).length).filter ((fun s => decide (s ∈ (invL l).map (lowOf l)) && fstB (mutB l) (unitsL l) s) ∘ nameAt (unitsL l)) = (List.range (unitsL l).length).filter (okI l) := List.filter_congr (fun i hi => by
    have hil := List.mem_range.1 hi
    simp only [Function.comp]
    unfold okI
    rw [first_eq hil, grp_eq hil, group_two hM (nameAt_mem hil), Bool.and_comm])
  rw [e, hf, List.map_map]
  refine List.map_congr_left (fun i hi => ?_)
  have hil := List.mem_range.1 (List.mem_filter.1 hi).1
  rw [grp_eq hil]; rfl

theorem OutS.at {C : Mem} {ov : List Value} {outs : List (List Str)} (h : OutS C ov outs) {j : Nat} {o : List Str} (ho : outs[j]? = some o) : ∃ A c, (ov.map fun x => [x])[j]? = some [.slice A o.length c] ∧ Sl C 1 (.slice A o.length c) (o.map encS) := by
  have hj := (List.getElem?_eq_some_iff.1 ho).1
  have hv : ov[j]? = some (ov[j]'(by rw [h.1]; exact hj)) := List.getElem?_eq_getElem _
  obtain ⟨A, c, he, _⟩ := id (h.2 j _ o hv ho)
  rw [List.length_map] at he
  have hs := h.2 j _ o hv ho
  rw [he] at hs hv
  exact ⟨A, c, by rw [List.getElem?_map, hv]; rfl, hs⟩
end Go.Proofs.YtcghlfepfcagbaaGreat
namespace Go.Proofs.YtcghlfepfcagbaaGreat
open Go Go.Jog
set_option maxRecDepth 100000

end Go.Proofs.YtcghlfepfcagbaaGreat
namespace Go.Proofs.YtcghlfepfcagbaaGreat
open Go Go.Jog
set_option maxRecDepth 100000

def woS (l : List Rel) (st : List Int) : List Rel := if chkE l st = 0 then woL l (natsOf st) else []
theorem wo_ok {C : Mem} {l : List Rel} {st : List Int} {r : Value} (h : WoRes C l st r) : ∃ A c, r = .tuple #[.slice A (woS l st).length c, .int .i64 (chkE l st)] ∧ Sl C 3 (.slice A (woS l st).length c) ((woS l st).map Rel.enc) := by
  unfold woS
  rcases h with ⟨h, rfl⟩ | ⟨h, v, rfl, hs⟩
  · rw [if_neg h]; exact ⟨none, 0, rfl, Sl.nil _ _⟩
  · rw [if_pos h, h]
    obtain ⟨A, c, hqe, _⟩ := id hs
    rw [List.length_map] at hqe
    subst hqe
    exact ⟨A, c, rfl, hs⟩
theorem need_val {l : List Rel} {st : List Int} {r : Value} (h : NeedRes l st r) : r = .tuple #[.bool (decide (chkE l st = 0) && needB l (natsOf st)), .int .i64 (chkE l st)] := by
  rcases h with ⟨h, rfl⟩ | ⟨h, rfl⟩
  · rw [decide_eq_false h]; rfl
  · rw [h]; simp
end Go.Proofs.YtcghlfepfcagbaaGreat
namespace Go.Proofs.YtcghlfepfcagbaaGreat
open Go Go.Jog
set_option maxRecDepth 100000

/-! ### What is left, by its indices -/
def phiI (l : List Rel) (g : List Nat) (k : Nat) : Nat := (leftI g l.length).getD k 0
theorem left_mem {n i : Nat} {g : List Nat} : i ∈ leftI g n ↔ i < n ∧ i ∉ g := by
  unfold leftI
  rw [idxs_mem, decide_eq_true_eq]
theorem woL_map (l : List Rel) (g : List Nat) : woL l g = (leftI g l.length).map fun i => l.getD i ⟨0, [], []⟩ := by
  unfold woL leftI idxs
  rw [cat_map']
  refine cat_congr (fun i hi => ?_)
  unfold woAt
  rw [List.getElem?_eq_getElem hi, oneIf_map]
  simp only
  have h1 : l.getD i ⟨0, [], []⟩ = l[i] := by rw [List.getD_eq_getElem?_getD, List.getElem?_eq_getElem hi]; rfl
  rw [h1]
  congr 1
  by_cases h : i ∈ g <;> simp [h]
theorem wo_get {l : List Rel} {g : List Nat} {k : Nat} {x : Rel} : (woL l g)[k]? = some x ↔ ∃ i, (leftI g l.length)[k]? = some i ∧ l[i]? = some x := by
  rw [woL_map, List.getElem?_map]
  cases hk : (leftI g l.length)[k]? with
  | none => simp
  | some i =>
    have hi := (left_mem.1 (List.mem_of_getElem? hk)).1
    have h1 : l.getD i ⟨0, [], []⟩ = l[i] := by rw [List.getD_eq_getElem?_getD, List.getElem?_eq_getElem hi]; rfl
    constructor
    · intro h
      simp only [Option.map_some, Option.some.injEq] at h
      exact ⟨i, rfl, by rw [← h, h1]; exact List.getElem?_eq_getElem hi⟩
    · rintro ⟨j, h2, h3⟩
      cases h2
      simp only [Option.map_some, Option.some.injEq]
      rw [h1]
      rw [List.getElem?_eq_getElem hi] at h3
      exact Option.some.inj h3
theorem phi_at {l : List Rel} {g : List Nat} {k i : Nat} (h : (leftI g l.length)[k]? = some i) : phiI l g k = i := by unfold phiI; rw [List.getD_eq_getElem?_getD, h]; rfl
theorem wo_from {l : List Rel} {g : List Nat} {s : Str} {k : Nat} (h : k ∈ fromL (woL l g) s) : phiI l g k ∈ fromL l s ∧ phiI l g k ∉ g ∧ upOf (woL l g) k = upOf l (phiI l g k) := by
  obtain ⟨x, h1, h2, h3⟩ := mem_from.1 h
  obtain ⟨i, h4, h5⟩ := wo_get.1 h1
  rw [phi_at h4]
  refine ⟨mem_from.2 ⟨x, h5, h2, h3⟩, (left_mem.1 (List.mem_of_getElem? h4)).2, ?_⟩
  unfold upOf; rw [h1, h5]
theorem wo_way {l : List Rel} {g : List Nat} : ∀ {x : List Nat} {s : Str}, WayL (woL l g) s x → WayL l s (x.map (phiI l g)) ∧ endL (woL l g) s x = endL l s (x.map (phiI l g)) ∧ ∀ k ∈ x.map (phiI l g), k ∉ g
  | [], s, _ => ⟨trivial, rfl, fun k hk => by cases hk⟩
  | k :: x, s, h => by
    obtain ⟨h1, h2, h3⟩ := wo_from h.1
    obtain ⟨h4, h5, h6⟩ := wo_way h.2
    rw [h3] at h4 h5
    refine ⟨⟨h1, h4⟩, ?_, fun j hj => ?_⟩
    · show endW (upOf (woL l g)) (upOf (woL l g) k) x = endW (upOf l) (upOf l (phiI l g k)) (x.map (phiI l g))
      rw [h3]; exact h5
    · rcases List.mem_cons.1 hj with rfl | hj
      · exact h2
      · exact h6 j hj
theorem way_wo {l : List Rel} {g : List Nat} : ∀ {y : List Nat} {s : Str}, WayL l s y → (∀ k ∈ y, k ∉ g) → ∃ x, WayL (woL l g) s x ∧ x.length = y.length ∧ endL (woL l g) s x = endL l s y
  | [], s, _, _ => ⟨[], trivial, rfl, rfl⟩
  | i :: y, s, h, hg => by
    obtain ⟨r, h1, h2, h3⟩ := mem_from.1 h.1
    have hi := (List.getElem?_eq_some_iff.1 h1).1
    obtain ⟨k, hk⟩ := List.getElem?_of_mem (left_mem.2 ⟨hi, hg i (by simp)⟩)
    have hw := wo_get.2 ⟨i, hk, h1⟩
    obtain ⟨x, k1, k2, k3⟩ := way_wo (g := g) h.2 (fun j hj => hg j (by simp [hj]))
    have hu : upOf (woL l g) k = upOf l i := by unfold upOf; rw [hw, h1]
    refine ⟨k :: x, ⟨mem_from.2 ⟨r, hw, h2, h3⟩, by rw [hu]; exact k1⟩, by simp [k2], ?_⟩
    show endW (upOf (woL l g)) (upOf (woL l g) k) x = _
    rw [hu]; exact k3
theorem back_way {l : List Rel} : Back (arcsOf l) ↔ ∃ s x, WayL l s x ∧ 0 < x.length ∧ endL l s x = s := by
  constructor
  · rintro ⟨k, w, hk, p, hi, hl, hc⟩
    cases p with
    | nil => simp at hl; omega
    | cons a p =>
      have ha := (In.cons.1 hi).1
      obtain ⟨x, h1, h2, h3⟩ := mem_arcs3.1 ha
      have hmu := mem_units (List.mem_of_getElem? h1)
      have hw : w = posS (unitsL l) x.lower := by rw [← hc.1, h3]
      subst hw
      obtain ⟨k1, k2, k3⟩ := way_of_chain hmu.1 hi hc
      exact ⟨x.lower, nums (a :: p), k1, by simp [nums], (pos_inj k2 hmu.1 k3.symm)⟩
  · rintro ⟨s, x, h1, h2, h3⟩
    cases x with
    | nil => simp at h2
    | cons k x =>
      have hs := low_unit h1.1
      exact ⟨_, posS (unitsL l) s, h2, (walk_way hs hs).2 ⟨k :: x, h1, rfl, h3⟩⟩
theorem noneB_iff {l : List Rel} {g : List Nat} (hl : l.length ≤ 100000) : noneB l g = true ↔ ¬ ∃ s y, WayL l s y ∧ 0 < y.length ∧ endL l s y = s ∧ ∀ k ∈ y, k ∉ g := by
  have hwl := woL_len l g
  unfold noneB
  rw [decide_eq_true_eq, ← Classical.not_not (a := cycL (woL l g) = []), ← Ne, cycL_ne (by omega), back_way]
  refine not_congr ⟨?_, ?_⟩
  · rintro ⟨s, x, h1, h2, h3⟩
    obtain ⟨k1, k2, k3⟩ := wo_way h1
    exact ⟨s, x.map (phiI l g), k1, by simpa using h2, by rw [← k2]; exact h3, k3⟩
  · rintro ⟨s, y, h1, h2, h3, h4⟩
    obtain ⟨x, k1, k2, k3⟩ := way_wo h1 h4
    exact ⟨s, x, k1, by omega, by rw [k3]; exact h3⟩
/-- A cycle of what is left is hit by each set that repairs. -/
theorem hit {l : List Rel} {g s : List Nat} (hl : l.length ≤ 100000) (hc : ¬ cycL (woL l g) = []) (hs : noneB l s = true) : ∃ k ∈ cyc0 (woL l g), phiI l g k ∈ s ∧ phiI l g k ∉ g ∧ phiI l g k < l.length := by
  have hwl := woL_len l g
  obtain ⟨m, hsm⟩ := short_ex (woL l g)
  have hm : 0 < m := (short_back hsm).2 ((cycL_ne (by omega)).1 hc)
  obtain ⟨c, r, hcr⟩ : ∃ c r, cycL (woL l g) = c :: r := by
    cases h : cycL (woL l g) with
    | nil => exact absurd h hc
    | cons c r => exact ⟨c, r, rfl⟩
  have hc0 : cyc0 (woL l g) = c := by unfold cyc0; rw [hcr]; rfl
  rw [cycL_eq (by omega) hsm] at hcr
  obtain ⟨p, h1, h2, h3⟩ := (cycAll_mem hsm hm (c := c)).1 (by rw [hcr]; simp)
  obtain ⟨a, q, rfl, hi, hch, _⟩ := h1
  obtain ⟨x, k1, k2, k3⟩ := mem_arcs3.1 (In.cons.1 hi).1
  have hmu := mem_units (List.mem_of_getElem? k1)
  have hal : a.lo = posS (unitsL (woL l g)) x.lower := by rw [k3]
  rw [hal] at hch
  obtain ⟨j1, j2, j3⟩ := way_of_chain hmu.1 hi hch
  have hend := (pos_inj j2 hmu.1 j3.symm)
  rw [h3] at j1 hend
  obtain ⟨w1, w2, w3⟩ := wo_way j1
  rw [hc0]
  apply Classical.byContradiction
  intro hno
  rw [noneB_iff hl] at hs
  apply hs
  refine ⟨x.lower, c.map (phiI l g), w1, by rw [← h3]; simp [nums], by rw [← w2]; exact hend, fun k hk hks => ?_⟩
  obtain ⟨k', hk', rfl⟩ := List.mem_map.1 hk
  exact hno ⟨k', hk', hks, w3 _ hk, by
    have := (cyc0_in (l := woL l g) (by omega)).1 k' (by rw [hc0]; exact hk')
    rw [← left_len] at this
    unfold phiI
    rw [List.getD_eq_getElem?_getD, List.getElem?_eq_getElem this]
    exact (left_mem.1 (List.getElem_mem this)).1⟩

/-! ### Sorted sets -/
theorem sortN_sorted {g : List Nat} (hn : g.Nodup) : (sortN g).Pairwise (· < ·) := by
  have h1 : (sortN g).Pairwise (fun x y => decide (x ≤ y) = true) := List.pairwise_mergeSort (le := fun x y : Nat => decide (x ≤ y)) (fun a b c h1 h2 => by simp only [decide_eq_true_eq] at *; omega) (fun a b => by simp only [Bool.or_eq_true, decide_eq_true_eq]; omega) g
  have h2 : (sortN g).Nodup := (List.mergeSort_perm g _).nodup_iff.2 hn
  refine (List.Pairwise.and h2 h1).imp (fun {a b} h => ?_)
  have := h.2
  simp only [decide_eq_true_eq] at this
  have := h.1
  omega
theorem sortN_eq {g s : List Nat} (hn : g.Nodup) (hs : s.Pairwise (· < ·)) (h : ∀ x, x ∈ g ↔ x ∈ s) : sortN g = s :=
  idx_unique (sortN_sorted hn) hs (fun x => by rw [sortN_mem]; exact h x)
theorem woL_congr {l : List Rel} {g s : List Nat} (h : ∀ x, x ∈ g ↔ x ∈ s) : woL l g = woL l s := cat_congr (fun i _ => by
  unfold woAt
  split
  · congr 2
    rw [Bool.eq_iff_iff, decide_eq_true_eq, decide_eq_true_eq]; exact h i
  · rfl)
theorem noneB_congr {l : List Rel} {g s : List Nat} (h : ∀ x, x ∈ g ↔ x ∈ s) : noneB l g = noneB l s := by unfold noneB; rw [woL_congr h]
/-- Sets that repair, of some size. -/
def Rep (l : List Rel) (n : Nat) (s : List Nat) : Prop := s.Pairwise (· < ·) ∧ (∀ x ∈ s, x < l.length) ∧ s.length = n ∧ noneB l s = true
theorem sub_perm {g s : List Nat} (hg : g.Nodup) (h : ∀ x ∈ g, x ∈ s) (hl : s.length ≤ g.length) : ∀ x, x ∈ g ↔ x ∈ s := fun x => ⟨h x, fun hx => by
  apply Classical.byContradiction
  intro hxg
  have := List.Nodup.length_le_of_subset (l₁ := x :: g) (l₂ := s) (List.nodup_cons.2 ⟨hxg, hg⟩) (fun y hy => by
    rcases List.mem_cons.1 hy with rfl | hy
    · exact hx
    · exact h y hy)
  simp at this; omega⟩
theorem setsF_complete {l : List Rel} (hl : l.length ≤ 100000) {n : Nat} {s : List Nat} (hs : Rep l n s) (hmin : ∀ k t, k < n → ¬ Rep l k t) : ∀ (m : Nat) (g : List Nat), g.Nodup → (∀ x ∈ g, x ∈ s) → n ≤ g.length + m → s ∈ setsF l m g := by
  intro m
  induction m with
  | zero =>
    intro g hg hgs hlen
    have hp := sub_perm hg hgs (by rw [hs.2.2.1]; omega)
    have hc : cycL (woL l g) = [] := by
      have := hs.2.2.2
      rw [← noneB_congr hp] at this
      simpa [noneB] using this
    simp only [setsF]
    rw [if_pos hc, sortN_eq hg hs.1 hp]; simp
  | succ m ih =>
    intro g hg hgs hlen
    simp only [setsF]
    by_cases hc : cycL (woL l g) = []
    · rw [if_pos hc]
      have hgl : n ≤ g.length := by
        rcases Nat.lt_or_ge g.length n with h | h
        · exfalso
          refine hmin g.length (sortN g) h ⟨sortN_sorted hg, fun x hx => hs.2.1 x (hgs x (sortN_mem.1 hx)), by simp [sortN], ?_⟩
          rw [noneB_congr (s := g) (fun x => sortN_mem)]
          simpa [noneB] using hc
        · exact h
      have hp := sub_perm hg hgs (by rw [hs.2.2.1]; omega)
      rw [sortN_eq hg hs.1 hp]; simp
    · rw [if_neg hc, List.mem_flatMap]
      obtain ⟨k, h1, h2, h3, _⟩ := hit hl hc hs.2.2.2
      refine ⟨k, h1, ih _ ?_ ?_ ?_⟩
      · rw [List.nodup_append]
        exact ⟨hg, by simp, fun a ha b hb e => by rw [List.mem_singleton.1 hb] at e; subst e; exact h3 ha⟩
      · intro x hx
        rcases List.mem_append.1 hx with hx | hx
        · exact hgs x hx
        · rw [List.mem_singleton.1 hx]; exact h2
      · simp; omega
theorem setsF_sound {l : List Rel} (hl : l.length ≤ 100000) : ∀ (m : Nat) (g : List Nat), g.Nodup → (∀ x ∈ g, x < l.length) → ∀ t ∈ setsF l m g, ∃ k, k ≤ g.length + m ∧ Rep l k t := by
  have leaf : ∀ (m : Nat) (g : List Nat), g.Nodup → (∀ x ∈ g, x < l.length) → cycL (woL l g) = [] → ∃ k, k ≤ g.length + m ∧ Rep l k (sortN g) := fun m g hg hgl hc =>
    ⟨g.length, by omega, sortN_sorted hg, fun x hx => hgl x (sortN_mem.1 hx), by simp [sortN], by
      rw [noneB_congr (s := g) (fun x => sortN_mem)]
      simpa [noneB] using hc⟩
  intro m
  induction m with
  | zero =>
    intro g hg hgl t ht
    simp only [setsF] at ht
    split at ht
    · rename_i hc; rw [List.mem_singleton.1 ht]; exact leaf 0 g hg hgl hc
    · cases ht
  | succ m ih =>
    intro g hg hgl t ht
    simp only [setsF] at ht
    split at ht
    · rename_i hc; rw [List.mem_singleton.1 ht]; exact leaf _ g hg hgl hc
    · obtain ⟨k, hk, ht⟩ := List.mem_flatMap.1 ht
      have hwl := woL_len l g
      have hkl := (cyc0_in (l := woL l g) (by omega)).1 k hk
      rw [← left_len] at hkl
      have hat : (leftI g l.length)[k]? = some (leftI g l.length)[k] := List.getElem?_eq_getElem hkl
      have hm := left_mem.1 (List.getElem_mem hkl)
      have hgd : (leftI g l.length).getD k 0 = (leftI g l.length)[k] := by rw [List.getD_eq_getElem?_getD, hat]; rfl
      obtain ⟨q, h1, h2⟩ := ih (g ++ [(leftI g l.length).getD k 0]) (by
        rw [List.nodup_append, hgd]
        exact ⟨hg, by simp, fun a ha b hb e => by rw [List.mem_singleton.1 hb] at e; subst e; exact hm.2 ha⟩) (fun x hx => by
        rcases List.mem_append.1 hx with hx | hx
        · exact hgl x hx
        · rw [List.mem_singleton.1 hx, hgd]; exact hm.1) t ht
      exact ⟨q, by simp at h1; omega, h2⟩
theorem sets_mem {l : List Rel} (hl : l.length ≤ 100000) {n : Nat} (hmin : ∀ k t, k < n → ¬ Rep l k t) {s : List Nat} : s ∈ setsF l n [] ↔ Rep l n s := by
  constructor
  · intro h
    obtain ⟨k, h1, h2⟩ := setsF_sound hl n [] List.nodup_nil (fun x hx => by cases hx) s h
    have hk : k = n := by
      rcases Nat.lt_or_ge k n with h3 | h3
      · exact absurd h2 (hmin k s h3)
      · simp at h1; omega
    rw [hk] at h2; exact h2
  · intro h
    exact setsF_complete hl h hmin n [] List.nodup_nil (fun x hx => by cases hx) (by simp)
theorem repL_sorted (l : List Rel) (n : Nat) : (repL l n).Pairwise fun x y => cmpL x y < 0 := tot_cmpL.setL_strict _
theorem mem_repL {l : List Rel} {n : Nat} {s : List Nat} : s ∈ repL l n ↔ s ∈ setsF l n [] := mem_setL
end Go.Proofs.YtcghlfepfcagbaaGreat
namespace Go.Proofs.YtcghlfepfcagbaaGreat
open Go Go.Jog
set_option maxRecDepth 100000

theorem OutN.append {C : Mem} {a b : List Value} {la lb : List (List Nat)} (h : OutN C a la) (k : OutN C b lb) : OutN C (a ++ b) (la ++ lb) := by
  have h0 := h.1
  refine ⟨by simp [h0, k.1], fun j v o h1 h2 => ?_⟩
  rcases Nat.lt_or_ge j a.length with hlt | hge
  · rw [List.getElem?_append_left hlt] at h1
    rw [List.getElem?_append_left (by omega)] at h2
    exact h.2 j v o h1 h2
  · rw [List.getElem?_append_right hge] at h1
    rw [List.getElem?_append_right (by omega), ← h0] at h2
    exact k.2 _ v o h1 h2
theorem OutN.take {C : Mem} {a : List Value} {la : List (List Nat)} (h : OutN C a la) (n : Nat) : OutN C (a.take n) (la.take n) := by
  refine ⟨by simp [h.1], fun j v o h1 h2 => ?_⟩
  rw [List.getElem?_take] at h1 h2
  split at h1
  · rename_i hj; rw [if_pos hj] at h2; exact h.2 j v o h1 h2
  · cases h1
theorem OutN.drop {C : Mem} {a : List Value} {la : List (List Nat)} (h : OutN C a la) (n : Nat) : OutN C (a.drop n) (la.drop n) := by
  refine ⟨by simp [h.1], fun j v o h1 h2 => ?_⟩
  rw [List.getElem?_drop] at h1 h2
  exact h.2 _ v o h1 h2
theorem OutN.one {C : Mem} {v : Value} {o : List Nat} (h : Sl C 1 v (o.map encN)) : OutN C [v] [o] := by
  refine ⟨rfl, fun j v' o' h1 h2 => ?_⟩
  cases j with
  | zero => simp at h1 h2; subst h1; subst h2; exact h
  | succ j => simp at h1
theorem OutN.oneB {C : Mem} {a : List Value} {la : List (List Nat)} (h : OutN C a la) : (a.map fun x => [x]).all (fun r => r.all oneB) = true := by
  rw [List.all_eq_true]
  intro r hr
  obtain ⟨v, hv, rfl⟩ := List.mem_map.1 hr
  obtain ⟨j, hj⟩ := List.getElem?_of_mem hv
  have hjl := (List.getElem?_eq_some_iff.1 hj).1
  obtain ⟨A, c, h1, _⟩ := h.2 j v _ hj (List.getElem?_eq_getElem (by rw [← h.1]; exact hjl))
  rw [h1]; rfl
end Go.Proofs.YtcghlfepfcagbaaGreat
namespace Go.Proofs.YtcghlfepfcagbaaGreat
open Go Go.Jog
set_option maxRecDepth 100000

def bitsI (b n : Nat) : List Nat := idxs (fun i => b.testBit i) n
theorem bits_mask {s : List Nat} {n : Nat} (hs : s.Pairwise (· < ·)) (h : ∀ x ∈ s, x < n) : bitsI (maskN s) n = s ∧ maskN s < 2 ^ n := by
  refine ⟨idx_unique (idxs_sorted _ _) hs (fun x => ?_), Nat.lt_pow_two_of_testBit _ (fun i hi => ?_)⟩
  · unfold bitsI
    rw [idxs_mem, maskN_bit]
    exact ⟨fun h => h.2, fun h2 => ⟨h x h2, h2⟩⟩
  · rw [Bool.eq_false_iff]
    intro hb
    have := h i (maskN_bit.1 hb)
    omega
theorem rep_few {l : List Rel} (hl : l.length ≤ 8) {n : Nat} (hmin : ∀ k t, k < n → ¬ Rep l k t) : (repL l n).length ≤ 70 ∧ ∀ s ∈ repL l n, Rep l n s := by
  have hl5 : l.length ≤ 100000 := by omega
  have hmem : ∀ s ∈ repL l n, Rep l n s := fun s hs => (sets_mem hl5 hmin).1 (mem_repL.1 hs)
  refine ⟨?_, hmem⟩
  have hlt : ∀ s ∈ repL l n, (∀ k ∈ s, k < 8) ∧ s.Nodup ∧ s.length = n := fun s hs => by
    obtain ⟨h1, h2, h3, _⟩ := hmem s hs
    exact ⟨fun k hk => by have := h2 k hk; omega, h1.imp (fun h e => by omega), h3⟩
  have hnd : ((repL l n).map maskN).Nodup := by
    unfold List.Nodup
    rw [List.pairwise_map]
    refine List.Pairwise.imp_of_mem (fun {a b} ha hb hab e => ?_) (repL_sorted l n)
    obtain ⟨a1, a2, _, _⟩ := hmem a ha
    obtain ⟨b1, b2, _, _⟩ := hmem b hb
    have : a = b := by rw [← (bits_mask a1 a2).1, ← (bits_mask b1 b2).1, e]
    rw [this, (cmpL_eq b b).2 rfl] at hab
    omega
  rcases Nat.lt_or_ge 8 n with hm | hm
  · have : repL l n = [] := by
      refine List.eq_nil_iff_forall_not_mem.2 (fun s hs => ?_)
      obtain ⟨h1, h2, h3⟩ := hlt s hs
      have := List.Nodup.length_le_of_subset h2 (l₂ := List.range 8) (fun k hk => List.mem_range.2 (h1 k hk))
      simp at this; omega
    rw [this]; simp
  · have := List.Nodup.length_le_of_subset hnd (l₂ := (List.range 256).filter fun x => popN x == n) (fun x hx => by
      obtain ⟨s, hs, rfl⟩ := List.mem_map.1 hx
      obtain ⟨h1, h2, h3⟩ := hlt s hs
      rw [List.mem_filter, List.mem_range]
      exact ⟨maskN_lt h1, by rw [maskN_pop h1 h2, h3]; simp⟩)
    rw [List.length_map] at this
    exact Nat.le_trans this (pop_few n hm)
/-- What Repairs returns, for few relations. -/
def RepOf (l : List Rel) (RR : List (List Nat)) (e : Int) : Prop := (∃ n, n ≤ 4 ∧ (∀ k t, k < n → ¬ Rep l k t) ∧ (∃ s, Rep l n s) ∧ RR = repL l n ∧ e = 0) ∨ ((∀ k t, k < 5 → ¬ Rep l k t) ∧ RR = [] ∧ e = 4)
theorem invL_len (l : List Rel) : (invL l).length ≤ l.length := idxs_len _ _
theorem sets_iff {l : List Rel} (hl : l.length ≤ 100000) {n : Nat} (hmin : ∀ k, k < n → setsF l k [] = []) : ∀ k t, k < n → ¬ Rep l k t := by
  induction n with
  | zero => intro k t h; omega
  | succ n ih =>
    have ih2 := ih (fun k hk => hmin k (by omega))
    intro k t hk hr
    rcases Nat.lt_or_ge k n with h | h
    · exact ih2 k t h hr
    · have : k = n := by omega
      subst this
      have := (sets_mem hl ih2).2 hr
      rw [hmin k hk] at this; cases this
theorem reps_few {C : Mem} {l : List Rel} {r : Value} (hM : Made l) (h : RepsRes C l r) : ∃ A c RR e, r = .tuple #[.slice A RR.length c, .int .i64 e] ∧ LL C (.slice A RR.length c) RR ∧ RepOf l RR e := by
  have hl5 : l.length ≤ 100000 := by have := hM.1; omega
  have hi := invL_len l
  have hl8 := hM.1
  rcases reps_ok hM.err (by omega) h with ⟨n, h1, h2, h3, h4⟩ | ⟨h2, rfl⟩
  · have hmin := sets_iff hl5 h2
    obtain ⟨hf, hr⟩ := rep_few hl8 hmin
    rcases h4 with ⟨h4, _⟩ | ⟨_, v, rfl, hv⟩
    · omega
    · obtain ⟨ov, k1, k2⟩ := id hv
      obtain ⟨A, c, hqe, _⟩ := id k1
      rw [List.length_map, k2.1] at hqe
      subst hqe
      refine ⟨A, c, repL l n, 0, rfl, hv, .inl ⟨n, h1, hmin, ?_, rfl, rfl⟩⟩
      obtain ⟨s, hs⟩ := List.exists_mem_of_ne_nil _ h3
      exact ⟨s, (sets_mem hl5 hmin).1 hs⟩
  · exact ⟨none, 0, [], 4, rfl, LL.nil _, .inr ⟨sets_iff hl5 h2, rfl, rfl⟩⟩
end Go.Proofs.YtcghlfepfcagbaaGreat
namespace Go.Proofs.YtcghlfepfcagbaaGreat
open Go Go.Jog
set_option maxRecDepth 100000

/-- Both units of an involved relation are in one knot. -/
theorem inv_knot {l : List Rel} (hM : Made l) {i : Nat} (hi : i ∈ invL l) : ∃ o ∈ knI l (unitsL l).length, upOf l i ∈ o ∧ lowOf l i ∈ o := by
  obtain ⟨hil, hiv⟩ := idxs_mem.1 hi
  have hiv2 := hiv
  unfold invB at hiv2
  rw [Bool.and_eq_true] at hiv2
  obtain ⟨har, hre⟩ := hiv2
  obtain ⟨hlo, hup⟩ := low_of_arc hil
  have hlu : reachB l (lowOf l i) (upOf l i) = true := by
    rw [reach_iff hlo hup]
    obtain ⟨x, hx⟩ : ∃ x, l[i]? = some x := ⟨l[i], List.getElem?_eq_getElem hil⟩
    have hk : x.kind ≠ 4 := by
      have := arcB_at hx
      rw [har] at this
      simpa using this.symm
    have e2 : lowOf l i = x.lower := by unfold lowOf; rw [hx]
    exact ⟨[i], ⟨mem_from.2 ⟨x, hx, hk, e2.symm⟩, trivial⟩, rfl⟩
  have hE := mut_eqv l
  have hml : mutB l (lowOf l i) (upOf l i) = true := by unfold mutB; rw [hlu, hre]; rfl
  obtain ⟨s0, hs0⟩ : ∃ s0, (unitsL l).find? (mutB l (lowOf l i)) = some s0 := by
    cases h : (unitsL l).find? (mutB l (lowOf l i)) with
    | some s => exact ⟨s, rfl⟩
    | none =>
      rw [List.find?_eq_none] at h
      exact absurd (hE.refl _ hlo) (h _ hlo)
  have hm0 := List.find?_some hs0
  have hu0 := List.mem_of_find?_eq_some hs0
  have heq : ∀ t ∈ unitsL l, mutB l s0 t = mutB l (lowOf l i) t := fun t ht => by
    rw [Bool.eq_iff_iff]
    exact ⟨fun h => hE.trans _ hlo _ hu0 _ ht hm0 h, fun h => hE.trans _ hu0 _ hlo _ ht (hE.symm _ hlo _ hu0 hm0) h⟩
  have hfi : (unitsL l).filter (mutB l s0) = (unitsL l).filter (mutB l (lowOf l i)) := List.filter_congr heq
  have hfd : ∀ {K : List Str}, (∀ t ∈ K, mutB l s0 t = mutB l (lowOf l i) t) → K.find? (mutB l s0) = K.find? (mutB l (lowOf l i)) := fun {K} h => by
    induction K with
    | nil => rfl
    | cons a K ih =>
      simp only [List.find?_cons]
      rw [h a (by simp), ih (fun t ht => h t (by simp [ht]))]
  obtain ⟨j, hj⟩ := List.getElem?_of_mem hu0
  have hjl := (List.getElem?_eq_some_iff.1 hj).1
  have hjn : nameAt (unitsL l) j = s0 := by
    have := nameAt_get hjl
    rw [hj] at this
    exact (Option.some.inj this).symm
  have hg : grpN l j = (unitsL l).filter (mutB l (lowOf l i)) := by rw [grp_eq hjl, hjn, hfi]
  have hok : okI l j = true := by
    unfold okI
    rw [Bool.and_eq_true]
    constructor
    · rw [first_eq hjl, hjn]
      unfold fstB
      rw [hfd heq, hs0]; simp
    · rw [hg, group_two hM hlo]
      simp only [decide_eq_true_eq]
      exact List.mem_map_of_mem hi
  refine ⟨grpN l j, ?_, ?_, ?_⟩
  · unfold knI
    rw [mem_cat]
    exact ⟨j, hjl, mem_oneIf.2 ⟨hok, rfl⟩⟩
  · rw [hg, List.mem_filter]; exact ⟨hup, hml⟩
  · rw [hg, List.mem_filter]; exact ⟨hlo, hE.refl _ hlo⟩
theorem way_in_inv {l : List Rel} {s : Str} {y : List Nat} {x : Nat} (hy : WayL l s y) (he : endL l s y = s) (hx : x ∈ y) : x ∈ invL l := by
  obtain ⟨a, b, rfl⟩ := List.append_of_mem hx
  obtain ⟨h1, h2⟩ := IsWay.append.1 hy
  have h3 := h2.1
  obtain ⟨r, k1, k2, k3⟩ := mem_from.1 h3
  have hxl := (List.getElem?_eq_some_iff.1 k1).1
  have e2 : lowOf l x = r.lower := by unfold lowOf; rw [k1]
  have hend : endL l (upOf l x) b = s := by
    have : endL l s (a ++ x :: b) = endW (upOf l) (upOf l x) b := by
      show endW (upOf l) s (a ++ x :: b) = _
      rw [endW_append]; rfl
    exact this.symm.trans he
  refine idxs_mem.2 ⟨hxl, ?_⟩
  unfold invB
  rw [Bool.and_eq_true, arcB_at k1]
  obtain ⟨hl, hu⟩ := low_of_arc hxl
  refine ⟨by simp [k2], (reach_iff hu hl).2 ⟨b ++ a, IsWay.append.2 ⟨h2.2, ?_⟩, ?_⟩⟩
  · rw [show endW (upOf l) (upOf l x) b = s from hend]; exact h1
  · show endW (upOf l) (upOf l x) (b ++ a) = _
    rw [endW_append, show endW (upOf l) (upOf l x) b = s from hend, e2]; exact k3.symm
/-- A smallest repair has involved relations only. -/
theorem rep_inv {l : List Rel} {n : Nat} {s : List Nat} (hl : l.length ≤ 100000) (hs : Rep l n s) (hmin : ∀ k t, k < n → ¬ Rep l k t) {x : Nat} (hx : x ∈ s) : x ∈ invL l := by
  apply Classical.byContradiction
  intro hni
  have hlt : (s.filter fun y => decide (y ≠ x)).length < n := by
    rw [← hs.2.2.1]
    exact List.length_filter_lt_length_iff_exists.2 ⟨x, hx, by simp⟩
  refine hmin _ (s.filter fun y => decide (y ≠ x)) hlt ⟨hs.1.filter _, fun y hy => hs.2.1 y (List.mem_filter.1 hy).1, rfl, ?_⟩
  rw [noneB_iff hl]
  rintro ⟨u, y, h1, h2, h3, h4⟩
  refine (noneB_iff hl).1 hs.2.2.2 ⟨u, y, h1, h2, h3, fun k hk hks => ?_⟩
  by_cases e : k = x
  · subst e; exact hni (way_in_inv h1 h3 hk)
  · exact h4 k hk (List.mem_filter.2 ⟨hks, by simpa using e⟩)
theorem rep_need {l : List Rel} {n : Nat} {s : List Nat} (hs : Rep l n s) (hmin : ∀ k t, k < n → ¬ Rep l k t) : needB l s = true := by
  unfold needB
  rw [Bool.and_eq_true, List.all_eq_true]
  refine ⟨hs.2.2.2, fun i hi => ?_⟩
  have hil := List.mem_range.1 hi
  rw [Bool.not_eq_true', Bool.eq_false_iff]
  intro hno
  have hsub := List.eraseIdx_sublist s i
  have hln : (s.eraseIdx i).length = s.length - 1 := by rw [List.length_eraseIdx]; simp [hil]
  exact hmin (s.length - 1) (s.eraseIdx i) (by rw [← hs.2.2.1]; omega) ⟨hs.1.sublist hsub, fun y hy => hs.2.1 y (hsub.subset hy), hln, hno⟩
theorem asc_zero {m : Nat} {s : List Nat} (hs : s.Pairwise (· < ·)) (hm : ∀ x ∈ s, x < m) : ∀ k, setE m (s.map fun (x : Nat) => (x : Int)) k = 0
  | 0 => rfl
  | k + 1 => by
    simp only [setE]
    rw [if_neg (by rw [asc_zero hs hm k]; simp), List.getElem?_map]
    cases hx : s[k]? with
    | none => rfl
    | some x =>
      have := hm x (List.mem_of_getElem? hx)
      have hkl := (List.getElem?_eq_some_iff.1 hx).1
      show (if (x : Int) < 0 ∨ (m : Int) ≤ x then (3 : Int) else _) = 0
      rw [if_neg (by omega)]
      refine if_neg (fun h => ?_)
      obtain ⟨h1, h2⟩ := h
      rw [List.getD_eq_getElem?_getD, List.getElem?_map, List.getElem?_eq_getElem (by omega : k - 1 < s.length)] at h2
      have h3 := (List.pairwise_iff_getElem.1 hs) (k - 1) k (by omega) hkl (by omega)
      rw [(List.getElem?_eq_some_iff.1 hx).2] at h3
      simp at h2
      omega
theorem nats_cast (s : List Nat) : natsOf (s.map fun (x : Nat) => (x : Int)) = s := by
  unfold natsOf
  rw [List.map_map]
  conv => rhs; rw [← List.map_id s]
  exact List.map_congr_left (fun x _ => by simp)
theorem enc_cast (s : List Nat) : (s.map fun (x : Nat) => (x : Int)).map encI = s.map encN := by
  rw [List.map_map]; rfl
set_option maxHeartbeats 16000000 in
theorem claws_fn (C : Mem) (v : Value) (ss : List Seen) (hv : Sl C 3 v (ss.map Seen.enc)) : Pur cx.P 8 [v] C fun u _ => u = .bool true := by
  obtain ⟨A0, c0, rfl, _⟩ := id hv
  simp only [List.length_map] at hv ⊢
  refine Fn.intro (by kernel_rfl) Tryz.func8 rfl 188 rfl rfl (fun w0 => ?_)
  refine G.region rfl (fun R hR => ?_)
  refine D.pure rfl rfl rfl rfl rfl rfl ?_
  refine D.done [(0, [], _)] ⟨rfl, trivial⟩ (hR _ _ _ rfl ?_); clear hR R
  refine G.region rfl (fun R hR => ?_)
  refine D.callP (known23_fn _) rfl rfl rfl rfl rfl rfl rfl (fun _ => rfl) (fun v31 C31 hle31 hq31 => ?_)
  obtain rfl := hq31
  iterate 3 refine D.pure rfl rfl rfl rfl rfl rfl ?_
  refine D.gives (fun _ => (fits_fn _ _ _ _)) rfl rfl rfl rfl rfl rfl rfl rfl rfl ?_
  refine D.pure rfl rfl rfl rfl rfl rfl ?_
  refine D.pickOr rfl rfl rfl rfl rfl rfl rfl rfl ?_
  refine D.done [(0, [], _), (37, [], _)] ⟨rfl, rfl, trivial⟩ (hR _ _ _ rfl ?_); clear hR R
  refine G.cond rfl (fun h37 => ?_) (fun h37 => ?_)
  · skip
    refine G.region rfl (fun R hR => ?_)
    refine D.callP (known23_fn _) rfl rfl rfl rfl rfl rfl rfl (fun _ => rfl) (fun v38 C38 hle38 hq38 => ?_)
    obtain rfl := hq38
    refine D.pure rfl rfl rfl rfl rfl rfl ?_
    refine D.done [(2, [], _)] ⟨rfl, trivial⟩ (hR _ _ _ rfl ?_); clear hR R
    refine G.retN (G.dropAll (G.fin1 rfl rfl ?_))
    exact ⟨rfl, rfl⟩
  · skip
    refine G.region rfl (fun R hR => ?_)
    refine D.pure rfl rfl rfl rfl rfl rfl ?_
    refine D.callP (make_fn _ _ ss (hv.mono (by (repeat (first | exact Mem.le.refl _ | assumption | (apply Mem.le.trans; rotate_left; assumption)))))) rfl rfl rfl rfl rfl rfl rfl (fun _ => rfl) (fun v40 C40 hle40 hq40 => ?_)
    obtain ⟨l, hl⟩ : ∃ l, makeL ss = l := ⟨_, rfl⟩
    have hM : Made l := by rw [← hl]; exact made_makeL ss
    rw [hl] at hq40
    obtain ⟨Al, cl, rfl, hlc, _⟩ := id hq40
    simp only [List.length_map] at hq40 hlc
    have hl8 := hM.1
    have hE := hM.err
    have hN6 := hM.units
    have hl5 : l.length ≤ 100000 := by omega
    have hmx : maxLen ≤ 9223372036854775807 := by simp [maxLen]
    simp only [List.length_map]
    refine D.pure rfl rfl rfl rfl rfl rfl ?_
    refine D.done [(3, [], _)] ⟨rfl, trivial⟩ (hR _ _ _ rfl ?_); clear hR R
    refine G.region rfl (fun R hR => ?_)
    refine D.pure rfl rfl rfl rfl rfl rfl ?_
    refine D.callP (involvedR_fn _ _ l (hq40.mono (by (repeat (first | exact Mem.le.refl _ | assumption | (apply Mem.le.trans; rotate_left; assumption))))) (by omega) hM.short) rfl rfl rfl rfl rfl rfl rfl (fun _ => rfl) (fun v43 C43 hle43 hq43 => ?_)
    obtain ⟨Ai, ci, rfl, his⟩ := inv_ok hE hq43
    have hil0 : (invL l).length ≤ l.length := idxs_len _ _
    iterate 5 refine D.pure rfl rfl rfl rfl rfl rfl ?_
    refine D.done [(3, [], _), (4, [], _), (5, [], _)] ⟨rfl, rfl, rfl, trivial⟩ (hR _ _ _ rfl ?_); clear hR R
    refine G.region rfl (fun R hR => ?_)
    refine D.pure rfl rfl rfl rfl rfl rfl ?_
    refine D.callP (knots_fn _ _ l (hq40.mono (by (repeat (first | exact Mem.le.refl _ | assumption | (apply Mem.le.trans; rotate_left; assumption))))) (by omega) hM.short) rfl rfl rfl rfl rfl rfl rfl (fun _ => rfl) (fun v48 C48 hle48 hq48 => ?_)
    obtain ⟨vk, ovk, rfl, hks, hko⟩ := knots_ok hE hq48
    rw [knots_law hM] at hko
    obtain ⟨Ak, ck, hqe, hkc, _⟩ := id hks
    have hkl := hko.1
    rw [List.length_map, hkl] at hqe
    subst hqe
    rw [List.length_map, hkl] at hkc
    iterate 5 refine D.pure rfl rfl rfl rfl rfl rfl ?_
    obtain ⟨KK, hKK⟩ : ∃ KK, knI l (unitsL l).length = KK := ⟨_, rfl⟩
    rw [hKK] at hko hkl hkc hks ⊢
    refine D.done [(3, [], _), (4, [], _), (5, [], _), (6, [], _), (7, [], _)] ⟨rfl, rfl, rfl, rfl, rfl, trivial⟩ (hR _ _ _ rfl ?_); clear hR R
    refine G.region rfl (fun R hR => ?_)
    refine D.pure rfl rfl rfl rfl rfl rfl ?_
    refine D.callP (repairs_fn _ _ l (hq40.mono (by (repeat (first | exact Mem.le.refl _ | assumption | (apply Mem.le.trans; rotate_left; assumption))))) hl5 hM.short) rfl rfl rfl rfl rfl rfl rfl (fun _ => rfl) (fun v53 C53 hle53 hq53 => ?_)
    obtain ⟨A4, c4, RR, er, rfl, hRR, hRe⟩ := reps_few hM hq53
    iterate 5 refine D.pure rfl rfl rfl rfl rfl rfl ?_
    refine D.done [(3, [], _), (4, [], _), (5, [], _), (6, [], _), (7, [], _), (8, [], _), (9, [], _)] ⟨rfl, rfl, rfl, rfl, rfl, rfl, rfl, trivial⟩ (hR _ _ _ rfl ?_); clear hR R
    refine G.region rfl (fun R hR => ?_)
    iterate 5 refine D.pure rfl rfl rfl rfl rfl rfl ?_
    refine D.pickOr rfl rfl rfl rfl rfl rfl rfl rfl ?_
    iterate 6 refine D.pure rfl rfl rfl rfl rfl rfl ?_
    refine D.pickAnd rfl rfl rfl rfl rfl rfl rfl rfl ?_
    refine D.pickOr rfl rfl rfl rfl rfl rfl rfl rfl ?_
    refine D.done [(3, [], _), (4, [], _), (6, [], _), (8, [], _), (69, [], _)] ⟨rfl, rfl, rfl, rfl, rfl, trivial⟩ (hR _ _ _ rfl ?_); clear hR R
    refine G.cond rfl (fun h69 => ?_) (fun h69 => ?_)
    · skip
      exfalso
      have : er = 0 ∨ er = 4 := by
        rcases hRe with ⟨_, _, _, _, _, h⟩ | ⟨_, _, h⟩
        · exact .inl h
        · exact .inr h
      rcases this with rfl | rfl <;> simp at h69
    · skip
      refine G.region rfl (fun R hR => ?_)
      iterate 2 refine D.pure rfl rfl rfl rfl rfl rfl ?_
      refine D.makeArr rfl rfl rfl rfl rfl rfl rfl rfl rfl (Nat.le_refl _) (by show 1 * l.length ≤ 281474976710656; omega) (by simp only [maxLen]; omega) (fun _ => rfl) (fun b72 => ?_)
      refine D.pure rfl rfl rfl rfl rfl rfl ?_
      refine D.done [(3, [], _), (4, [], _), (6, [], _), (8, [], _), (10, [], _)] ⟨rfl, rfl, rfl, rfl, rfl, trivial⟩ (hR _ _ _ rfl ?_); clear hR R
      refine G.region rfl (fun R hR => ?_)
      iterate 3 refine D.pure rfl rfl rfl rfl rfl rfl ?_
      refine D.done [(3, [], _), (6, [], _), (8, [], _), (10, [], _), (73, [], _), (74, [], _), (75, [], _)] ⟨rfl, rfl, rfl, rfl, rfl, rfl, rfl, trivial⟩ (hR _ _ _ rfl ?_); clear hR R
      refine G.eqL (L' := [.arr (qS b72 l.length l.length) 4 1 l.length ((List.replicate l.length false).map boolV)]) (by rw [← bools_rep]; rfl) ?_
      refine G.loop (fun fr C' L' μ => ∃ (q : Nat) (rs : List Bool), (q ≤ (invL l).length ∧ rs.length = l.length ∧ ∀ j, bAt rs j = true ↔ j ∈ (invL l).take q) ∧ fr = [(3, [], .slice Al l.length cl), (6, [], .slice Ak KK.length ck), (8, [], .slice A4 RR.length c4), (10, [], qS b72 l.length l.length), (73, [], .slice Ai (invL l).length ci), (74, [], .int .i64 (invL l).length), (75, [], .int .i64 q)] ∧ L' = [.arr (qS b72 l.length l.length) 4 1 l.length (rs.map boolV)] ∧ μ = (invL l).length - q) (fr' := [(3, [], _), (6, [], _), (8, [], _), (10, [], _), (73, [], _), (74, [], _), (75, [], _)]) ⟨rfl, rfl, rfl, rfl, rfl, rfl, rfl, trivial⟩ ⟨0, List.replicate l.length false, ⟨Nat.zero_le _, List.length_replicate, fun j => by rw [bAt_rep]; simp⟩, rfl, rfl, rfl⟩ (fun fr C0' L0' m hle0 hI => ?_)
      obtain ⟨q, rs, ⟨hqi, hrl, hrs⟩, rfl, rfl, rfl⟩ := hI
      refine G.region rfl (fun R hR => ?_)
      refine D.pure rfl rfl rfl rfl rfl rfl ?_
      refine D.done [(3, [], _), (6, [], _), (8, [], _), (10, [], _), (73, [], _), (74, [], _), (75, [], _), (76, [], _)] ⟨rfl, rfl, rfl, rfl, rfl, rfl, rfl, rfl, trivial⟩ (hR _ _ _ rfl ?_); clear hR R
      refine G.cond rfl (fun h76 => ?_) (fun h76 => ?_)
      · skip
        have hqn : q < (invL l).length := by simpa using h76
        obtain ⟨i, hi⟩ : ∃ i, (invL l)[q]? = some i := ⟨(invL l)[q], List.getElem?_eq_getElem hqn⟩
        have him := List.mem_of_getElem? hi
        have hil : i < l.length := (idxs_mem.1 him).1
        have hri : ((invL l).map encN)[q]? = some (encN i) := by rw [List.getElem?_map, hi]; rfl
        obtain ⟨x, hx⟩ : ∃ x, l[i]? = some x := ⟨l[i], List.getElem?_eq_getElem hil⟩
        have hrx : (l.map Rel.enc)[i]? = some x.enc := by rw [List.getElem?_map, hx]; rfl
        have eup : upOf l i = x.upper := by unfold upOf; rw [hx]
        have elo : lowOf l i = x.lower := by unfold lowOf; rw [hx]
        refine G.region rfl (fun R hR => ?_)
        refine D.index0 (his.mono (by (repeat (first | exact Mem.le.refl _ | assumption | (apply Mem.le.trans; rotate_left; assumption))))) rfl rfl rfl rfl rfl rfl rfl rfl rfl rfl (by omega) hri (fun _ => rfl) (fun p77 hp77 => ?_)
        refine D.loadP0 hp77 rfl rfl rfl rfl rfl rfl rfl rfl ?_
        refine D.pure rfl rfl rfl rfl rfl rfl ?_
        refine D.done [(3, [], _), (6, [], _), (8, [], _), (10, [], _), (12, [], _), (73, [], _), (74, [], _), (75, [], _)] ⟨rfl, rfl, rfl, rfl, rfl, rfl, rfl, rfl, trivial⟩ (hR _ _ _ rfl ?_); clear hR R
        refine G.region rfl (fun R hR => ?_)
        iterate 7 refine D.pure rfl rfl rfl rfl rfl rfl ?_
        refine D.pickOr rfl rfl rfl rfl rfl rfl rfl rfl ?_
        refine D.done [(3, [], _), (6, [], _), (8, [], _), (10, [], _), (12, [], _), (73, [], _), (74, [], _), (75, [], _), (86, [], _)] ⟨rfl, rfl, rfl, rfl, rfl, rfl, rfl, rfl, rfl, trivial⟩ (hR _ _ _ rfl ?_); clear hR R
        refine G.cond rfl (fun h86 => ?_) (fun h86 => ?_)
        · skip
          exfalso
          simp at h86
          omega
        · skip
          refine G.region rfl (fun R hR => ?_)
          iterate 2 refine D.pure rfl rfl rfl rfl rfl rfl ?_
          refine D.indexS (i) rfl rfl rfl rfl rfl rfl rfl rfl rfl rfl (fun _ => ⟨by omega, by omega, (by simp)⟩) rfl rfl ?_
          refine D.storeArr (j := 0) rfl rfl rfl rfl rfl rfl rfl rfl rfl rfl rfl (by simp; omega) ?_
          refine D.done [(3, [], _), (6, [], _), (8, [], _), (10, [], _), (12, [], _), (73, [], _), (74, [], _), (75, [], _)] ⟨rfl, rfl, rfl, rfl, rfl, rfl, rfl, rfl, trivial⟩ (hR _ _ _ rfl ?_); clear hR R
          refine G.region rfl (fun R hR => ?_)
          refine D.pure rfl rfl rfl rfl rfl rfl ?_
          refine D.done [(3, [], _), (6, [], _), (8, [], _), (10, [], _), (12, [], _), (13, [], _), (73, [], _), (74, [], _), (75, [], _)] ⟨rfl, rfl, rfl, rfl, rfl, rfl, rfl, rfl, rfl, trivial⟩ (hR _ _ _ rfl ?_); clear hR R
          refine G.region rfl (fun R hR => ?_)
          iterate 3 refine D.pure rfl rfl rfl rfl rfl rfl ?_
          refine D.done [(3, [], _), (6, [], _), (8, [], _), (10, [], _), (12, [], _), (13, [], _), (73, [], _), (74, [], _), (75, [], _), (90, [], _), (91, [], _), (92, [], _)] ⟨rfl, rfl, rfl, rfl, rfl, rfl, rfl, rfl, rfl, rfl, rfl, rfl, trivial⟩ (hR _ _ _ rfl ?_); clear hR R
          refine G.eqL (L' := [.arr (qS b72 l.length l.length) 4 1 l.length ((rs.set i true).map boolV)]) (by rw [← bools_set (by omega)]; rfl) ?_
          refine G.loop (fun fr C' L' μ => ∃ (g : Nat), (g ≤ KK.length) ∧ fr = [(3, [], .slice Al l.length cl), (6, [], .slice Ak KK.length ck), (8, [], .slice A4 RR.length c4), (10, [], qS b72 l.length l.length), (12, [], .int .i64 i), (13, [], .bool ((KK.take g).any fun r => decide (upOf l i ∈ r) && decide (lowOf l i ∈ r))), (73, [], .slice Ai (invL l).length ci), (74, [], .int .i64 (invL l).length), (75, [], .int .i64 q), (90, [], .slice Ak KK.length ck), (91, [], .int .i64 KK.length), (92, [], .int .i64 g)] ∧ L' = [.arr (qS b72 l.length l.length) 4 1 l.length ((rs.set i true).map boolV)] ∧ μ = KK.length - g) (fr' := [(3, [], _), (6, [], _), (8, [], _), (10, [], _), (12, [], _), (13, [], _), (73, [], _), (74, [], _), (75, [], _), (90, [], _), (91, [], _), (92, [], _)]) ⟨rfl, rfl, rfl, rfl, rfl, rfl, rfl, rfl, rfl, rfl, rfl, rfl, trivial⟩ ⟨0, Nat.zero_le _, rfl, rfl, rfl⟩ (fun fr C1' L1' m hle1 hI => ?_)
          obtain ⟨g, hg, rfl, rfl, rfl⟩ := hI
          refine G.region rfl (fun R hR => ?_)
          refine D.pure rfl rfl rfl rfl rfl rfl ?_
          refine D.done [(3, [], _), (6, [], _), (8, [], _), (10, [], _), (12, [], _), (13, [], _), (73, [], _), (74, [], _), (75, [], _), (90, [], _), (91, [], _), (92, [], _), (93, [], _)] ⟨rfl, rfl, rfl, rfl, rfl, rfl, rfl, rfl, rfl, rfl, rfl, rfl, rfl, trivial⟩ (hR _ _ _ rfl ?_); clear hR R
          refine G.cond rfl (fun h93 => ?_) (fun h93 => ?_)
          · skip
            have hgl : g < KK.length := by simpa using h93
            obtain ⟨o, ho⟩ : ∃ o, KK[g]? = some o := ⟨KK[g], List.getElem?_eq_getElem hgl⟩
            obtain ⟨A5, c5, hr5, hs5⟩ := hko.at ho
            obtain ⟨_, c5', hqe5, hc5, _⟩ := id hs5
            simp only [List.length_map] at hc5
            refine G.region rfl (fun R hR => ?_)
            refine D.index0 (hks.mono (by (repeat (first | exact Mem.le.refl _ | assumption | (apply Mem.le.trans; rotate_left; assumption))))) rfl rfl rfl rfl rfl rfl rfl rfl rfl rfl (by omega) hr5 (fun _ => rfl) (fun p94 hp94 => ?_)
            refine D.loadP0 hp94 rfl rfl rfl rfl rfl rfl rfl rfl ?_
            refine D.pure rfl rfl rfl rfl rfl rfl ?_
            refine D.done [(3, [], _), (6, [], _), (8, [], _), (10, [], _), (12, [], _), (13, [], _), (15, [], _), (73, [], _), (74, [], _), (75, [], _), (90, [], _), (91, [], _), (92, [], _)] ⟨rfl, rfl, rfl, rfl, rfl, rfl, rfl, rfl, rfl, rfl, rfl, rfl, rfl, trivial⟩ (hR _ _ _ rfl ?_); clear hR R
            refine G.region rfl (fun R hR => ?_)
            iterate 2 refine D.pure rfl rfl rfl rfl rfl rfl ?_
            refine D.done [(3, [], _), (6, [], _), (8, [], _), (10, [], _), (12, [], _), (13, [], _), (15, [], _), (16, [], _), (17, [], _), (73, [], _), (74, [], _), (75, [], _), (90, [], _), (91, [], _), (92, [], _)] ⟨rfl, rfl, rfl, rfl, rfl, rfl, rfl, rfl, rfl, rfl, rfl, rfl, rfl, rfl, rfl, trivial⟩ (hR _ _ _ rfl ?_); clear hR R
            refine G.region rfl (fun R hR => ?_)
            iterate 3 refine D.pure rfl rfl rfl rfl rfl rfl ?_
            refine D.done [(3, [], _), (6, [], _), (8, [], _), (10, [], _), (12, [], _), (13, [], _), (16, [], _), (17, [], _), (73, [], _), (74, [], _), (75, [], _), (90, [], _), (91, [], _), (92, [], _), (96, [], _), (97, [], _), (98, [], _)] ⟨rfl, rfl, rfl, rfl, rfl, rfl, rfl, rfl, rfl, rfl, rfl, rfl, rfl, rfl, rfl, rfl, rfl, trivial⟩ (hR _ _ _ rfl ?_); clear hR R
            refine G.loop (fun fr C' L' μ => ∃ (m : Nat), (m ≤ o.length) ∧ fr = [(3, [], .slice Al l.length cl), (6, [], .slice Ak KK.length ck), (8, [], .slice A4 RR.length c4), (10, [], qS b72 l.length l.length), (12, [], .int .i64 i), (13, [], .bool ((KK.take g).any fun r => decide (upOf l i ∈ r) && decide (lowOf l i ∈ r))), (16, [], .bool (decide (upOf l i ∈ o.take m))), (17, [], .bool (decide (lowOf l i ∈ o.take m))), (73, [], .slice Ai (invL l).length ci), (74, [], .int .i64 (invL l).length), (75, [], .int .i64 q), (90, [], .slice Ak KK.length ck), (91, [], .int .i64 KK.length), (92, [], .int .i64 g), (96, [], .slice A5 o.length c5), (97, [], .int .i64 o.length), (98, [], .int .i64 m)] ∧ L' = [.arr (qS b72 l.length l.length) 4 1 l.length ((rs.set i true).map boolV)] ∧ μ = o.length - m) (fr' := [(3, [], _), (6, [], _), (8, [], _), (10, [], _), (12, [], _), (13, [], _), (16, [], _), (17, [], _), (73, [], _), (74, [], _), (75, [], _), (90, [], _), (91, [], _), (92, [], _), (96, [], _), (97, [], _), (98, [], _)]) ⟨rfl, rfl, rfl, rfl, rfl, rfl, rfl, rfl, rfl, rfl, rfl, rfl, rfl, rfl, rfl, rfl, rfl, trivial⟩ ⟨0, Nat.zero_le _, rfl, rfl, rfl⟩ (fun fr C2' L2' m hle2 hI => ?_)
            obtain ⟨m, hm, rfl, rfl, rfl⟩ := hI
            refine G.region rfl (fun R hR => ?_)
            refine D.pure rfl rfl rfl rfl rfl rfl ?_
            refine D.done [(3, [], _), (6, [], _), (8, [], _), (10, [], _), (12, [], _), (13, [], _), (16, [], _), (17, [], _), (73, [], _), (74, [], _), (75, [], _), (90, [], _), (91, [], _), (92, [], _), (96, [], _), (97, [], _), (98, [], _), (99, [], _)] ⟨rfl, rfl, rfl, rfl, rfl, rfl, rfl, rfl, rfl, rfl, rfl, rfl, rfl, rfl, rfl, rfl, rfl, rfl, trivial⟩ (hR _ _ _ rfl ?_); clear hR R
            refine G.cond rfl (fun h99 => ?_) (fun h99 => ?_)
            · skip
              have hml : m < o.length := by simpa using h99
              obtain ⟨s, hs⟩ : ∃ s, o[m]? = some s := ⟨o[m], List.getElem?_eq_getElem hml⟩
              have hrs5 : (o.map encS)[m]? = some (encS s) := by rw [List.getElem?_map, hs]; rfl
              have htk : o.take (m + 1) = o.take m ++ [s] := by rw [List.take_add_one, hs]; rfl
              refine G.region rfl (fun R hR => ?_)
              refine D.index0 (hs5.mono (by (repeat (first | exact Mem.le.refl _ | assumption | (apply Mem.le.trans; rotate_left; assumption))))) rfl rfl rfl rfl rfl rfl rfl rfl rfl rfl (by omega) hrs5 (fun _ => rfl) (fun p100 hp100 => ?_)
              refine D.loadP0 hp100 rfl rfl rfl rfl rfl rfl rfl rfl ?_
              refine D.pure rfl rfl rfl rfl rfl rfl ?_
              refine D.done [(3, [], _), (6, [], _), (8, [], _), (10, [], _), (12, [], _), (13, [], _), (16, [], _), (17, [], _), (19, [], _), (73, [], _), (74, [], _), (75, [], _), (90, [], _), (91, [], _), (92, [], _), (96, [], _), (97, [], _), (98, [], _)] ⟨rfl, rfl, rfl, rfl, rfl, rfl, rfl, rfl, rfl, rfl, rfl, rfl, rfl, rfl, rfl, rfl, rfl, rfl, trivial⟩ (hR _ _ _ rfl ?_); clear hR R
              refine G.draw [0, 1, 2, 3, 4, 5, 6, 7, 8, 9, 10, 11, 12, 13, 14, 15, 16, 17, 18, 19, 20, 21] [] rfl (by kernel_rfl) (fun R hB hR => ?_)
              iterate 5 refine D.pure rfl rfl rfl rfl rfl rfl ?_
              refine D.index rfl rfl rfl rfl rfl rfl rfl rfl rfl rfl (fun hg => ⟨(hq40.mono (by (repeat (first | exact Mem.le.refl _ | assumption | (apply Mem.le.trans; rotate_left; assumption))))), by omega, hrx⟩) (fun _ => rfl) rfl (fun p107 hp107 => ?_)
              refine D.fieldP rfl rfl rfl rfl rfl rfl rfl rfl rfl rfl hp107 (fun _ => rfl) rfl (fun p108 hp108 => ?_)
              refine D.loadP rfl rfl rfl rfl rfl rfl hp108 rfl rfl rfl ?_
              refine D.pure rfl rfl rfl rfl rfl rfl ?_
              refine D.pickOr rfl rfl rfl rfl rfl rfl rfl rfl ?_
              iterate 5 refine D.pure rfl rfl rfl rfl rfl rfl ?_
              refine D.index rfl rfl rfl rfl rfl rfl rfl rfl rfl rfl (fun hg => ⟨(hq40.mono (by (repeat (first | exact Mem.le.refl _ | assumption | (apply Mem.le.trans; rotate_left; assumption))))), by omega, hrx⟩) (fun _ => rfl) rfl (fun p117 hp117 => ?_)
              refine D.fieldP rfl rfl rfl rfl rfl rfl rfl rfl rfl rfl hp117 (fun _ => rfl) rfl (fun p118 hp118 => ?_)
              refine D.loadP rfl rfl rfl rfl rfl rfl hp118 rfl rfl rfl ?_
              refine D.pure rfl rfl rfl rfl rfl rfl ?_
              refine D.pickOr rfl rfl rfl rfl rfl rfl rfl rfl ?_
              iterate 2 refine D.pure rfl rfl rfl rfl rfl rfl ?_
              refine D.done [(3, [], _), (6, [], _), (8, [], _), (10, [], _), (12, [], _), (13, [], _), (16, [], _), (17, [], _), (73, [], _), (74, [], _), (75, [], _), (90, [], _), (91, [], _), (92, [], _), (96, [], _), (97, [], _), (98, [], _)] ⟨rfl, rfl, rfl, rfl, rfl, rfl, rfl, rfl, rfl, rfl, rfl, rfl, rfl, rfl, rfl, rfl, rfl, trivial⟩ (hR _ _ _ rfl ?_); clear hR hB R
              refine G.region rfl (fun R hR => ?_)
              refine D.i64 _ rfl rfl rfl rfl rfl (by omega) (by omega) rfl rfl ?_
              refine D.pure rfl rfl rfl rfl rfl rfl ?_
              refine D.done [(3, [], _), (6, [], _), (8, [], _), (10, [], _), (12, [], _), (13, [], _), (16, [], _), (17, [], _), (73, [], _), (74, [], _), (75, [], _), (90, [], _), (91, [], _), (92, [], _), (96, [], _), (97, [], _), (98, [], _)] ⟨rfl, rfl, rfl, rfl, rfl, rfl, rfl, rfl, rfl, rfl, rfl, rfl, rfl, rfl, rfl, rfl, rfl, trivial⟩ (hR _ _ _ rfl ?_); clear hR R
              have e1 : (decide (upOf l i ∈ o.take m) || s == x.upper) = decide (upOf l i ∈ o.take (m + 1)) := by
                rw [htk, eup, Bool.eq_iff_iff, Bool.or_eq_true, decide_eq_true_eq, decide_eq_true_eq, beq_iff_eq, List.mem_append, List.mem_singleton, eq_comm (a := s)]
              have e2 : (decide (lowOf l i ∈ o.take m) || s == x.lower) = decide (lowOf l i ∈ o.take (m + 1)) := by
                rw [htk, elo, Bool.eq_iff_iff, Bool.or_eq_true, decide_eq_true_eq, decide_eq_true_eq, beq_iff_eq, List.mem_append, List.mem_singleton, eq_comm (a := s)]
              rw [e1, e2]
              refine G.again (m' := o.length - (m + 1)) (by omega) (by (repeat (first | exact Mem.le.refl _ | assumption | (apply Mem.le.trans; rotate_left; assumption)))) (fr' := [(3, [], _), (6, [], _), (8, [], _), (10, [], _), (12, [], _), (13, [], _), (16, [], _), (17, [], _), (73, [], _), (74, [], _), (75, [], _), (90, [], _), (91, [], _), (92, [], _), (96, [], _), (97, [], _), (98, [], _)]) ⟨rfl, rfl, rfl, rfl, rfl, rfl, rfl, rfl, rfl, rfl, rfl, rfl, rfl, rfl, rfl, rfl, rfl, trivial⟩ ⟨m + 1, by omega, rfl, rfl, rfl⟩
            · skip
              have hml : m = o.length := by
                have : ¬ m < o.length := by simpa using h99
                omega
              subst hml
              rw [List.take_length]
              refine G.region rfl (fun R hR => ?_)
              iterate 5 refine D.pure rfl rfl rfl rfl rfl rfl ?_
              refine D.pickAnd rfl rfl rfl rfl rfl rfl rfl rfl ?_
              refine D.pickOr rfl rfl rfl rfl rfl rfl rfl rfl ?_
              refine D.pure rfl rfl rfl rfl rfl rfl ?_
              refine D.done [(3, [], _), (6, [], _), (8, [], _), (10, [], _), (12, [], _), (13, [], _), (73, [], _), (74, [], _), (75, [], _), (90, [], _), (91, [], _), (92, [], _)] ⟨rfl, rfl, rfl, rfl, rfl, rfl, rfl, rfl, rfl, rfl, rfl, rfl, trivial⟩ (hR _ _ _ rfl ?_); clear hR R
              refine G.region rfl (fun R hR => ?_)
              refine D.i64 _ rfl rfl rfl rfl rfl (by omega) (by omega) rfl rfl ?_
              refine D.pure rfl rfl rfl rfl rfl rfl ?_
              refine D.done [(3, [], _), (6, [], _), (8, [], _), (10, [], _), (12, [], _), (13, [], _), (73, [], _), (74, [], _), (75, [], _), (90, [], _), (91, [], _), (92, [], _)] ⟨rfl, rfl, rfl, rfl, rfl, rfl, rfl, rfl, rfl, rfl, rfl, rfl, trivial⟩ (hR _ _ _ rfl ?_); clear hR R
              have e3 : (((KK.take g).any fun r => decide (upOf l i ∈ r) && decide (lowOf l i ∈ r)) || (decide (upOf l i ∈ o) && decide (lowOf l i ∈ o))) = ((KK.take (g + 1)).any fun r => decide (upOf l i ∈ r) && decide (lowOf l i ∈ r)) := by
                rw [List.take_add_one, ho]; simp
              rw [e3]
              refine G.again (m' := KK.length - (g + 1)) (by omega) (by (repeat (first | exact Mem.le.refl _ | assumption | (apply Mem.le.trans; rotate_left; assumption)))) (fr' := [(3, [], _), (6, [], _), (8, [], _), (10, [], _), (12, [], _), (13, [], _), (73, [], _), (74, [], _), (75, [], _), (90, [], _), (91, [], _), (92, [], _)]) ⟨rfl, rfl, rfl, rfl, rfl, rfl, rfl, rfl, rfl, rfl, rfl, rfl, trivial⟩ ⟨g + 1, by omega, rfl, rfl, rfl⟩
          · skip
            have hgl : g = KK.length := by
              have : ¬ g < KK.length := by simpa using h93
              omega
            subst hgl
            rw [List.take_length]
            refine G.region rfl (fun R hR => ?_)
            iterate 2 refine D.pure rfl rfl rfl rfl rfl rfl ?_
            refine D.done [(3, [], _), (6, [], _), (8, [], _), (10, [], _), (73, [], _), (74, [], _), (75, [], _), (132, [], _)] ⟨rfl, rfl, rfl, rfl, rfl, rfl, rfl, rfl, trivial⟩ (hR _ _ _ rfl ?_); clear hR R
            refine G.cond rfl (fun h132 => ?_) (fun h132 => ?_)
            · skip
              exfalso
              obtain ⟨o, ho1, ho2, ho3⟩ := inv_knot hM him
              rw [hKK] at ho1
              have : (KK.any fun r => decide (upOf l i ∈ r) && decide (lowOf l i ∈ r)) = true := List.any_eq_true.2 ⟨o, ho1, by simp [ho2, ho3]⟩
              rw [this] at h132
              cases h132
            · skip
              refine G.region rfl (fun R hR => ?_)
              refine D.i64 _ rfl rfl rfl rfl rfl (by omega) (by omega) rfl rfl ?_
              refine D.pure rfl rfl rfl rfl rfl rfl ?_
              refine D.done [(3, [], _), (6, [], _), (8, [], _), (10, [], _), (73, [], _), (74, [], _), (75, [], _)] ⟨rfl, rfl, rfl, rfl, rfl, rfl, rfl, trivial⟩ (hR _ _ _ rfl ?_); clear hR R
              refine G.again (m' := (invL l).length - (q + 1)) (by omega) (by (repeat (first | exact Mem.le.refl _ | assumption | (apply Mem.le.trans; rotate_left; assumption)))) (fr' := [(3, [], _), (6, [], _), (8, [], _), (10, [], _), (73, [], _), (74, [], _), (75, [], _)]) ⟨rfl, rfl, rfl, rfl, rfl, rfl, rfl, trivial⟩ ⟨q + 1, rs.set i true, ⟨by omega, by simp [hrl], fun j => by
                rw [bAt_set (by omega), List.take_add_one, hi]
                simp only [Option.toList_some, List.mem_append, List.mem_singleton]
                rw [← hrs j]
                split
                · rename_i h; simp [h]
                · rename_i h; simp [h]⟩, rfl, rfl, rfl⟩
      · skip
        have hqn : q = (invL l).length := by
          have : ¬ q < (invL l).length := by simpa using h76
          omega
        subst hqn
        rw [List.take_length] at hrs
        obtain ⟨ovr, hrrs, hrro⟩ := id hRR
        have hRl := hrro.1
        obtain ⟨_, cR', hqe, hRc, _⟩ := id hrrs
        simp only [List.length_map] at hRc
        refine G.region rfl (fun R hR => ?_)
        iterate 3 refine D.pure rfl rfl rfl rfl rfl rfl ?_
        refine D.done [(3, [], _), (10, [], _), (134, [], _), (135, [], _), (136, [], _)] ⟨rfl, rfl, rfl, rfl, rfl, trivial⟩ (hR _ _ _ rfl ?_); clear hR R
        refine G.loop (fun fr C' L' μ => ∃ (q : Nat), (q ≤ RR.length) ∧ fr = [(3, [], .slice Al l.length cl), (10, [], qS b72 l.length l.length), (134, [], .slice A4 RR.length c4), (135, [], .int .i64 RR.length), (136, [], .int .i64 q)] ∧ L' = [.arr (qS b72 l.length l.length) 4 1 l.length (rs.map boolV)] ∧ μ = RR.length - q) (fr' := [(3, [], _), (10, [], _), (134, [], _), (135, [], _), (136, [], _)]) ⟨rfl, rfl, rfl, rfl, rfl, trivial⟩ ⟨0, Nat.zero_le _, rfl, rfl, rfl⟩ (fun fr C3' L3' m hle3 hI => ?_)
        obtain ⟨q, hq2, rfl, rfl, rfl⟩ := hI
        refine G.region rfl (fun R hR => ?_)
        refine D.pure rfl rfl rfl rfl rfl rfl ?_
        refine D.done [(3, [], _), (10, [], _), (134, [], _), (135, [], _), (136, [], _), (137, [], _)] ⟨rfl, rfl, rfl, rfl, rfl, rfl, trivial⟩ (hR _ _ _ rfl ?_); clear hR R
        refine G.cond rfl (fun h137 => ?_) (fun h137 => ?_)
        · skip
          have hql : q < RR.length := by simpa using h137
          obtain ⟨s, hs⟩ : ∃ s, RR[q]? = some s := ⟨RR[q], List.getElem?_eq_getElem hql⟩
          obtain ⟨Az, cz, _, hrz, hsz⟩ := hrro.at hs
          obtain ⟨n, hn4, hmin, hRep⟩ : ∃ n, n ≤ 4 ∧ (∀ k t, k < n → ¬ Rep l k t) ∧ Rep l n s := by
            rcases hRe with ⟨n, h1, h2, _, h4, _⟩ | ⟨_, h, _⟩
            · refine ⟨n, h1, h2, ?_⟩
              have := List.mem_of_getElem? hs
              rw [h4, mem_repL, sets_mem hl5 h2] at this
              exact this
            · rw [h] at hs; simp at hs
          have hsn : s.length = n := hRep.2.2.1
          have hnd := rep_need hRep hmin
          have hst0 : chkE l (s.map fun (x : Nat) => (x : Int)) = 0 := by rw [chkE, if_neg (by rw [hE]; simp), asc_zero hRep.1 hRep.2.1]
          have hwoE := errU_sub hE (woL_len l s) (fun y hy => mem_woL hy)
          refine G.region rfl (fun R hR => ?_)
          refine D.index0 (hrrs.mono (by (repeat (first | exact Mem.le.refl _ | assumption | (apply Mem.le.trans; rotate_left; assumption))))) rfl rfl rfl rfl rfl rfl rfl rfl rfl rfl (by omega) hrz (fun _ => rfl) (fun p138 hp138 => ?_)
          refine D.loadP0 hp138 rfl rfl rfl rfl rfl rfl rfl rfl ?_
          refine D.pure rfl rfl rfl rfl rfl rfl ?_
          refine D.done [(3, [], _), (10, [], _), (21, [], _), (134, [], _), (135, [], _), (136, [], _)] ⟨rfl, rfl, rfl, rfl, rfl, rfl, trivial⟩ (hR _ _ _ rfl ?_); clear hR R
          refine G.region rfl (fun R hR => ?_)
          iterate 2 refine D.pure rfl rfl rfl rfl rfl rfl ?_
          refine D.callP (needed_fn _ _ _ l (s.map fun (x : Nat) => (x : Int)) (hq40.mono (by (repeat (first | exact Mem.le.refl _ | assumption | (apply Mem.le.trans; rotate_left; assumption))))) (by omega) hM.short (by rw [enc_cast]; exact hsz.mono (by (repeat (first | exact Mem.le.refl _ | assumption | (apply Mem.le.trans; rotate_left; assumption))))) (by simp; omega)) rfl rfl rfl rfl rfl rfl rfl (fun _ => rfl) (fun v143 C143 hle143 hq143 => ?_)
          obtain rfl := need_val hq143
          rw [hst0, nats_cast, hnd]
          iterate 5 refine D.pure rfl rfl rfl rfl rfl rfl ?_
          refine D.done [(3, [], _), (10, [], _), (21, [], _), (22, [], _), (23, [], _), (134, [], _), (135, [], _), (136, [], _)] ⟨rfl, rfl, rfl, rfl, rfl, rfl, rfl, rfl, trivial⟩ (hR _ _ _ rfl ?_); clear hR R
          refine G.region rfl (fun R hR => ?_)
          iterate 2 refine D.pure rfl rfl rfl rfl rfl rfl ?_
          refine D.callP (withoutR_fn _ _ _ l (s.map fun (x : Nat) => (x : Int)) (hq40.mono (by (repeat (first | exact Mem.le.refl _ | assumption | (apply Mem.le.trans; rotate_left; assumption))))) (by omega) hM.short (by rw [enc_cast]; exact hsz.mono (by (repeat (first | exact Mem.le.refl _ | assumption | (apply Mem.le.trans; rotate_left; assumption))))) (by simp; omega)) rfl rfl rfl rfl rfl rfl rfl (fun _ => rfl) (fun v149 C149 hle149 hq149 => ?_)
          obtain ⟨Aw, cw, rfl, hws⟩ := wo_ok hq149
          rw [hst0]
          unfold woS at hws ⊢
          rw [if_pos hst0, nats_cast] at hws ⊢
          have hwl := woL_len l s
          iterate 5 refine D.pure rfl rfl rfl rfl rfl rfl ?_
          refine D.done [(3, [], _), (10, [], _), (21, [], _), (22, [], _), (23, [], _), (24, [], _), (25, [], _), (134, [], _), (135, [], _), (136, [], _)] ⟨rfl, rfl, rfl, rfl, rfl, rfl, rfl, rfl, rfl, rfl, trivial⟩ (hR _ _ _ rfl ?_); clear hR R
          refine G.region rfl (fun R hR => ?_)
          refine D.pure rfl rfl rfl rfl rfl rfl ?_
          refine D.callP (cycle_fn _ _ (woL l s) (hws.mono (by (repeat (first | exact Mem.le.refl _ | assumption | (apply Mem.le.trans; rotate_left; assumption))))) (by omega) (fun y hy => hM.short y (mem_woL hy))) rfl rfl rfl rfl rfl rfl rfl (fun _ => rfl) (fun v154 C154 hle154 hq154 => ?_)
          obtain ⟨Ac, cc, f, rfl, hcs, hcf⟩ := cyc_ok hwoE hq154
          have hff : f = false := by
            have : cycL (woL l s) = [] := by simpa [noneB] using hRep.2.2.2
            cases f with
            | false => rfl
            | true => exact absurd this (hcf.1 rfl)
          subst hff
          iterate 7 refine D.pure rfl rfl rfl rfl rfl rfl ?_
          refine D.done [(3, [], _), (10, [], _), (21, [], _), (22, [], _), (23, [], _), (25, [], _), (27, [], _), (28, [], _), (134, [], _), (135, [], _), (136, [], _)] ⟨rfl, rfl, rfl, rfl, rfl, rfl, rfl, rfl, rfl, rfl, rfl, trivial⟩ (hR _ _ _ rfl ?_); clear hR R
          refine G.region rfl (fun R hR => ?_)
          iterate 5 refine D.pure rfl rfl rfl rfl rfl rfl ?_
          refine D.pickOr rfl rfl rfl rfl rfl rfl rfl rfl ?_
          iterate 3 refine D.pure rfl rfl rfl rfl rfl rfl ?_
          refine D.pickOr rfl rfl rfl rfl rfl rfl rfl rfl ?_
          iterate 2 refine D.pure rfl rfl rfl rfl rfl rfl ?_
          refine D.pickOr rfl rfl rfl rfl rfl rfl rfl rfl ?_
          iterate 3 refine D.pure rfl rfl rfl rfl rfl rfl ?_
          refine D.pickOr rfl rfl rfl rfl rfl rfl rfl rfl ?_
          refine D.done [(3, [], _), (10, [], _), (21, [], _), (134, [], _), (135, [], _), (136, [], _), (174, [], _)] ⟨rfl, rfl, rfl, rfl, rfl, rfl, rfl, trivial⟩ (hR _ _ _ rfl ?_); clear hR R
          refine G.cond rfl (fun h174 => ?_) (fun h174 => ?_)
          · skip
            exfalso
            simp at h174
          · skip
            refine G.region rfl (fun R hR => ?_)
            iterate 3 refine D.pure rfl rfl rfl rfl rfl rfl ?_
            refine D.done [(3, [], _), (10, [], _), (134, [], _), (135, [], _), (136, [], _), (175, [], _), (176, [], _), (177, [], _)] ⟨rfl, rfl, rfl, rfl, rfl, rfl, rfl, rfl, trivial⟩ (hR _ _ _ rfl ?_); clear hR R
            refine G.loop (fun fr C' L' μ => ∃ (k : Nat), (k ≤ s.length) ∧ fr = [(3, [], .slice Al l.length cl), (10, [], qS b72 l.length l.length), (134, [], .slice A4 RR.length c4), (135, [], .int .i64 RR.length), (136, [], .int .i64 q), (175, [], .slice Az s.length cz), (176, [], .int .i64 s.length), (177, [], .int .i64 k)] ∧ L' = [.arr (qS b72 l.length l.length) 4 1 l.length (rs.map boolV)] ∧ μ = s.length - k) (fr' := [(3, [], _), (10, [], _), (134, [], _), (135, [], _), (136, [], _), (175, [], _), (176, [], _), (177, [], _)]) ⟨rfl, rfl, rfl, rfl, rfl, rfl, rfl, rfl, trivial⟩ ⟨0, Nat.zero_le _, rfl, rfl, rfl⟩ (fun fr C4' L4' m hle4 hI => ?_)
            obtain ⟨k, hk, rfl, rfl, rfl⟩ := hI
            refine G.region rfl (fun R hR => ?_)
            refine D.pure rfl rfl rfl rfl rfl rfl ?_
            refine D.done [(3, [], _), (10, [], _), (134, [], _), (135, [], _), (136, [], _), (175, [], _), (176, [], _), (177, [], _), (178, [], _)] ⟨rfl, rfl, rfl, rfl, rfl, rfl, rfl, rfl, rfl, trivial⟩ (hR _ _ _ rfl ?_); clear hR R
            refine G.cond rfl (fun h178 => ?_) (fun h178 => ?_)
            · skip
              have hkl : k < s.length := by simpa using h178
              obtain ⟨x, hx⟩ : ∃ x, s[k]? = some x := ⟨s[k], List.getElem?_eq_getElem hkl⟩
              have hrx : (s.map encN)[k]? = some (encN x) := by rw [List.getElem?_map, hx]; rfl
              have hxs := List.mem_of_getElem? hx
              have hxl := hRep.2.1 x hxs
              have hxi := rep_inv hl5 hRep hmin hxs
              have hbx := (hrs x).2 hxi
              refine G.region rfl (fun R hR => ?_)
              refine D.index0 (hsz.mono (by (repeat (first | exact Mem.le.refl _ | assumption | (apply Mem.le.trans; rotate_left; assumption))))) rfl rfl rfl rfl rfl rfl rfl rfl rfl rfl (by omega) hrx (fun _ => rfl) (fun p179 hp179 => ?_)
              refine D.loadP0 hp179 rfl rfl rfl rfl rfl rfl rfl rfl ?_
              refine D.pure rfl rfl rfl rfl rfl rfl ?_
              refine D.done [(3, [], _), (10, [], _), (30, [], _), (134, [], _), (135, [], _), (136, [], _), (175, [], _), (176, [], _), (177, [], _)] ⟨rfl, rfl, rfl, rfl, rfl, rfl, rfl, rfl, rfl, trivial⟩ (hR _ _ _ rfl ?_); clear hR R
              refine G.region rfl (fun R hR => ?_)
              iterate 2 refine D.pure rfl rfl rfl rfl rfl rfl ?_
              refine D.indexS (x) rfl rfl rfl rfl rfl rfl rfl rfl rfl rfl (fun _ => ⟨by omega, by omega, (by simp)⟩) rfl rfl ?_
              refine D.loadArr (.head _) rfl rfl rfl rfl rfl rfl (fun _ => (by rw [bools_at (by omega)]; rfl)) rfl rfl ?_
              refine D.pure rfl rfl rfl rfl rfl rfl ?_
              refine D.done [(3, [], _), (10, [], _), (134, [], _), (135, [], _), (136, [], _), (175, [], _), (176, [], _), (177, [], _), (185, [], _)] ⟨rfl, rfl, rfl, rfl, rfl, rfl, rfl, rfl, rfl, trivial⟩ (hR _ _ _ rfl ?_); clear hR R
              refine G.cond rfl (fun h185 => ?_) (fun h185 => ?_)
              · skip
                exfalso
                rw [hbx] at h185
                cases h185
              · skip
                refine G.region rfl (fun R hR => ?_)
                refine D.i64 _ rfl rfl rfl rfl rfl (by omega) (by omega) rfl rfl ?_
                refine D.pure rfl rfl rfl rfl rfl rfl ?_
                refine D.done [(3, [], _), (10, [], _), (134, [], _), (135, [], _), (136, [], _), (175, [], _), (176, [], _), (177, [], _)] ⟨rfl, rfl, rfl, rfl, rfl, rfl, rfl, rfl, trivial⟩ (hR _ _ _ rfl ?_); clear hR R
                refine G.again (m' := s.length - (k + 1)) (by omega) (by (repeat (first | exact Mem.le.refl _ | assumption | (apply Mem.le.trans; rotate_left; assumption)))) (fr' := [(3, [], _), (10, [], _), (134, [], _), (135, [], _), (136, [], _), (175, [], _), (176, [], _), (177, [], _)]) ⟨rfl, rfl, rfl, rfl, rfl, rfl, rfl, rfl, trivial⟩ ⟨k + 1, by omega, rfl, rfl, rfl⟩
            · skip
              refine G.region rfl (fun R hR => ?_)
              refine D.i64 _ rfl rfl rfl rfl rfl (by omega) (by omega) rfl rfl ?_
              refine D.pure rfl rfl rfl rfl rfl rfl ?_
              refine D.done [(3, [], _), (10, [], _), (134, [], _), (135, [], _), (136, [], _)] ⟨rfl, rfl, rfl, rfl, rfl, trivial⟩ (hR _ _ _ rfl ?_); clear hR R
              refine G.again (m' := RR.length - (q + 1)) (by omega) (by (repeat (first | exact Mem.le.refl _ | assumption | (apply Mem.le.trans; rotate_left; assumption)))) (fr' := [(3, [], _), (10, [], _), (134, [], _), (135, [], _), (136, [], _)]) ⟨rfl, rfl, rfl, rfl, rfl, trivial⟩ ⟨q + 1, by omega, rfl, rfl, rfl⟩
        · skip
          refine G.region rfl (fun R hR => ?_)
          refine D.pure rfl rfl rfl rfl rfl rfl ?_
          refine D.done [(2, [], _)] ⟨rfl, trivial⟩ (hR _ _ _ rfl ?_); clear hR R
          refine G.retN (G.dropAll (G.fin1 rfl rfl ?_))
          exact ⟨rfl, rfl⟩
end Go.Proofs.YtcghlfepfcagbaaGreat
namespace Go.Proofs.YtcghlfepfcagbaaGreat
open Go Go.Jog Go.ChangeShapes Go.WideShapes Go.ChangeAt Go.RowKit
set_option maxRecDepth 100000

namespace lawContradictionLaws
theorem laid_met (os : Os) (args : Array Value) : laidMetH Tryz.prog Rows.contradictionLawsRow.laid ((laidWorld os).forCall (fun _ _ => 0) ⟨#[], args, []⟩).memory :=
  laidMet_of_run' 8 (by kernel_rfl) (by kernel_rfl)
theorem contract (H : Type) (enc : TypeId × Value → H) (W : World) (base : Nat) (args : Array Value) (ds gs : List (DataW H)) (before : List MemPlace)
    (hval : ∀ (j : Nat) t v, Tryz.f8.params[j]? = some t → args[j]? = some v → Value.okWide Tryz.prog W .any base t v)
    (hW : DataW.Whole enc Tryz.prog Tryz.f8.params.toList Rows.contradictionLawsSpec.vars false W args.toList ds gs before) (_hsh : W.ShapedOpen Tryz.prog) :
    Calls Tryz.prog 8 args W fun e W' => ∃ v, e = .returned v ∧ Rows.contradictionLawsSpec.post enc Tryz.prog Tryz.f8 false true false false W args v W' := by
  have hW' := hW
  obtain ⟨p, q, hA0, hV, rfl, hfz, hnd⟩ := hW
  have hA : DataW.TrodAll enc Tryz.prog W 0 (fun _ => true) true Tryz.f8.params.toList args.toList ds p := hA0
  rw [Tryz.params8] at hA hval
  obtain ⟨v0, vs0, d0, ds0, p0, q0, hargs0, rfl, rfl, h0, r0⟩ := trodAll_cons hA
  obtain ⟨rfl, rfl, rfl⟩ := trodAll_nil r0
  obtain rfl : args = #[v0] := by cases args; simp_all
  obtain ⟨rfl, rfl⟩ := trodVars_none hV
  obtain ⟨a0, len0, cap0, rfl⟩ := okWide_slice Tryz.underlying22 (hval 0 22 v0 rfl rfl)
  obtain ⟨l0, hl0⟩ : ∃ l : List Seen, Sl (memOf W) 3 (.slice a0 len0 cap0) (l.map Seen.enc) := by
    obtain ⟨n, hn⟩ := (id h0)
    exact seens_of hn
  simp only [List.append_nil] at hW'
  have hlt0 : ∀ x ∈ p0, x.block < W.heap.size := fun x hx => hW'.lt x (by simp [hx])
  have main := gives_below (gives_of (claws_fn (memOf W) _ l0 hl0))
  refine Calls.mono main fun e W' ⟨he, hb⟩ => ?_
  subst he
  refine ⟨_, rfl, post_of_below (pa := p0 ++ ([])) (pv := []) hW' (fun _ _ _ => trodAll_cons_mk (shut_bool Tryz.underlying4 _) trodAll_mk0) (fun sp hsp => ?_) (fun _ _ => rfl) (by simp) hb (ok_one (by kernel_rfl) rfl (okWide_bool_mk Tryz.underlying4 _))⟩
  exact trodAll_cons_mk (WideElems.Trod_stays laidOut' (by kernel_rfl) (of_decide_eq_true (by kernel_rfl)) h0 (fun x hx => hb.same (hlt0 x hx)) (fun x hx => hsp x (by simp [hx]))) (trodAll_mk0)

theorem reads (os : Os) {H : Type} (enc : TypeId × Value → H) : ∃ places, DataW.whole enc Tryz.prog ((laidWorld os).forCall (fun _ _ => 0) ⟨#[], #[.slice none 0 0], []⟩).memory Tryz.f8.params.toList Rows.contradictionLawsSpec.vars false (#[.slice none 0 0] : Array Value).toList 8 = some ([.nil], [], places) :=
  ⟨[], by kernel_rfl⟩

theorem lifted (os : Os) (started : os.Started) (H : Type) (enc : TypeId × Value → H) (F : Stop.Interp) :
    ReturnsInHanded {} Tryz.checked os 8 .any ((OpenSpec.ofChange Rows.contradictionLawsSpec).preRow enc Tryz.prog Tryz.f8 Rows.contradictionLawsRow.domain false Rows.contradictionLawsRow.laid) (((OpenSpec.ofChange Rows.contradictionLawsSpec).at F).post enc Tryz.prog Tryz.f8 false true false false) := by
  obtain ⟨places, hx⟩ := reads os enc
  refine returnsInHanded_of_row (C := Tryz.checked) (s := OpenSpec.ofChange Rows.contradictionLawsSpec) own started (by kernel_rfl) Tryz.func8
    (witness_row_at (enc := enc) (C := Tryz.checked) false (laidWorld os) #[.slice none 0 0] rfl (by kernel_rfl) (by kernel_rfl) (by kernel_rfl)
      (OpenSpec.preRow_of_cond 8 hx (by kernel_rfl) (fun k hk => by cases hk) (by kernel_rfl) (laid_met os _))) ?_
  intro W base args ds gs before hval hW _ _ _ hL hsh _
  exact contract H enc W base args ds gs before hval hW hsh

theorem said : Rows.ContradictionLawsSaid :=
  OpenClaim.holds_of_cond 8 Tryz.f8 rfl rfl rfl rfl rfl rfl rfl ⟨rfl, rfl, rfl, rfl, rfl⟩ rfl rfl rfl rfl rfl (by kernel_rfl) Tryz.func8 (by kernel_rfl)
    (of_decide_eq_true (by kernel_rfl)) (by unfold Func.isWrapper; first | (rw [if_pos (by decide +kernel)]; kernel_rfl) | (rw [if_neg (by decide +kernel)]; exact ⟨rfl, rfl⟩))
    (fun os started H enc _ F => by rw [OpenClaim.pre_eq_preRow]; exact lifted os started H enc F)

end lawContradictionLaws

/-- FOR ANY DESCRIPTIONS ContradictionLaws ANSWERS true, and leaves them as they were. -/
theorem contradictionLaws_said : Rows.ContradictionLawsSaid := lawContradictionLaws.said
#print axioms contradictionLaws_said
end Go.Proofs.YtcghlfepfcagbaaGreat
