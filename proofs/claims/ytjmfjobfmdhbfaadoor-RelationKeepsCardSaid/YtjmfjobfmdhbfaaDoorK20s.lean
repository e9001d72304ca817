/- Layer 20: Units, and the function of the statement RelationNames. -/
import Derived.Test.YtjmfjobfmdhbfaaDoorK20r
import Derived.Test.YtjmfjobfmdhbfaaDoorK20j
namespace Go.Proofs.YtjmfjobfmdhbfaaDoor
open Go Go.Jog
set_option maxRecDepth 100000

/-! ### Units -/
def namesOf (l : List Rel) : List Str := (l.map fun x => [x.upper, x.lower]).flatten
def unitsL (l : List Rel) : List Str := setL cmpS (namesOf l)
theorem namesOf_len (l : List Rel) : (namesOf l).length = 2 * l.length := by
  induction l with
  | nil => rfl
  | cons x l ih => simp only [namesOf, List.map_cons, List.flatten_cons, List.length_append, List.length_cons, List.length_nil] at ih ⊢; omega
theorem mem_namesOf {l : List Rel} {s : Str} : s ∈ namesOf l ↔ ∃ x ∈ l, s = x.upper ∨ s = x.lower := by
  simp only [namesOf, List.mem_flatten, List.mem_map]
  constructor
  · rintro ⟨_, ⟨x, hx, rfl⟩, h⟩
    exact ⟨x, hx, by simpa using h⟩
  · rintro ⟨x, hx, h⟩
    exact ⟨_, ⟨x, hx, rfl⟩, by simpa using h⟩
theorem ms_sorted (l : List Str) : (l.mergeSort fun x y => decide (x ≤ y)).Pairwise (fun x y => ltOf cmpS y x = false) := by
  refine (List.pairwise_mergeSort (le := fun x y : Str => decide (x ≤ y)) (fun a b c h1 h2 => ?_) (fun a b => ?_) l).imp (fun {a b} h => ?_)
  · simp only [decide_eq_true_eq] at *
    exact List.le_trans h1 h2
  · simp only [Bool.or_eq_true, decide_eq_true_eq]
    exact List.le_total a b
  · simp only [decide_eq_true_eq] at h
    show decide (cmpS b a < 0) = false
    refine decide_eq_false (fun h2 => ?_)
    have h3 := (cmpS_neg b a).1 h2
    rw [bytesLess_eq] at h3
    simp only [decide_eq_true_eq] at h3
    exact List.not_lt.2 h h3
theorem flat_enc (l : List Str) : (l.map encS).flatten = l.map strV := flatten_map1 strV l

theorem units_fn (C : Mem) (v : Value) (l : List Rel) (hv : Sl C 3 v (l.map Rel.enc)) (hl : l.length ≤ 100000) (hok : ∀ x ∈ l, x.short) : Pur cx.P 28 [v] C fun r C' =>
    (errAll l ≠ 0 ∧ r = errRes (errAll l)) ∨ (errAll l = 0 ∧ ∃ u, r = .tuple #[u, .int .i64 0] ∧ Sl C' 1 u ((unitsL l).map encS)) := by
  have hv0 := hv
  obtain ⟨A, c, rfl, _⟩ := hv0
  refine Fn.intro (by kernel_rfl) Tryd.func28 rfl 31 rfl rfl (fun w0 => ?_)
  refine G.region rfl (fun R hR => ?_)
  iterate 2 refine D.pure rfl rfl rfl rfl rfl rfl ?_
  refine D.done [(0, [], _)] ⟨rfl, trivial⟩ (hR _ _ _ rfl ?_); clear hR R
  refine G.region rfl (fun R hR => ?_)
  refine D.pure rfl rfl rfl rfl rfl rfl ?_
  refine D.gives2 (checkAll_spec _ l _ hv hok) rfl rfl rfl rfl rfl rfl rfl (fun _ => rfl) ?_
  refine D.pure rfl rfl rfl rfl rfl rfl ?_
  refine D.done [(0, [], _), (4, [], _)] ⟨rfl, rfl, trivial⟩ (hR _ _ _ rfl ?_); clear hR R
  refine G.region rfl (fun R hR => ?_)
  iterate 2 refine D.pure rfl rfl rfl rfl rfl rfl ?_
  refine D.done [(0, [], _), (4, [], _), (11, [], _)] ⟨rfl, rfl, rfl, trivial⟩ (hR _ _ _ rfl ?_); clear hR R
  refine G.cond rfl (fun h11 => ?_) (fun h11 => ?_)
  · skip
    have h11' : errAll l ≠ 0 := by simpa using h11
    refine G.region rfl (fun R hR => ?_)
    iterate 3 refine D.pure rfl rfl rfl rfl rfl rfl ?_
    refine D.done [(2, [], _), (3, [], _)] ⟨rfl, rfl, trivial⟩ (hR _ _ _ rfl ?_); clear hR R
    refine G.retN (G.dropAll (G.fin2 rfl rfl rfl ?_))
    exact ⟨rfl, .inl ⟨h11', rfl⟩⟩
  · skip
    have h11' : errAll l = 0 := by simpa using h11
    refine G.region rfl (fun R hR => ?_)
    refine D.pure rfl rfl rfl rfl rfl rfl ?_
    refine D.done [(0, [], _), (5, [], _)] ⟨rfl, rfl, trivial⟩ (hR _ _ _ rfl ?_); clear hR R
    refine G.region rfl (fun R hR => ?_)
    iterate 3 refine D.pure rfl rfl rfl rfl rfl rfl ?_
    refine D.done [(5, [], _), (13, [], _), (14, [], _), (15, [], _)] ⟨rfl, rfl, rfl, rfl, trivial⟩ (hR _ _ _ rfl ?_); clear hR R
    refine G.nilArr 9 1 ?_
    refine G.loop (fun fr C' L' μ => ∃ (k : Nat) (w5 : Value), (k ≤ l.length) ∧ fr = [(5, [], w5), (13, [], .slice A (l.map Rel.enc).length c), (14, [], .int .i64 (l.map Rel.enc).length), (15, [], .int .i64 k)] ∧ L' = [.arr w5 9 1 (namesOf (l.take k)).length ((namesOf (l.take k)).map encS).flatten] ∧ μ = l.length - k) (fr' := [(5, [], _), (13, [], _), (14, [], _), (15, [], _)]) ⟨rfl, rfl, rfl, rfl, trivial⟩ ⟨0, .slice none 0 0, Nat.zero_le _, rfl, rfl, rfl⟩ (fun fr C0' L0' m hle0 hI => ?_)
    obtain ⟨k, w5, hk, rfl, rfl, rfl⟩ := hI
    refine G.region rfl (fun R hR => ?_)
    refine D.pure rfl rfl rfl rfl rfl rfl ?_
    refine D.done [(5, [], _), (13, [], _), (14, [], _), (15, [], _), (16, [], _)] ⟨rfl, rfl, rfl, rfl, rfl, trivial⟩ (hR _ _ _ rfl ?_); clear hR R
    refine G.cond rfl (fun h16 => ?_) (fun h16 => ?_)
    · skip
      simp only [List.length_map, decide_eq_true_eq] at h16
      have hkl : k < l.length := by omega
      obtain ⟨x, hx⟩ : ∃ x, l[k]? = some x := ⟨l[k], List.getElem?_eq_getElem hkl⟩
      have hv1 := hv.mono hle0
      have hal := namesOf_len (l.take k)
      have hal2 : (l.take k).length ≤ l.length := by simp; omega
      have htk : namesOf (l.take (k + 1)) = namesOf (l.take k) ++ [x.upper, x.lower] := by
        have : l.take (k + 1) = l.take k ++ [x] := by rw [List.take_add_one, hx]; rfl
        rw [this, namesOf, List.map_append, List.flatten_append]; simp [namesOf]
      refine G.region rfl (fun R hR => ?_)
      refine D.index0 hv1 rfl rfl rfl rfl rfl rfl rfl rfl rfl rfl (by omega) (row := x.enc) (by simp [hx]) (fun _ => rfl) (fun p17 hp17 => ?_)
      refine D.loadP0 hp17 rfl rfl rfl rfl rfl rfl rfl rfl ?_
      refine D.alloc rfl rfl rfl rfl rfl (fun _ => rfl) (fun b7 => ?_)
      refine D.store (j := 0) rfl rfl rfl rfl rfl rfl rfl rfl rfl rfl rfl rfl ?_
      refine D.done [(5, [], _), (7, [], _), (13, [], _), (14, [], _), (15, [], _)] ⟨rfl, rfl, rfl, rfl, rfl, trivial⟩ (hR _ _ _ rfl ?_); clear hR R
      refine G.region rfl (fun R hR => ?_)
      iterate 2 refine D.pure rfl rfl rfl rfl rfl rfl ?_
      refine D.loadL (.head _) rfl rfl rfl rfl rfl rfl rfl rfl rfl ?_
      refine D.pure rfl rfl rfl rfl rfl rfl ?_
      refine D.loadL (.head _) rfl rfl rfl rfl rfl rfl rfl rfl rfl ?_
      refine D.buildSlice [encS x.upper, encS x.lower] rfl rfl rfl rfl rfl rfl rfl rfl rfl rfl rfl rfl (fun _ => rfl) (fun p24 C24 hle24 hs24 => ?_)
      refine D.append (j := 1) rfl rfl rfl rfl rfl rfl rfl rfl rfl rfl rfl hs24 rfl (by simp only [List.length_cons, List.length_nil, maxLen]; omega) (by simp only [List.length_cons, List.length_nil]; omega) (fun _ => rfl) (fun v25 => ?_)
      refine D.pure rfl rfl rfl rfl rfl rfl ?_
      refine D.done [(5, [], _), (13, [], _), (14, [], _), (15, [], _)] ⟨rfl, rfl, rfl, rfl, trivial⟩ (hR _ _ _ rfl ?_); clear hR R
      refine G.region rfl (fun R hR => ?_)
      refine D.i64 _ rfl rfl rfl rfl rfl (by omega) (by omega) rfl rfl ?_
      refine D.pure rfl rfl rfl rfl rfl rfl ?_
      refine D.done [(5, [], _), (13, [], _), (14, [], _), (15, [], _)] ⟨rfl, rfl, rfl, rfl, trivial⟩ (hR _ _ _ rfl ?_); clear hR R
      refine G.dropE 1 rfl ?_
      refine G.eqL (L' := [.arr v25 9 1 (namesOf (l.take (k + 1))).length ((namesOf (l.take (k + 1))).map encS).flatten]) (by rw [htk]; simp) ?_
      refine G.again (m' := l.length - (k + 1)) (by omega) (hle0.trans hle24) (fr' := [(5, [], _), (13, [], _), (14, [], _), (15, [], _)]) ⟨rfl, rfl, rfl, rfl, trivial⟩ ⟨k + 1, v25, by omega, rfl, rfl, rfl⟩
    · skip
      simp only [List.length_map, decide_eq_false_iff_not] at h16
      have hkl : k = l.length := by omega
      subst hkl
      have hnl := namesOf_len l
      refine G.eqL (L' := [.arr w5 9 1 (namesOf l).length ((namesOf l).map strV)]) (by rw [List.take_length, flat_enc]) ?_
      refine G.regionO [(1, 3)] rfl (fun R hR => ?_)
      refine D.pure rfl rfl rfl rfl rfl rfl ?_
      refine D.call (sortStr_fn Tryd.sortStr _ w5 9 (namesOf l) (by omega) (by kernel_rfl)) rfl (.inr (by decide)) rfl rfl rfl rfl rfl rfl (List.Perm.refl _) (fun _ => rfl) (fun v28 C28 L28 hle28 hq28 => ?_)
      refine D.done [(5, [], _)] ⟨rfl, trivial⟩ (hR _ _ _ rfl ?_); clear hR R
      obtain ⟨rfl, rfl⟩ := hq28
      have hperm := List.mergeSort_perm (namesOf l) (fun x y => decide (x ≤ y))
      have hsorted := ms_sorted (namesOf l)
      obtain ⟨l', hl'⟩ : ∃ l', (namesOf l).mergeSort (fun x y => decide (x ≤ y)) = l' := ⟨_, rfl⟩
      rw [hl'] at hperm hsorted
      have hl'len := hperm.length_eq
      refine G.eqL (L' := [.arr w5 9 1 l'.length (l'.map encS).flatten]) (by rw [hl', hl'len, flat_enc]; rfl) ?_
      refine G.regionO [(1, 3)] rfl (fun R hR => ?_)
      refine D.pure rfl rfl rfl rfl rfl rfl ?_
      refine D.call (compact_str _ _ l' (by rw [hl'len]; omega)) rfl (.inr (by decide)) rfl rfl rfl rfl rfl rfl (List.Perm.refl _) (fun _ => rfl) (fun v30 C30 L30 hle30 hq30 => ?_)
      obtain ⟨rfl, hcs⟩ := hq30
      iterate 2 refine D.pure rfl rfl rfl rfl rfl rfl ?_
      refine D.done [(2, [], _), (3, [], _)] ⟨rfl, rfl, trivial⟩ (hR _ _ _ rfl ?_); clear hR R
      refine G.retN (G.dropAll (G.fin2 rfl rfl rfl ?_))
      refine ⟨rfl, .inr ⟨h11', _, rfl, ?_⟩⟩
      rw [unitsL, ← tot_cmpS.compact_eq hperm hsorted]
      exact hcs

/-! ### RelationNames -/
theorem isNameA : isNameB sA = true := by decide
theorem isNameC : isNameB sC = true := by decide
theorem errOne : errAll [⟨2, sA, sB⟩] = 0 := by kernel_rfl
theorem errNames_at {ns : List Str} {s : Str} (hs : s ∈ ns) (h : ∀ t ∈ ns, t ≠ s → isNameB t = true) : errNames [⟨2, sA, sB⟩] ns = if isNameB s = true then 0 else 8 := by
  by_cases hn : isNameB s = true
  · rw [if_pos hn]
    refine errNames_unit errOne (fun t ht => ?_)
    by_cases e : t = s
    · rw [e]; exact hn
    · exact h t ht e
  · rw [if_neg hn, errNames, if_pos errOne, if_pos]
    simp only [Bool.not_eq_true] at hn
    exact List.any_eq_true.2 ⟨s, hs, by rw [hn]; rfl⟩
def resB (s : Str) (r : Value) : Prop := ∃ A n c e, r = .tuple #[.slice A n c, .int .i64 e] ∧ (isNameB s = false → n = 0 ∧ e = 8)
theorem resB_err {s : Str} {e : Int} (h : isNameB s = false → e = 8) : resB s (errRes e) := ⟨none, 0, 0, e, rfl, fun hn => ⟨rfl, h hn⟩⟩
theorem names_ok1 : ∀ x ∈ ([⟨2, sA, sB⟩] : List Rel), x.short := by
  intro x hx
  simp only [List.mem_singleton] at hx
  subst hx
  exact ⟨by decide, by decide⟩
theorem names_spec (C : Mem) (s : Str) (hM : MaxLenAt C) : Gives cx.P 8 [strV s] C (.bool true) := by
  refine Fn.intro (by kernel_rfl) Tryd.func8 rfl 87 rfl rfl (fun w0 => ?_)
  refine G.region rfl (fun R hR => ?_)
  refine D.pure rfl rfl rfl rfl rfl rfl ?_
  refine D.done [(0, [], _)] ⟨rfl, trivial⟩ (hR _ _ _ rfl ?_); clear hR R
  refine G.region rfl (fun R hR => ?_)
  refine D.gives2 (known_spec _ hM) rfl rfl rfl rfl rfl rfl rfl (fun _ => rfl) ?_
  iterate 5 refine D.pure rfl rfl rfl rfl rfl rfl ?_
  refine D.pickOr rfl rfl rfl rfl rfl rfl rfl rfl ?_
  refine D.done [(0, [], _), (18, [], _)] ⟨rfl, rfl, trivial⟩ (hR _ _ _ rfl ?_); clear hR R
  refine G.cond rfl (fun h18 => ?_) (fun h18 => ?_)
  · skip
    refine G.region rfl (fun R hR => ?_)
    refine D.gives2 (known_spec _ hM) rfl rfl rfl rfl rfl rfl rfl (fun _ => rfl) ?_
    refine D.pure rfl rfl rfl rfl rfl rfl ?_
    refine D.done [(2, [], _)] ⟨rfl, trivial⟩ (hR _ _ _ rfl ?_); clear hR R
    refine G.retN (G.dropAll (G.fin1 rfl rfl ?_))
    exact ⟨rfl, rfl⟩
  · skip
    replace h18 : (!true || decide (40 < (s.length : Int))) = false := h18
    simp only [Bool.not_true, Bool.false_or, decide_eq_false_iff_not] at h18
    have hsl : s.length < 1000000 := by omega
    refine G.region rfl (fun R hR => ?_)
    refine D.build (Rel.enc ⟨2, sA, sB⟩) rfl rfl rfl rfl rfl rfl rfl rfl ?_
    refine D.buildSliceV [Rel.enc ⟨2, sA, sB⟩] rfl rfl rfl rfl rfl rfl rfl rfl rfl rfl rfl rfl (fun _ => rfl) (fun b21 C21 hle21 hs21 => ?_)
    refine D.pure rfl rfl rfl rfl rfl rfl ?_
    refine D.done [(0, [], _), (3, [], _)] ⟨rfl, rfl, trivial⟩ (hR _ _ _ rfl ?_); clear hR R
    refine G.region rfl (fun R hR => ?_)
    iterate 2 refine D.pure rfl rfl rfl rfl rfl rfl ?_
    refine D.callP (between_fn _ _ [⟨2, sA, sB⟩] sA s hs21 (by decide) names_ok1 (by decide) hsl) rfl rfl rfl rfl rfl rfl rfl (fun _ => rfl) (fun v25 C25 hle25 hq25 => ?_)
    have he1 : errNames [⟨2, sA, sB⟩] [sA, s] = if isNameB s = true then 0 else 8 := errNames_at (by simp) (by intro t ht hne; simp only [List.mem_cons, List.not_mem_nil, or_false] at ht; rcases ht with rfl | rfl; exact isNameA; exact absurd rfl hne)
    obtain ⟨A1, n1, c1, e1, rfl, hr1, hr1'⟩ : ∃ A n c e, v25 = .tuple #[.slice A n c, .int .i64 e] ∧ (isNameB s = false → n = 0 ∧ e = 8) ∧ (isNameB s = true → e = 0) := by
      rw [he1] at hq25
      rcases hq25 with ⟨h, rfl⟩ | ⟨h, u, rfl, hu⟩
      · refine ⟨none, 0, 0, _, rfl, fun hn => ⟨rfl, by rw [hn]; rfl⟩, fun hn => absurd (by rw [if_pos hn]) h⟩
      · obtain ⟨A, c, rfl, _⟩ := hu
        exact ⟨A, _, c, 0, rfl, fun hn => (by rw [hn] at h; simp at h), fun _ => rfl⟩
    iterate 5 refine D.pure rfl rfl rfl rfl rfl rfl ?_
    refine D.done [(0, [], _), (3, [], _), (4, [], _), (5, [], _)] ⟨rfl, rfl, rfl, rfl, trivial⟩ (hR _ _ _ rfl ?_); clear hR R
    refine G.region rfl (fun R hR => ?_)
    iterate 2 refine D.pure rfl rfl rfl rfl rfl rfl ?_
    refine D.callP (rename_fn _ _ [⟨2, sA, sB⟩] s sC (hs21.mono hle25) (by decide) names_ok1 hsl (by decide)) rfl rfl rfl rfl rfl rfl rfl (fun _ => rfl) (fun v31 C31 hle31 hq31 => ?_)
    have he2 : errNames [⟨2, sA, sB⟩] [s, sC] = if isNameB s = true then 0 else 8 := errNames_at (by simp) (by intro t ht hne; simp only [List.mem_cons, List.not_mem_nil, or_false] at ht; rcases ht with rfl | rfl; exact absurd rfl hne; exact isNameC)
    obtain ⟨A2, n2, c2, e2, rfl, hr2⟩ : resB s v31 := by
      rw [he2] at hq31
      rcases hq31 with ⟨h, rfl⟩ | ⟨h, _, rfl⟩ | ⟨h, _, u, rfl, hu⟩
      · exact resB_err (fun hn => by rw [hn]; rfl)
      · exact resB_err (fun hn => by rw [hn] at h; simp at h)
      · obtain ⟨A, c, rfl, _⟩ := hu
        exact ⟨A, _, c, 0, rfl, fun hn => (by rw [hn] at h; simp at h)⟩
    iterate 5 refine D.pure rfl rfl rfl rfl rfl rfl ?_
    refine D.done [(0, [], _), (3, [], _), (4, [], _), (5, [], _), (6, [], _), (7, [], _)] ⟨rfl, rfl, rfl, rfl, rfl, rfl, trivial⟩ (hR _ _ _ rfl ?_); clear hR R
    refine G.region rfl (fun R hR => ?_)
    iterate 2 refine D.pure rfl rfl rfl rfl rfl rfl ?_
    refine D.callP (rename_fn _ _ [⟨2, sA, sB⟩] sC s ((hs21.mono hle25).mono hle31) (by decide) names_ok1 (by decide) hsl) rfl rfl rfl rfl rfl rfl rfl (fun _ => rfl) (fun v37 C37 hle37 hq37 => ?_)
    have he3 : errNames [⟨2, sA, sB⟩] [sC, s] = if isNameB s = true then 0 else 8 := errNames_at (by simp) (by intro t ht hne; simp only [List.mem_cons, List.not_mem_nil, or_false] at ht; rcases ht with rfl | rfl; exact isNameC; exact absurd rfl hne)
    obtain ⟨A3, n3, c3, e3, rfl, hr3⟩ : resB s v37 := by
      rw [he3] at hq37
      rcases hq37 with ⟨h, rfl⟩ | ⟨h, _, rfl⟩ | ⟨h, _, u, rfl, hu⟩
      · exact resB_err (fun hn => by rw [hn]; rfl)
      · exact resB_err (fun hn => by rw [hn] at h; simp at h)
      · obtain ⟨A, c, rfl, _⟩ := hu
        exact ⟨A, _, c, 0, rfl, fun hn => (by rw [hn] at h; simp at h)⟩
    iterate 5 refine D.pure rfl rfl rfl rfl rfl rfl ?_
    refine D.done [(0, [], _), (3, [], _), (4, [], _), (5, [], _), (6, [], _), (7, [], _), (8, [], _), (9, [], _)] ⟨rfl, rfl, rfl, rfl, rfl, rfl, rfl, rfl, trivial⟩ (hR _ _ _ rfl ?_); clear hR R
    refine G.region rfl (fun R hR => ?_)
    iterate 2 refine D.pure rfl rfl rfl rfl rfl rfl ?_
    refine D.callP (without_fn _ _ [⟨2, sA, sB⟩] s (((hs21.mono hle25).mono hle31).mono hle37) (by decide) names_ok1 hsl) rfl rfl rfl rfl rfl rfl rfl (fun _ => rfl) (fun v43 C43 hle43 hq43 => ?_)
    have he4 : errNames [⟨2, sA, sB⟩] [s] = if isNameB s = true then 0 else 8 := errNames_at (by simp) (by intro t ht hne; simp only [List.mem_cons, List.not_mem_nil, or_false] at ht; exact absurd ht hne)
    obtain ⟨A4, n4, c4, e4, rfl, hr4, hr4'⟩ : ∃ A n c e, v43 = .tuple #[.slice A n c, .int .i64 e] ∧ (isNameB s = false → n = 0 ∧ e = 8) ∧ (isNameB s = true → e = 0) := by
      rw [he4] at hq43
      rcases hq43 with ⟨h, rfl⟩ | ⟨h, u, rfl, hu⟩
      · refine ⟨none, 0, 0, _, rfl, fun hn => ⟨rfl, by rw [hn]; rfl⟩, fun hn => absurd (by rw [if_pos hn]) h⟩
      · obtain ⟨A, c, rfl, _⟩ := hu
        exact ⟨A, _, c, 0, rfl, fun hn => (by rw [hn] at h; simp at h), fun _ => rfl⟩
    iterate 5 refine D.pure rfl rfl rfl rfl rfl rfl ?_
    refine D.done [(0, [], _), (4, [], _), (5, [], _), (6, [], _), (7, [], _), (8, [], _), (9, [], _), (10, [], _), (11, [], _)] ⟨rfl, rfl, rfl, rfl, rfl, rfl, rfl, rfl, rfl, trivial⟩ (hR _ _ _ rfl ?_); clear hR R
    refine G.region rfl (fun R hR => ?_)
    refine D.pure rfl rfl rfl rfl rfl rfl ?_
    refine D.gives2 (isName_spec _ _ hsl) rfl rfl rfl rfl rfl rfl rfl (fun _ => rfl) ?_
    refine D.pure rfl rfl rfl rfl rfl rfl ?_
    refine D.gives2 (isName_law _ _) rfl rfl rfl rfl rfl rfl rfl (fun _ => rfl) ?_
    refine D.pure rfl rfl rfl rfl rfl rfl ?_
    refine D.done [(0, [], _), (4, [], _), (5, [], _), (6, [], _), (7, [], _), (8, [], _), (9, [], _), (10, [], _), (11, [], _), (50, [], _)] ⟨rfl, rfl, rfl, rfl, rfl, rfl, rfl, rfl, rfl, rfl, trivial⟩ (hR _ _ _ rfl ?_); clear hR R
    refine G.cond rfl (fun h50 => ?_) (fun h50 => ?_)
    · skip
      simp at h50
    · skip
      refine G.region rfl (fun R hR => ?_)
      refine D.pure rfl rfl rfl rfl rfl rfl ?_
      refine D.gives2 (isName_law _ _) rfl rfl rfl rfl rfl rfl rfl (fun _ => rfl) ?_
      refine D.done [(4, [], _), (5, [], _), (6, [], _), (7, [], _), (8, [], _), (9, [], _), (10, [], _), (11, [], _), (52, [], _)] ⟨rfl, rfl, rfl, rfl, rfl, rfl, rfl, rfl, rfl, trivial⟩ (hR _ _ _ rfl ?_); clear hR R
      refine G.cond rfl (fun h52 => ?_) (fun h52 => ?_)
      · skip
        obtain rfl := hr1' h52
        obtain rfl := hr4' h52
        refine G.region rfl (fun R hR => ?_)
        iterate 5 refine D.pure rfl rfl rfl rfl rfl rfl ?_
        refine D.pickAnd rfl rfl rfl rfl rfl rfl rfl rfl ?_
        refine D.pure rfl rfl rfl rfl rfl rfl ?_
        refine D.done [(2, [], _)] ⟨rfl, trivial⟩ (hR _ _ _ rfl ?_); clear hR R
        refine G.retN (G.dropAll (G.fin1 rfl rfl ?_))
        exact ⟨rfl, rfl⟩
      · skip
        obtain ⟨rfl, rfl⟩ := hr1 h52
        obtain ⟨rfl, rfl⟩ := hr2 h52
        obtain ⟨rfl, rfl⟩ := hr3 h52
        obtain ⟨rfl, rfl⟩ := hr4 h52
        refine G.region rfl (fun R hR => ?_)
        iterate 4 refine D.pure rfl rfl rfl rfl rfl rfl ?_
        refine D.i64 (0) rfl rfl rfl rfl rfl (by decide) (by decide) rfl rfl ?_
        iterate 2 refine D.pure rfl rfl rfl rfl rfl rfl ?_
        refine D.i64 (0) rfl rfl rfl rfl rfl (by decide) (by decide) rfl rfl ?_
        iterate 2 refine D.pure rfl rfl rfl rfl rfl rfl ?_
        refine D.i64 (0) rfl rfl rfl rfl rfl (by decide) (by decide) rfl rfl ?_
        iterate 4 refine D.pure rfl rfl rfl rfl rfl rfl ?_
        refine D.pickAnd rfl rfl rfl rfl rfl rfl rfl rfl ?_
        iterate 3 refine D.pure rfl rfl rfl rfl rfl rfl ?_
        refine D.pickAnd rfl rfl rfl rfl rfl rfl rfl rfl ?_
        iterate 3 refine D.pure rfl rfl rfl rfl rfl rfl ?_
        refine D.pickAnd rfl rfl rfl rfl rfl rfl rfl rfl ?_
        iterate 3 refine D.pure rfl rfl rfl rfl rfl rfl ?_
        refine D.pickAnd rfl rfl rfl rfl rfl rfl rfl rfl ?_
        refine D.pure rfl rfl rfl rfl rfl rfl ?_
        refine D.done [(2, [], _)] ⟨rfl, trivial⟩ (hR _ _ _ rfl ?_); clear hR R
        refine G.retN (G.dropAll (G.fin1 rfl rfl ?_))
        exact ⟨rfl, rfl⟩
end Go.Proofs.YtjmfjobfmdhbfaaDoor
