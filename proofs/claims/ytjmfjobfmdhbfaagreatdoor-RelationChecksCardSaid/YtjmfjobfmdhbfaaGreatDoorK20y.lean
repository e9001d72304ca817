/- Layer 20: the function of the statement RelationChecks. -/
import Derived.Test.YtjmfjobfmdhbfaaGreatDoorK20z
namespace Go.Proofs.YtjmfjobfmdhbfaaGreatDoor
open Go Go.Jog
set_option maxRecDepth 100000

theorem checkAll_law (C : Mem) (l : List Rel) (v : Value) (hv : Sl C 3 v (l.map Rel.enc)) (hl : l.length ≤ 1000) : Gives cx.P 7 [v] C (.int .i64 (errAll l)) := by
  have hv0 := hv
  obtain ⟨A, c, rfl, _⟩ := hv0
  refine Fn.intro (by kernel_rfl) Tryz.func7 rfl 22 rfl rfl (fun w0 => ?_)
  refine G.region rfl (fun R hR => ?_)
  refine D.pure rfl rfl rfl rfl rfl rfl ?_
  refine D.done [(0, [], _)] ⟨rfl, trivial⟩ (hR _ _ _ rfl ?_); clear hR R
  refine G.region rfl (fun R hR => ?_)
  iterate 3 refine D.pure rfl rfl rfl rfl rfl rfl ?_
  refine D.done [(0, [], _), (7, [], _)] ⟨rfl, rfl, trivial⟩ (hR _ _ _ rfl ?_); clear hR R
  refine G.cond rfl (fun h7 => ?_) (fun h7 => ?_)
  · skip
    simp only [List.length_map, decide_eq_true_eq] at h7
    refine G.region rfl (fun R hR => ?_)
    refine D.pure rfl rfl rfl rfl rfl rfl ?_
    refine D.done [(2, [], _)] ⟨rfl, trivial⟩ (hR _ _ _ rfl ?_); clear hR R
    refine G.retN (G.dropAll (G.fin1 rfl rfl ?_))
    exact ⟨by rw [errAll, if_pos (by omega)], rfl⟩
  · skip
    simp only [List.length_map, decide_eq_false_iff_not] at h7
    refine G.region rfl (fun R hR => ?_)
    refine D.pure rfl rfl rfl rfl rfl rfl ?_
    refine D.done [(0, [], _), (3, [], _)] ⟨rfl, rfl, trivial⟩ (hR _ _ _ rfl ?_); clear hR R
    refine G.loop (fun fr C' L' μ => ∃ (k : Nat), (k ≤ l.length ∧ ∀ x ∈ l.take k, errOf x = 0) ∧ fr = [(0, [], .slice A (l.map Rel.enc).length c), (3, [], .int .i64 k)] ∧ L' = [] ∧ μ = l.length - k) (fr' := [(0, [], _), (3, [], _)]) ⟨rfl, rfl, trivial⟩ ⟨0, ⟨Nat.zero_le _, by simp⟩, rfl, rfl, rfl⟩ (fun fr C0' L0' m hle0 hI => ?_)
    obtain ⟨k, ⟨hk, hall⟩, rfl, rfl, rfl⟩ := hI
    refine G.region rfl (fun R hR => ?_)
    iterate 4 refine D.pure rfl rfl rfl rfl rfl rfl ?_
    refine D.done [(0, [], _), (3, [], _), (11, [], _)] ⟨rfl, rfl, rfl, trivial⟩ (hR _ _ _ rfl ?_); clear hR R
    refine G.cond rfl (fun h11 => ?_) (fun h11 => ?_)
    · skip
      simp only [List.length_map, decide_eq_true_eq] at h11
      have hkl : k < l.length := by omega
      obtain ⟨x, hx⟩ : ∃ x, l[k]? = some x := ⟨l[k], List.getElem?_eq_getElem hkl⟩
      have hrow : (l.map Rel.enc)[k]? = some x.enc := by simp [hx]
      refine G.region rfl (fun R hR => ?_)
      iterate 2 refine D.pure rfl rfl rfl rfl rfl rfl ?_
      refine D.index0 (hv.mono hle0) rfl rfl rfl rfl rfl rfl rfl rfl rfl rfl (by omega) hrow (fun _ => rfl) (fun p16 hp16 => ?_)
      refine D.loadP0 hp16 rfl rfl rfl rfl rfl rfl rfl rfl ?_
      refine D.gives2 (check_law _ x) rfl rfl rfl rfl rfl rfl rfl (fun _ => rfl) ?_
      refine D.pure rfl rfl rfl rfl rfl rfl ?_
      refine D.done [(0, [], _), (3, [], _), (4, [], _)] ⟨rfl, rfl, rfl, trivial⟩ (hR _ _ _ rfl ?_); clear hR R
      refine G.region rfl (fun R hR => ?_)
      iterate 2 refine D.pure rfl rfl rfl rfl rfl rfl ?_
      refine D.done [(0, [], _), (3, [], _), (4, [], _), (20, [], _)] ⟨rfl, rfl, rfl, rfl, trivial⟩ (hR _ _ _ rfl ?_); clear hR R
      refine G.cond rfl (fun h20 => ?_) (fun h20 => ?_)
      · skip
        have h20' : errOf x ≠ 0 := by simpa using h20
        refine G.region rfl (fun R hR => ?_)
        iterate 2 refine D.pure rfl rfl rfl rfl rfl rfl ?_
        refine D.done [(2, [], _)] ⟨rfl, trivial⟩ (hR _ _ _ rfl ?_); clear hR R
        refine G.retN (G.dropAll (G.fin1 rfl rfl ?_))
        exact ⟨by rw [errAll, if_neg (by omega), errs_at hx hall h20'], rfl⟩
      · skip
        have h20' : errOf x = 0 := by simpa using h20
        refine G.region rfl (fun R hR => ?_)
        refine D.pure rfl rfl rfl rfl rfl rfl ?_
        refine D.i64 _ rfl rfl rfl rfl rfl (by omega) (by omega) rfl rfl ?_
        refine D.pure rfl rfl rfl rfl rfl rfl ?_
        refine D.done [(0, [], _), (3, [], _)] ⟨rfl, rfl, trivial⟩ (hR _ _ _ rfl ?_); clear hR R
        refine G.again (m' := l.length - (k + 1)) (by omega) hle0 (fr' := [(0, [], _), (3, [], _)]) ⟨rfl, rfl, trivial⟩ ⟨k + 1, ⟨by omega, fun y hy => by
          rw [List.take_add_one, hx] at hy
          rcases List.mem_append.1 hy with h6 | h6
          · exact hall y h6
          · simp only [Option.toList_some, List.mem_singleton] at h6
            subst h6
            exact h20'⟩, rfl, rfl, rfl⟩
    · skip
      simp only [List.length_map, decide_eq_false_iff_not] at h11
      refine G.region rfl (fun R hR => ?_)
      refine D.pure rfl rfl rfl rfl rfl rfl ?_
      refine D.done [(2, [], _)] ⟨rfl, trivial⟩ (hR _ _ _ rfl ?_); clear hR R
      refine G.retN (G.dropAll (G.fin1 rfl rfl ?_))
      rw [List.take_of_length_le (by omega)] at hall
      exact ⟨by rw [errAll, if_neg (by omega), errs_zero hall], rfl⟩

theorem checks_spec (C : Mem) (v : Value) (l : List Rel) (hv : Sl C 3 v (l.map Rel.enc)) (hM : MaxLenAt C) : Gives cx.P 3 [v] C (.bool true) := by
  have hv0 := hv
  obtain ⟨A, c, rfl, _⟩ := hv0
  refine Fn.intro (by kernel_rfl) Tryz.func3 rfl 169 rfl rfl (fun w0 => ?_)
  refine G.region rfl (fun R hR => ?_)
  refine D.pure rfl rfl rfl rfl rfl rfl ?_
  refine D.done [(0, [], _)] ⟨rfl, trivial⟩ (hR _ _ _ rfl ?_); clear hR R
  refine G.region rfl (fun R hR => ?_)
  refine D.gives2 (known_spec _ hM) rfl rfl rfl rfl rfl rfl rfl (fun _ => rfl) ?_
  iterate 13 refine D.pure rfl rfl rfl rfl rfl rfl ?_
  refine D.pickOr rfl rfl rfl rfl rfl rfl rfl rfl ?_
  refine D.pickAnd rfl rfl rfl rfl rfl rfl rfl rfl ?_
  refine D.pickOr rfl rfl rfl rfl rfl rfl rfl rfl ?_
  refine D.done [(0, [], _), (35, [], (.bool (!true || (decide (12 < ((l.map Rel.enc).length : Int)) && (decide (((l.map Rel.enc).length : Int) < 199) || decide (202 < ((l.map Rel.enc).length : Int)))))))] ⟨rfl, rfl, trivial⟩ (hR _ _ _ rfl ?_); clear hR R
  refine G.cond rfl (fun h35 => ?_) (fun h35 => ?_)
  · skip
    refine G.region rfl (fun R hR => ?_)
    refine D.gives2 (known_spec _ hM) rfl rfl rfl rfl rfl rfl rfl (fun _ => rfl) ?_
    refine D.pure rfl rfl rfl rfl rfl rfl ?_
    refine D.done [(2, [], _)] ⟨rfl, trivial⟩ (hR _ _ _ rfl ?_); clear hR R
    refine G.retN (G.dropAll (G.fin1 rfl rfl ?_))
    exact ⟨rfl, rfl⟩
  · skip
    simp only [List.length_map, Bool.not_true, Bool.false_or, Bool.and_eq_false_iff, Bool.or_eq_false_iff, decide_eq_false_iff_not] at h35
    have hl : l.length ≤ 1000 := by omega
    refine G.region rfl (fun R hR => ?_)
    refine D.pure rfl rfl rfl rfl rfl rfl ?_
    refine D.done [(0, [], _), (3, [], _)] ⟨rfl, rfl, trivial⟩ (hR _ _ _ rfl ?_); clear hR R
    refine G.loop (fun fr C' L' μ => ∃ (k : Nat), (k ≤ l.length ∧ ∀ x ∈ l.take k, x.upper.length ≤ 40 ∧ x.lower.length ≤ 40) ∧ fr = [(0, [], .slice A (l.map Rel.enc).length c), (3, [], .int .i64 k)] ∧ L' = [] ∧ μ = l.length - k) (fr' := [(0, [], _), (3, [], _)]) ⟨rfl, rfl, trivial⟩ ⟨0, ⟨Nat.zero_le _, by simp⟩, rfl, rfl, rfl⟩ (fun fr C0' L0' m hle0 hI => ?_)
    obtain ⟨k, ⟨hk, hall⟩, rfl, rfl, rfl⟩ := hI
    refine G.region rfl (fun R hR => ?_)
    iterate 4 refine D.pure rfl rfl rfl rfl rfl rfl ?_
    refine D.done [(0, [], _), (3, [], _), (40, [], _)] ⟨rfl, rfl, rfl, trivial⟩ (hR _ _ _ rfl ?_); clear hR R
    refine G.cond rfl (fun h40 => ?_) (fun h40 => ?_)
    · skip
      simp only [List.length_map, decide_eq_true_eq] at h40
      have hkl : k < l.length := by omega
      obtain ⟨x, hx⟩ : ∃ x, l[k]? = some x := ⟨l[k], List.getElem?_eq_getElem hkl⟩
      have hrow : (l.map Rel.enc)[k]? = some x.enc := by simp [hx]
      refine G.region rfl (fun R hR => ?_)
      iterate 2 refine D.pure rfl rfl rfl rfl rfl rfl ?_
      refine D.index0 (hv.mono hle0) rfl rfl rfl rfl rfl rfl rfl rfl rfl rfl (by omega) hrow (fun _ => rfl) (fun p45 hp45 => ?_)
      refine D.fieldP0 hp45 rfl rfl rfl rfl rfl rfl rfl rfl rfl rfl (fun _ => rfl) (fun p46 hp46 => ?_)
      refine D.loadP0 hp46 rfl rfl rfl rfl rfl rfl rfl rfl ?_
      iterate 5 refine D.pure rfl rfl rfl rfl rfl rfl ?_
      refine D.index rfl rfl rfl rfl rfl rfl rfl rfl rfl rfl (fun hg => ⟨(hv.mono hle0), by omega, hrow⟩) (fun _ => rfl) rfl (fun p53 hp53 => ?_)
      refine D.fieldP rfl rfl rfl rfl rfl rfl rfl rfl rfl rfl hp53 (fun _ => rfl) rfl (fun p54 hp54 => ?_)
      refine D.loadP rfl rfl rfl rfl rfl rfl hp54 rfl rfl rfl ?_
      iterate 2 refine D.pure rfl rfl rfl rfl rfl rfl ?_
      refine D.pickOr rfl rfl rfl rfl rfl rfl rfl rfl ?_
      refine D.done [(0, [], _), (3, [], _), (58, [], (.bool (decide (40 < (x.upper.length : Int)) || decide (40 < (x.lower.length : Int)))))] ⟨rfl, rfl, rfl, trivial⟩ (hR _ _ _ rfl ?_); clear hR R
      refine G.cond rfl (fun h58 => ?_) (fun h58 => ?_)
      · skip
        refine G.region rfl (fun R hR => ?_)
        refine D.pure rfl rfl rfl rfl rfl rfl ?_
        refine D.done [(2, [], _)] ⟨rfl, trivial⟩ (hR _ _ _ rfl ?_); clear hR R
        refine G.retN (G.dropAll (G.fin1 rfl rfl ?_))
        exact ⟨rfl, rfl⟩
      · skip
        simp only [Bool.or_eq_false_iff, decide_eq_false_iff_not] at h58
        refine G.draw [0, 1, 2, 3, 4, 5, 6, 7, 8, 9, 10] [(4, 1), (9, 1)] rfl (by kernel_rfl) (fun R hB hR => ?_)
        iterate 2 refine D.pure rfl rfl rfl rfl rfl rfl ?_
        refine D.index0 (hv.mono hle0) rfl rfl rfl rfl rfl rfl rfl rfl rfl rfl (by omega) hrow (fun _ => rfl) (fun p61 hp61 => ?_)
        refine D.loadP0 hp61 rfl rfl rfl rfl rfl rfl rfl rfl ?_
        refine D.gives (fun _ => (check_spec _ x (by omega) (by omega))) rfl rfl rfl rfl rfl rfl rfl rfl rfl ?_
        iterate 2 refine D.pure rfl rfl rfl rfl rfl rfl ?_
        refine D.index0 (hv.mono hle0) rfl rfl rfl rfl rfl rfl rfl rfl rfl rfl (by omega) hrow (fun _ => rfl) (fun p66 hp66 => ?_)
        refine D.loadP0 hp66 rfl rfl rfl rfl rfl rfl rfl rfl ?_
        refine D.gives (fun _ => (check_law _ x)) rfl rfl rfl rfl rfl rfl rfl rfl rfl ?_
        refine D.pure rfl rfl rfl rfl rfl rfl ?_
        refine D.done [(0, [], _), (3, [], _), (69, [], _)] ⟨rfl, rfl, rfl, trivial⟩ (hR _ _ _ rfl ?_); clear hR hB R
        refine G.cond rfl (fun h69 => ?_) (fun h69 => ?_)
        · skip
          simp at h69
        · skip
          refine G.region rfl (fun R hR => ?_)
          refine D.pure rfl rfl rfl rfl rfl rfl ?_
          refine D.i64 _ rfl rfl rfl rfl rfl (by omega) (by omega) rfl rfl ?_
          refine D.pure rfl rfl rfl rfl rfl rfl ?_
          refine D.done [(0, [], _), (3, [], _)] ⟨rfl, rfl, trivial⟩ (hR _ _ _ rfl ?_); clear hR R
          refine G.again (m' := l.length - (k + 1)) (by omega) hle0 (fr' := [(0, [], _), (3, [], _)]) ⟨rfl, rfl, trivial⟩ ⟨k + 1, ⟨by omega, fun y hy => by
            rw [List.take_add_one, hx] at hy
            rcases List.mem_append.1 hy with h6 | h6
            · exact hall y h6
            · simp only [Option.toList_some, List.mem_singleton] at h6
              subst h6
              exact ⟨by omega, by omega⟩⟩, rfl, rfl, rfl⟩
    · skip
      simp only [List.length_map, decide_eq_false_iff_not] at h40
      rw [List.take_of_length_le (by omega)] at hall
      have hok : ∀ x ∈ l, x.short := fun x hx => ⟨by have := (hall x hx).1; omega, by have := (hall x hx).2; omega⟩
      have hv1 := hv.mono hle0
      refine G.region rfl (fun R hR => ?_)
      refine D.pure rfl rfl rfl rfl rfl rfl ?_
      refine D.gives2 (checkAll_law _ l _ hv1 hl) rfl rfl rfl rfl rfl rfl rfl (fun _ => rfl) ?_
      refine D.pure rfl rfl rfl rfl rfl rfl ?_
      refine D.done [(0, [], _), (4, [], _)] ⟨rfl, rfl, trivial⟩ (hR _ _ _ rfl ?_); clear hR R
      refine G.region rfl (fun R hR => ?_)
      refine D.pure rfl rfl rfl rfl rfl rfl ?_
      refine D.gives2 (checkAll_spec _ l _ hv1 hok) rfl rfl rfl rfl rfl rfl rfl (fun _ => rfl) ?_
      iterate 2 refine D.pure rfl rfl rfl rfl rfl rfl ?_
      refine D.done [(0, [], _), (4, [], _), (75, [], _)] ⟨rfl, rfl, rfl, trivial⟩ (hR _ _ _ rfl ?_); clear hR R
      refine G.cond rfl (fun h75 => ?_) (fun h75 => ?_)
      · skip
        simp at h75
      · skip
        refine G.region rfl (fun R hR => ?_)
        iterate 2 refine D.pure rfl rfl rfl rfl rfl rfl ?_
        refine D.done [(0, [], _), (4, [], _), (77, [], _)] ⟨rfl, rfl, rfl, trivial⟩ (hR _ _ _ rfl ?_); clear hR R
        refine G.cond rfl (fun h77 => ?_) (fun h77 => ?_)
        · skip
          refine G.region rfl (fun R hR => ?_)
          refine D.pure rfl rfl rfl rfl rfl rfl ?_
          refine D.done [(2, [], _)] ⟨rfl, trivial⟩ (hR _ _ _ rfl ?_); clear hR R
          refine G.retN (G.dropAll (G.fin1 rfl rfl ?_))
          exact ⟨rfl, rfl⟩
        · skip
          have hne : errAll l ≠ 0 := by simpa using h77
          have hnn : ∀ ns, errNames l ns = errAll l := fun ns => by rw [errNames, if_neg hne]
          refine G.region rfl (fun R hR => ?_)
          refine D.pure rfl rfl rfl rfl rfl rfl ?_
          refine D.callP (normal_fn _ _ l hv1 (by omega) hok) rfl rfl rfl rfl rfl rfl rfl (fun _ => rfl) (fun v80 C80 hle80 hq80 => ?_)
          rcases hq80 with ⟨_, rfl⟩ | ⟨h, _⟩
          rotate_left
          · exact absurd h hne
          iterate 5 refine D.pure rfl rfl rfl rfl rfl rfl ?_
          refine D.done [(0, [], _), (4, [], _), (5, [], _), (6, [], _)] ⟨rfl, rfl, rfl, rfl, trivial⟩ (hR _ _ _ rfl ?_); clear hR R
          refine G.region rfl (fun R hR => ?_)
          refine D.pure rfl rfl rfl rfl rfl rfl ?_
          refine D.callP (units_fn _ _ l (hv1.mono hle80) (by omega) hok) rfl rfl rfl rfl rfl rfl rfl (fun _ => rfl) (fun v85 C85 hle85 hq85 => ?_)
          rcases hq85 with ⟨_, rfl⟩ | ⟨h, _⟩
          rotate_left
          · exact absurd h hne
          iterate 5 refine D.pure rfl rfl rfl rfl rfl rfl ?_
          refine D.done [(0, [], _), (4, [], _), (5, [], _), (6, [], _), (7, [], _), (8, [], _)] ⟨rfl, rfl, rfl, rfl, rfl, rfl, trivial⟩ (hR _ _ _ rfl ?_); clear hR R
          refine G.region rfl (fun R hR => ?_)
          refine D.pure rfl rfl rfl rfl rfl rfl ?_
          refine D.callP (arcs_fn _ _ l ((hv1.mono hle80).mono hle85) (by omega) hok) rfl rfl rfl rfl rfl rfl rfl (fun _ => rfl) (fun v90 C90 hle90 hq90 => ?_)
          rcases hq90 with ⟨_, rfl⟩ | ⟨h, _⟩
          rotate_left
          · exact absurd h hne
          iterate 5 refine D.pure rfl rfl rfl rfl rfl rfl ?_
          refine D.done [(0, [], _), (4, [], _), (5, [], _), (6, [], _), (7, [], _), (8, [], _), (9, [], _), (10, [], _)] ⟨rfl, rfl, rfl, rfl, rfl, rfl, rfl, rfl, trivial⟩ (hR _ _ _ rfl ?_); clear hR R
          refine G.region rfl (fun R hR => ?_)
          refine D.pure rfl rfl rfl rfl rfl rfl ?_
          refine D.callP (between_fn _ _ l [] [] (((hv1.mono hle80).mono hle85).mono hle90) (by omega) hok (by decide) (by decide)) rfl rfl rfl rfl rfl rfl rfl (fun _ => rfl) (fun v95 C95 hle95 hq95 => ?_)
          rw [hnn] at hq95
          rcases hq95 with ⟨_, rfl⟩ | ⟨h, _⟩
          rotate_left
          · exact absurd h hne
          iterate 5 refine D.pure rfl rfl rfl rfl rfl rfl ?_
          refine D.done [(0, [], _), (4, [], _), (5, [], _), (6, [], _), (7, [], _), (8, [], _), (9, [], _), (10, [], _), (11, [], _), (12, [], _)] ⟨rfl, rfl, rfl, rfl, rfl, rfl, rfl, rfl, rfl, rfl, trivial⟩ (hR _ _ _ rfl ?_); clear hR R
          refine G.region rfl (fun R hR => ?_)
          refine D.pure rfl rfl rfl rfl rfl rfl ?_
          refine D.callP (opposed_fn _ _ l ((((hv1.mono hle80).mono hle85).mono hle90).mono hle95) (by omega) hok) rfl rfl rfl rfl rfl rfl rfl (fun _ => rfl) (fun v100 C100 hle100 hq100 => ?_)
          rcases hq100 with ⟨_, rfl⟩ | ⟨h, _⟩
          rotate_left
          · exact absurd h hne
          iterate 5 refine D.pure rfl rfl rfl rfl rfl rfl ?_
          refine D.done [(0, [], _), (4, [], _), (5, [], _), (6, [], _), (7, [], _), (8, [], _), (9, [], _), (10, [], _), (11, [], _), (12, [], _), (13, [], _), (14, [], _)] ⟨rfl, rfl, rfl, rfl, rfl, rfl, rfl, rfl, rfl, rfl, rfl, rfl, trivial⟩ (hR _ _ _ rfl ?_); clear hR R
          refine G.region rfl (fun R hR => ?_)
          refine D.pure rfl rfl rfl rfl rfl rfl ?_
          refine D.callP (rename_fn _ _ l [] [] (((((hv1.mono hle80).mono hle85).mono hle90).mono hle95).mono hle100) (by omega) hok (by decide) (by decide)) rfl rfl rfl rfl rfl rfl rfl (fun _ => rfl) (fun v105 C105 hle105 hq105 => ?_)
          rw [hnn] at hq105
          rcases hq105 with ⟨_, rfl⟩ | ⟨h, _⟩ | ⟨h, _⟩
          rotate_left
          · exact absurd h hne
          · exact absurd h hne
          iterate 5 refine D.pure rfl rfl rfl rfl rfl rfl ?_
          refine D.done [(0, [], _), (4, [], _), (5, [], _), (6, [], _), (7, [], _), (8, [], _), (9, [], _), (10, [], _), (11, [], _), (12, [], _), (13, [], _), (14, [], _), (15, [], _), (16, [], _)] ⟨rfl, rfl, rfl, rfl, rfl, rfl, rfl, rfl, rfl, rfl, rfl, rfl, rfl, rfl, trivial⟩ (hR _ _ _ rfl ?_); clear hR R
          refine G.region rfl (fun R hR => ?_)
          refine D.pure rfl rfl rfl rfl rfl rfl ?_
          refine D.callP (without_fn _ _ l [] ((((((hv1.mono hle80).mono hle85).mono hle90).mono hle95).mono hle100).mono hle105) (by omega) hok (by decide)) rfl rfl rfl rfl rfl rfl rfl (fun _ => rfl) (fun v110 C110 hle110 hq110 => ?_)
          rw [hnn] at hq110
          rcases hq110 with ⟨_, rfl⟩ | ⟨h, _⟩
          rotate_left
          · exact absurd h hne
          iterate 5 refine D.pure rfl rfl rfl rfl rfl rfl ?_
          refine D.done [(4, [], _), (5, [], _), (6, [], _), (7, [], _), (8, [], _), (9, [], _), (10, [], _), (11, [], _), (12, [], _), (13, [], _), (14, [], _), (15, [], _), (16, [], _), (17, [], _), (18, [], _)] ⟨rfl, rfl, rfl, rfl, rfl, rfl, rfl, rfl, rfl, rfl, rfl, rfl, rfl, rfl, rfl, trivial⟩ (hR _ _ _ rfl ?_); clear hR R
          refine G.region rfl (fun R hR => ?_)
          iterate 4 refine D.pure rfl rfl rfl rfl rfl rfl ?_
          refine D.i64 (0) rfl rfl rfl rfl rfl (by decide) (by decide) rfl rfl ?_
          iterate 2 refine D.pure rfl rfl rfl rfl rfl rfl ?_
          refine D.i64 (0) rfl rfl rfl rfl rfl (by decide) (by decide) rfl rfl ?_
          iterate 2 refine D.pure rfl rfl rfl rfl rfl rfl ?_
          refine D.i64 (0) rfl rfl rfl rfl rfl (by decide) (by decide) rfl rfl ?_
          iterate 2 refine D.pure rfl rfl rfl rfl rfl rfl ?_
          refine D.i64 (0) rfl rfl rfl rfl rfl (by decide) (by decide) rfl rfl ?_
          iterate 2 refine D.pure rfl rfl rfl rfl rfl rfl ?_
          refine D.i64 (0) rfl rfl rfl rfl rfl (by decide) (by decide) rfl rfl ?_
          iterate 2 refine D.pure rfl rfl rfl rfl rfl rfl ?_
          refine D.i64 (0) rfl rfl rfl rfl rfl (by decide) (by decide) rfl rfl ?_
          iterate 5 refine D.pure rfl rfl rfl rfl rfl rfl ?_
          refine D.pickAnd rfl rfl rfl rfl rfl rfl rfl rfl ?_
          iterate 4 refine D.pure rfl rfl rfl rfl rfl rfl ?_
          refine D.pickAnd rfl rfl rfl rfl rfl rfl rfl rfl ?_
          iterate 4 refine D.pure rfl rfl rfl rfl rfl rfl ?_
          refine D.pickAnd rfl rfl rfl rfl rfl rfl rfl rfl ?_
          iterate 4 refine D.pure rfl rfl rfl rfl rfl rfl ?_
          refine D.pickAnd rfl rfl rfl rfl rfl rfl rfl rfl ?_
          iterate 4 refine D.pure rfl rfl rfl rfl rfl rfl ?_
          refine D.pickAnd rfl rfl rfl rfl rfl rfl rfl rfl ?_
          iterate 4 refine D.pure rfl rfl rfl rfl rfl rfl ?_
          refine D.pickAnd rfl rfl rfl rfl rfl rfl rfl rfl ?_
          iterate 4 refine D.pure rfl rfl rfl rfl rfl rfl ?_
          refine D.pickAnd rfl rfl rfl rfl rfl rfl rfl rfl ?_
          refine D.pure rfl rfl rfl rfl rfl rfl ?_
          refine D.done [(2, [], _)] ⟨rfl, trivial⟩ (hR _ _ _ rfl ?_); clear hR R
          refine G.retN (G.dropAll (G.fin1 rfl rfl ?_))
          exact ⟨by simp, rfl⟩
end Go.Proofs.YtjmfjobfmdhbfaaGreatDoor
