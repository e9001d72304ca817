/- Layer 20: the function of the statement RelationRenames. -/
import Derived.Test.YtjmfjobfmdhbfaaDoorK20q
namespace Go.Proofs.YtjmfjobfmdhbfaaDoor
open Go Go.Jog
set_option maxRecDepth 100000

theorem errNames_unit {m : List Rel} {ns : List Str} (hme : errAll m = 0) (h : ∀ s ∈ ns, isNameB s = true) : errNames m ns = 0 := by
  rw [errNames, if_pos hme, if_neg]
  intro hx
  obtain ⟨s, hs, h2⟩ := List.any_eq_true.1 hx
  rw [h s hs] at h2
  cases h2
theorem errNames_units {m : List Rel} {a b : Int} (hme : errAll m = 0) : errNames m [unitS a, unitS b] = 0 := errNames_unit hme (by
  intro s hs; simp only [List.mem_cons, List.not_mem_nil, or_false] at hs; rcases hs with rfl | rfl <;> exact unitS_name _)

set_option maxHeartbeats 1000000 in
theorem renames_spec (C : Mem) (v : Value) (l : List Seen) (a b : UInt8) (hv : Sl C 3 v (l.map Seen.enc)) (hM : MaxLenAt C) : Gives cx.P 7 [v, .int .u8 a.toNat, .int .u8 b.toNat] C (.bool true) := by
  have hv0 := hv
  obtain ⟨A, c, rfl, _⟩ := hv0
  have ha := a.toNat_lt
  have hb := b.toNat_lt
  obtain ⟨m, hm⟩ : ∃ m, makeL l = m := ⟨_, rfl⟩
  have hml : m.length ≤ 12 := by rw [← hm]; simp [makeL]; omega
  have hms : ∀ x ∈ m, x.short := by rw [← hm]; exact makeL_short l
  have hme : errAll m = 0 := by rw [← hm]; exact makeL_ok l
  obtain ⟨ua, hua⟩ : ∃ u, unitS a.toNat = u := ⟨_, rfl⟩
  obtain ⟨ub, hub⟩ : ∃ u, unitS b.toNat = u := ⟨_, rfl⟩
  have hual : ua.length < 1000000 := by rw [← hua]; simp [unitS]
  have hubl : ub.length < 1000000 := by rw [← hub]; simp [unitS]
  have hna : isNameB ua = true := by rw [← hua]; exact unitS_name _
  have hnb : isNameB ub = true := by rw [← hub]; exact unitS_name _
  have hcu : ∀ C', Gives cx.P 22 [.int .u8 a.toNat] C' (strV ua) := fun C' => by rw [← hua]; exact unit_spec _ _ (by omega) (by omega)
  have hcv : ∀ C', Gives cx.P 22 [.int .u8 b.toNat] C' (strV ub) := fun C' => by rw [← hub]; exact unit_spec _ _ (by omega) (by omega)
  refine Fn.intro (by kernel_rfl) Tryd.func7 rfl 119 rfl rfl (fun w0 => ?_)
  refine G.region rfl (fun R hR => ?_)
  refine D.pure rfl rfl rfl rfl rfl rfl ?_
  refine D.done [(0, [], _), (1, [], _), (2, [], _)] ⟨rfl, rfl, rfl, trivial⟩ (hR _ _ _ rfl ?_); clear hR R
  refine G.region rfl (fun R hR => ?_)
  refine D.gives2 (known_spec _ hM) rfl rfl rfl rfl rfl rfl rfl (fun _ => rfl) ?_
  iterate 5 refine D.pure rfl rfl rfl rfl rfl rfl ?_
  refine D.pickOr rfl rfl rfl rfl rfl rfl rfl rfl ?_
  refine D.done [(0, [], _), (1, [], _), (2, [], _), (23, [], _)] ⟨rfl, rfl, rfl, rfl, trivial⟩ (hR _ _ _ rfl ?_); clear hR R
  refine G.cond rfl (fun h23 => ?_) (fun h23 => ?_)
  · skip
    refine G.region rfl (fun R hR => ?_)
    refine D.gives2 (known_spec _ hM) rfl rfl rfl rfl rfl rfl rfl (fun _ => rfl) ?_
    refine D.pure rfl rfl rfl rfl rfl rfl ?_
    refine D.done [(6, [], _)] ⟨rfl, trivial⟩ (hR _ _ _ rfl ?_); clear hR R
    refine G.retN (G.dropAll (G.fin1 rfl rfl ?_))
    exact ⟨rfl, rfl⟩
  · skip
    simp only [List.length_map, Bool.or_eq_false_iff, decide_eq_false_iff_not] at h23
    refine G.region rfl (fun R hR => ?_)
    refine D.pure rfl rfl rfl rfl rfl rfl ?_
    refine D.callP (make_spec _ _ l hv) rfl rfl rfl rfl rfl rfl rfl (fun _ => rfl) (fun v26 C26 hle26 hq26 => ?_)
    refine D.pure rfl rfl rfl rfl rfl rfl ?_
    refine D.done [(1, [], _), (2, [], _), (7, [], _)] ⟨rfl, rfl, rfl, trivial⟩ (hR _ _ _ rfl ?_); clear hR R
    rw [hm] at hq26
    have hm0 := hq26
    obtain ⟨Am, cm, hvm, _⟩ := id hq26
    subst hvm
    refine G.region rfl (fun R hR => ?_)
    iterate 2 refine D.pure rfl rfl rfl rfl rfl rfl ?_
    refine D.gives2 (hcu _) rfl rfl rfl rfl rfl rfl rfl (fun _ => rfl) ?_
    refine D.pure rfl rfl rfl rfl rfl rfl ?_
    refine D.gives2 (hcv _) rfl rfl rfl rfl rfl rfl rfl (fun _ => rfl) ?_
    refine D.callP (rename_fn _ _ m ua ub hm0 (by omega) hms hual hubl) rfl rfl rfl rfl rfl rfl rfl (fun _ => rfl) (fun v33 C33 hle33 hq33 => ?_)
    obtain ⟨Ax, nx, cx', ex, rfl, hx⟩ : ∃ Ax nx cx' ex, v33 = .tuple #[.slice Ax nx cx', .int .i64 ex] ∧ ((m.any (conf ua ub) = true ∧ nx = 0 ∧ ex = 14) ∨ (m.any (conf ua ub) = false ∧ ex = 0 ∧ Sl C33 3 (.slice Ax nx cx') ((renameL m ua ub).map Rel.enc))) := by
      rcases hq33 with ⟨h, _⟩ | ⟨_, h, rfl⟩ | ⟨_, h, w, rfl, hs⟩
      · exact absurd (errNames_unit hme (by intro s hs; simp only [List.mem_cons, List.not_mem_nil, or_false] at hs; rcases hs with rfl | rfl <;> assumption)) h
      · exact ⟨none, 0, 0, 14, rfl, .inl ⟨h, rfl, rfl⟩⟩
      · obtain ⟨Ax, cx', rfl, _⟩ := id hs
        exact ⟨Ax, _, cx', 0, rfl, .inr ⟨h, rfl, hs⟩⟩
    iterate 5 refine D.pure rfl rfl rfl rfl rfl rfl ?_
    refine D.done [(1, [], _), (2, [], _), (7, [], _), (8, [], _), (9, [], _)] ⟨rfl, rfl, rfl, rfl, rfl, trivial⟩ (hR _ _ _ rfl ?_); clear hR R
    refine G.region rfl (fun R hR => ?_)
    iterate 2 refine D.pure rfl rfl rfl rfl rfl rfl ?_
    refine D.gives2 (hcu _) rfl rfl rfl rfl rfl rfl rfl (fun _ => rfl) ?_
    refine D.callP (without_fn _ _ m ua (hm0.mono hle33) (by omega) hms hual) rfl rfl rfl rfl rfl rfl rfl (fun _ => rfl) (fun v40 C40 hle40 hq40 => ?_)
    rcases hq40 with ⟨h, _⟩ | ⟨_, uw, rfl, hsw⟩
    · exact absurd (errNames_unit hme (by intro s hs; simp only [List.mem_cons, List.not_mem_nil, or_false] at hs; subst hs; assumption)) h
    obtain ⟨Aw, cw, huw, _⟩ := id hsw
    subst huw
    iterate 5 refine D.pure rfl rfl rfl rfl rfl rfl ?_
    refine D.done [(1, [], _), (2, [], _), (7, [], _), (8, [], _), (9, [], _), (10, [], _), (11, [], _)] ⟨rfl, rfl, rfl, rfl, rfl, rfl, rfl, trivial⟩ (hR _ _ _ rfl ?_); clear hR R
    refine G.region rfl (fun R hR => ?_)
    iterate 2 refine D.pure rfl rfl rfl rfl rfl rfl ?_
    refine D.done [(1, [], _), (2, [], _), (7, [], _), (8, [], _), (9, [], _), (10, [], _), (11, [], _), (12, [], _), (13, [], _)] ⟨rfl, rfl, rfl, rfl, rfl, rfl, rfl, rfl, rfl, trivial⟩ (hR _ _ _ rfl ?_); clear hR R
    refine G.region rfl (fun R hR => ?_)
    refine D.pure rfl rfl rfl rfl rfl rfl ?_
    refine D.done [(1, [], _), (2, [], _), (7, [], _), (8, [], _), (9, [], _), (10, [], _), (11, [], _), (12, [], _), (13, [], _), (14, [], _)] ⟨rfl, rfl, rfl, rfl, rfl, rfl, rfl, rfl, rfl, rfl, trivial⟩ (hR _ _ _ rfl ?_); clear hR R
    refine G.region rfl (fun R hR => ?_)
    refine D.pure rfl rfl rfl rfl rfl rfl ?_
    refine D.done [(1, [], _), (2, [], _), (7, [], _), (8, [], _), (9, [], _), (10, [], _), (11, [], _), (12, [], _), (13, [], _), (14, [], _), (15, [], _)] ⟨rfl, rfl, rfl, rfl, rfl, rfl, rfl, rfl, rfl, rfl, rfl, trivial⟩ (hR _ _ _ rfl ?_); clear hR R
    refine G.nilArr 33 3 (G.nilArr 33 3 ?_)
    refine G.loop (fun fr C' L' μ => ∃ (i : Nat) (w12 w13 : Value), (i ≤ m.length) ∧ fr = [(1, [], .int .u8 a.toNat), (2, [], .int .u8 b.toNat), (7, [], .slice Am (m.map Rel.enc).length cm), (8, [], .slice Ax nx cx'), (9, [], .int .i64 ex), (10, [], .slice Aw ((withoutL m ua).map Rel.enc).length cw), (11, [], .int .i64 0), (12, [], w12), (13, [], w13), (14, [], .int .i64 (if (m.take i).any (conf ua ub) = true then 14 else 0)), (15, [], .int .i64 i)] ∧ L' = [.arr w12 33 3 i ((renameL (m.take i) ua ub).map Rel.enc).flatten, .arr w13 33 3 (withoutL (m.take i) ua).length ((withoutL (m.take i) ua).map Rel.enc).flatten] ∧ μ = m.length - i) (fr' := [(1, [], _), (2, [], _), (7, [], _), (8, [], _), (9, [], _), (10, [], _), (11, [], _), (12, [], _), (13, [], _), (14, [], _), (15, [], _)]) ⟨rfl, rfl, rfl, rfl, rfl, rfl, rfl, rfl, rfl, rfl, rfl, trivial⟩ ⟨0, .slice none 0 0, .slice none 0 0, Nat.zero_le _, rfl, rfl, rfl⟩ (fun fr C0' L0' m hle0 hI => ?_)
    obtain ⟨i, w12, w13, hi, rfl, rfl, rfl⟩ := hI
    have hm1 := ((hm0.mono hle33).mono hle40).mono hle0
    refine G.region rfl (fun R hR => ?_)
    iterate 4 refine D.pure rfl rfl rfl rfl rfl rfl ?_
    refine D.done [(1, [], _), (2, [], _), (7, [], _), (8, [], _), (9, [], _), (10, [], _), (11, [], _), (12, [], _), (13, [], _), (14, [], _), (15, [], _), (46, [], _)] ⟨rfl, rfl, rfl, rfl, rfl, rfl, rfl, rfl, rfl, rfl, rfl, rfl, trivial⟩ (hR _ _ _ rfl ?_); clear hR R
    refine G.cond rfl (fun h46 => ?_) (fun h46 => ?_)
    · skip
      simp only [List.length_map, decide_eq_true_eq] at h46
      have hil : i < m.length := by omega
      obtain ⟨x, hxi⟩ : ∃ x, m[i]? = some x := ⟨m[i], List.getElem?_eq_getElem hil⟩
      have htk : m.take (i + 1) = m.take i ++ [x] := by rw [List.take_add_one, hxi]; rfl
      have hwl : (withoutL (m.take i) ua).length ≤ 12 := by
        have h1 : (withoutL (m.take i) ua).length ≤ (m.take i).length := List.length_filter_le _ _
        simp only [List.length_take] at h1; omega
      have hw1 : withoutL (m.take (i + 1)) ua = withoutL (m.take i) ua ++ (if touches ua x = true then [] else [x]) := by
        rw [htk, withoutL, List.filter_append]
        cases hpx : touches ua x <;> simp [hpx, withoutL]
      have hr1 : renameL (m.take (i + 1)) ua ub = renameL (m.take i) ua ub ++ [ren ua ub x] := by rw [htk, renameL, List.map_append]; rfl
      have ha1 : (m.take (i + 1)).any (conf ua ub) = ((m.take i).any (conf ua ub) || conf ua ub x) := by rw [htk, List.any_append]; simp
      refine G.region rfl (fun R hR => ?_)
      iterate 2 refine D.pure rfl rfl rfl rfl rfl rfl ?_
      refine D.index0 hm1 rfl rfl rfl rfl rfl rfl rfl rfl rfl rfl (by omega) (row := x.enc) (by simp [hxi]) (fun _ => rfl) (fun p51 hp51 => ?_)
      refine D.loadP0 hp51 rfl rfl rfl rfl rfl rfl rfl rfl ?_
      refine D.alloc rfl rfl rfl rfl rfl (fun _ => rfl) (fun b16 => ?_)
      refine D.store (j := 0) rfl rfl rfl rfl rfl rfl rfl rfl rfl rfl rfl rfl ?_
      refine D.done [(1, [], _), (2, [], _), (7, [], _), (8, [], _), (9, [], _), (10, [], _), (11, [], _), (12, [], _), (13, [], _), (14, [], _), (15, [], _), (16, [], _)] ⟨rfl, rfl, rfl, rfl, rfl, rfl, rfl, rfl, rfl, rfl, rfl, rfl, trivial⟩ (hR _ _ _ rfl ?_); clear hR R
      refine G.draw [0, 1, 2, 3, 4, 5, 6, 7, 8, 9, 10, 11] [(3, 1)] rfl (by kernel_rfl) (fun R hB hR => ?_)
      refine D.pure rfl rfl rfl rfl rfl rfl ?_
      refine D.loadL (.head _) rfl rfl rfl rfl rfl rfl rfl rfl rfl ?_
      refine D.pure rfl rfl rfl rfl rfl rfl ?_
      refine D.gives (fun _ => (hcu _)) rfl rfl rfl rfl rfl rfl rfl rfl rfl ?_
      iterate 3 refine D.pure rfl rfl rfl rfl rfl rfl ?_
      refine D.loadL (.head _) rfl rfl rfl rfl rfl rfl rfl rfl rfl ?_
      refine D.pure rfl rfl rfl rfl rfl rfl ?_
      refine D.gives (fun _ => (hcu _)) rfl rfl rfl rfl rfl rfl rfl rfl rfl ?_
      refine D.pure rfl rfl rfl rfl rfl rfl ?_
      refine D.pickAnd rfl rfl rfl rfl rfl rfl rfl rfl ?_
      refine D.done [(1, [], _), (2, [], _), (7, [], _), (8, [], _), (9, [], _), (10, [], _), (11, [], _), (12, [], _), (13, [], _), (14, [], _), (15, [], _), (16, [], _), (64, [], (.bool ((!(x.upper == ua)) && (!(x.lower == ua)))))] ⟨rfl, rfl, rfl, rfl, rfl, rfl, rfl, rfl, rfl, rfl, rfl, rfl, rfl, trivial⟩ (hR _ _ _ rfl ?_); clear hR hB R
      refine G.cut (fun fr C' L' μ => ∃ (w13' : Value), (True) ∧ fr = [(1, [], .int .u8 a.toNat), (2, [], .int .u8 b.toNat), (7, [], .slice Am (m.map Rel.enc).length cm), (8, [], .slice Ax nx cx'), (9, [], .int .i64 ex), (10, [], .slice Aw ((withoutL m ua).map Rel.enc).length cw), (11, [], .int .i64 0), (12, [], w12), (13, [], w13'), (14, [], .int .i64 (if (m.take i).any (conf ua ub) = true then 14 else 0)), (15, [], .int .i64 i), (16, [], .pointer (some ⟨b16, 0, none⟩))] ∧ L' = [.obj b16 (.cells ⟨x.enc⟩ 33 (0, 0)), .arr w12 33 3 i ((renameL (m.take i) ua ub).map Rel.enc).flatten, .arr w13' 33 3 (withoutL (m.take (i + 1)) ua).length ((withoutL (m.take (i + 1)) ua).map Rel.enc).flatten]) ?_ (fun fr C64 L64 μ hle64 hI => ?_)
      · skip
        refine G.cond rfl (fun h64 => ?_) (fun h64 => ?_)
        · skip
          have ht : touches ua x = false := by
            simp only [Bool.and_eq_true, Bool.not_eq_true'] at h64
            rw [touches, h64.1, h64.2]; rfl
          refine G.region rfl (fun R hR => ?_)
          refine D.pure rfl rfl rfl rfl rfl rfl ?_
          refine D.loadL (.head _) rfl rfl rfl rfl rfl rfl rfl rfl rfl ?_
          refine D.buildSlice [x.enc] rfl rfl rfl rfl rfl rfl rfl rfl rfl rfl rfl rfl (fun _ => rfl) (fun p67 C67 hle67 hs67 => ?_)
          refine D.append (j := 2) rfl rfl rfl rfl rfl rfl rfl rfl rfl rfl rfl hs67 rfl (by simp only [List.length_singleton, maxLen]; omega) (by simp only [List.length_singleton]; omega) (fun _ => rfl) (fun v68 => ?_)
          refine D.pure rfl rfl rfl rfl rfl rfl ?_
          refine D.done [(1, [], _), (2, [], _), (7, [], _), (8, [], _), (9, [], _), (10, [], _), (11, [], _), (12, [], _), (13, [], _), (14, [], _), (15, [], _), (16, [], _)] ⟨rfl, rfl, rfl, rfl, rfl, rfl, rfl, rfl, rfl, rfl, rfl, rfl, trivial⟩ (hR _ _ _ rfl ?_); clear hR R
          refine G.perm (L' := [.obj b16 (.cells ⟨x.enc⟩ 33 (0, 0)), .arr w12 33 3 i ((renameL (m.take i) ua ub).map Rel.enc).flatten, .arr v68 33 3 (withoutL (m.take (i + 1)) ua).length ((withoutL (m.take (i + 1)) ua).map Rel.enc).flatten]) (by
            rw [hw1, if_neg (by rw [ht]; decide), List.length_append, List.map_append, List.flatten_append]
            exact (List.Perm.swap _ _ _).trans (List.Perm.cons _ (List.Perm.swap _ _ _))) ?_
          refine G.meet 0 hle67 (fr' := [(1, [], _), (2, [], _), (7, [], _), (8, [], _), (9, [], _), (10, [], _), (11, [], _), (12, [], _), (13, [], _), (14, [], _), (15, [], _), (16, [], _)]) ⟨rfl, rfl, rfl, rfl, rfl, rfl, rfl, rfl, rfl, rfl, rfl, rfl, trivial⟩ ⟨v68, trivial, rfl, rfl⟩
        · skip
          have ht : touches ua x = true := by
            rw [touches]
            cases h1 : (x.upper == ua) <;> cases h2 : (x.lower == ua) <;> simp_all
          refine G.meet 0 (Mem.le.refl _) (fr' := [(1, [], _), (2, [], _), (7, [], _), (8, [], _), (9, [], _), (10, [], _), (11, [], _), (12, [], _), (13, [], _), (14, [], _), (15, [], _), (16, [], _)]) ⟨rfl, rfl, rfl, rfl, rfl, rfl, rfl, rfl, rfl, rfl, rfl, rfl, trivial⟩ ⟨w13, trivial, rfl, by rw [hw1, if_pos ht, List.append_nil]; try rfl⟩
      · skip
        obtain ⟨w13', htriv, rfl, rfl⟩ := hI
        have hm2 := hm1.mono hle64
        refine G.draw [0, 1, 2, 3, 4] [(3, 1)] rfl (by kernel_rfl) (fun R hB hR => ?_)
        refine D.pure rfl rfl rfl rfl rfl rfl ?_
        refine D.loadL (.head _) rfl rfl rfl rfl rfl rfl rfl rfl rfl ?_
        refine D.pure rfl rfl rfl rfl rfl rfl ?_
        refine D.gives (fun _ => (hcu _)) rfl rfl rfl rfl rfl rfl rfl rfl rfl ?_
        refine D.pure rfl rfl rfl rfl rfl rfl ?_
        refine D.done [(1, [], _), (2, [], _), (7, [], _), (8, [], _), (9, [], _), (10, [], _), (11, [], _), (12, [], _), (13, [], _), (14, [], _), (15, [], _), (16, [], _), (73, [], _)] ⟨rfl, rfl, rfl, rfl, rfl, rfl, rfl, rfl, rfl, rfl, rfl, rfl, rfl, trivial⟩ (hR _ _ _ rfl ?_); clear hR hB R
        refine G.cut (fun fr C' L' μ => (True) ∧ fr = [(1, [], .int .u8 a.toNat), (2, [], .int .u8 b.toNat), (7, [], .slice Am (m.map Rel.enc).length cm), (8, [], .slice Ax nx cx'), (9, [], .int .i64 ex), (10, [], .slice Aw ((withoutL m ua).map Rel.enc).length cw), (11, [], .int .i64 0), (12, [], w12), (13, [], w13'), (14, [], .int .i64 (if (m.take i).any (conf ua ub) = true then 14 else 0)), (15, [], .int .i64 i), (16, [], .pointer (some ⟨b16, 0, none⟩))] ∧ L' = [.obj b16 (.cells ⟨Rel.enc ⟨x.kind, renS ua ub x.upper, x.lower⟩⟩ 33 (0, 0)), .arr w12 33 3 i ((renameL (m.take i) ua ub).map Rel.enc).flatten, .arr w13' 33 3 (withoutL (m.take (i + 1)) ua).length ((withoutL (m.take (i + 1)) ua).map Rel.enc).flatten]) ?_ (fun fr C73 L73 μ hle73 hI => ?_)
        · skip
          refine G.cond rfl (fun h73 => ?_) (fun h73 => ?_)
          · skip
            have he : x.upper = ua := by simpa using (show (x.upper == ua) = true from h73)
            refine G.region rfl (fun R hR => ?_)
            refine D.pure rfl rfl rfl rfl rfl rfl ?_
            refine D.gives2 (hcv _) rfl rfl rfl rfl rfl rfl rfl (fun _ => rfl) ?_
            refine D.pure rfl rfl rfl rfl rfl rfl ?_
            refine D.store (j := 0) rfl rfl rfl rfl rfl rfl rfl rfl rfl rfl rfl rfl ?_
            refine D.done [(1, [], _), (2, [], _), (7, [], _), (8, [], _), (9, [], _), (10, [], _), (11, [], _), (12, [], _), (13, [], _), (14, [], _), (15, [], _), (16, [], _)] ⟨rfl, rfl, rfl, rfl, rfl, rfl, rfl, rfl, rfl, rfl, rfl, rfl, trivial⟩ (hR _ _ _ rfl ?_); clear hR R
            refine G.meet 0 (Mem.le.refl _) (fr' := [(1, [], _), (2, [], _), (7, [], _), (8, [], _), (9, [], _), (10, [], _), (11, [], _), (12, [], _), (13, [], _), (14, [], _), (15, [], _), (16, [], _)]) ⟨rfl, rfl, rfl, rfl, rfl, rfl, rfl, rfl, rfl, rfl, rfl, rfl, trivial⟩ ⟨trivial, rfl, by rw [renS, if_pos he]; try rfl⟩
          · skip
            have he : ¬ x.upper = ua := by simpa using (show (x.upper == ua) = false from h73)
            refine G.meet 0 (Mem.le.refl _) (fr' := [(1, [], _), (2, [], _), (7, [], _), (8, [], _), (9, [], _), (10, [], _), (11, [], _), (12, [], _), (13, [], _), (14, [], _), (15, [], _), (16, [], _)]) ⟨rfl, rfl, rfl, rfl, rfl, rfl, rfl, rfl, rfl, rfl, rfl, rfl, trivial⟩ ⟨trivial, rfl, by rw [renS, if_neg he]; try rfl⟩
        · skip
          obtain ⟨htriv, rfl, rfl⟩ := hI
          refine G.draw [0, 1, 2, 3, 4] [(3, 1)] rfl (by kernel_rfl) (fun R hB hR => ?_)
          refine D.pure rfl rfl rfl rfl rfl rfl ?_
          refine D.loadL (.head _) rfl rfl rfl rfl rfl rfl rfl rfl rfl ?_
          refine D.pure rfl rfl rfl rfl rfl rfl ?_
          refine D.gives (fun _ => (hcu _)) rfl rfl rfl rfl rfl rfl rfl rfl rfl ?_
          refine D.pure rfl rfl rfl rfl rfl rfl ?_
          refine D.done [(1, [], _), (2, [], _), (7, [], _), (8, [], _), (9, [], _), (10, [], _), (11, [], _), (12, [], _), (13, [], _), (14, [], _), (15, [], _), (16, [], _), (81, [], _)] ⟨rfl, rfl, rfl, rfl, rfl, rfl, rfl, rfl, rfl, rfl, rfl, rfl, rfl, trivial⟩ (hR _ _ _ rfl ?_); clear hR hB R
          refine G.cut (fun fr C' L' μ => (True) ∧ fr = [(1, [], .int .u8 a.toNat), (2, [], .int .u8 b.toNat), (7, [], .slice Am (m.map Rel.enc).length cm), (8, [], .slice Ax nx cx'), (9, [], .int .i64 ex), (10, [], .slice Aw ((withoutL m ua).map Rel.enc).length cw), (11, [], .int .i64 0), (12, [], w12), (13, [], w13'), (14, [], .int .i64 (if (m.take i).any (conf ua ub) = true then 14 else 0)), (15, [], .int .i64 i), (16, [], .pointer (some ⟨b16, 0, none⟩))] ∧ L' = [.obj b16 (.cells ⟨Rel.enc (ren ua ub x)⟩ 33 (0, 0)), .arr w12 33 3 i ((renameL (m.take i) ua ub).map Rel.enc).flatten, .arr w13' 33 3 (withoutL (m.take (i + 1)) ua).length ((withoutL (m.take (i + 1)) ua).map Rel.enc).flatten]) ?_ (fun fr C81 L81 μ hle81 hI => ?_)
          · skip
            refine G.cond rfl (fun h81 => ?_) (fun h81 => ?_)
            · skip
              have he : x.lower = ua := by simpa using (show (x.lower == ua) = true from h81)
              refine G.region rfl (fun R hR => ?_)
              refine D.pure rfl rfl rfl rfl rfl rfl ?_
              refine D.gives2 (hcv _) rfl rfl rfl rfl rfl rfl rfl (fun _ => rfl) ?_
              refine D.pure rfl rfl rfl rfl rfl rfl ?_
              refine D.store (j := 0) rfl rfl rfl rfl rfl rfl rfl rfl rfl rfl rfl rfl ?_
              refine D.done [(1, [], _), (2, [], _), (7, [], _), (8, [], _), (9, [], _), (10, [], _), (11, [], _), (12, [], _), (13, [], _), (14, [], _), (15, [], _), (16, [], _)] ⟨rfl, rfl, rfl, rfl, rfl, rfl, rfl, rfl, rfl, rfl, rfl, rfl, trivial⟩ (hR _ _ _ rfl ?_); clear hR R
              refine G.meet 0 (Mem.le.refl _) (fr' := [(1, [], _), (2, [], _), (7, [], _), (8, [], _), (9, [], _), (10, [], _), (11, [], _), (12, [], _), (13, [], _), (14, [], _), (15, [], _), (16, [], _)]) ⟨rfl, rfl, rfl, rfl, rfl, rfl, rfl, rfl, rfl, rfl, rfl, rfl, trivial⟩ ⟨trivial, rfl, by rw [ren, show renS ua ub x.lower = ub from if_pos he]; try rfl⟩
            · skip
              have he : ¬ x.lower = ua := by simpa using (show (x.lower == ua) = false from h81)
              refine G.meet 0 (Mem.le.refl _) (fr' := [(1, [], _), (2, [], _), (7, [], _), (8, [], _), (9, [], _), (10, [], _), (11, [], _), (12, [], _), (13, [], _), (14, [], _), (15, [], _), (16, [], _)]) ⟨rfl, rfl, rfl, rfl, rfl, rfl, rfl, rfl, rfl, rfl, rfl, rfl, trivial⟩ ⟨trivial, rfl, by rw [ren, show renS ua ub x.lower = x.lower from if_neg he]; try rfl⟩
          · skip
            obtain ⟨htriv, rfl, rfl⟩ := hI
            refine G.region rfl (fun R hR => ?_)
            refine D.pure rfl rfl rfl rfl rfl rfl ?_
            refine D.loadL (.head _) rfl rfl rfl rfl rfl rfl rfl rfl rfl ?_
            refine D.pure rfl rfl rfl rfl rfl rfl ?_
            refine D.loadL (.head _) rfl rfl rfl rfl rfl rfl rfl rfl rfl ?_
            refine D.pure rfl rfl rfl rfl rfl rfl ?_
            refine D.done [(1, [], _), (2, [], _), (7, [], _), (8, [], _), (9, [], _), (10, [], _), (11, [], _), (12, [], _), (13, [], _), (14, [], _), (15, [], _), (16, [], _), (89, [], (.bool (conf ua ub x)))] ⟨rfl, rfl, rfl, rfl, rfl, rfl, rfl, rfl, rfl, rfl, rfl, rfl, rfl, trivial⟩ (hR _ _ _ rfl ?_); clear hR R
            refine G.cut (fun fr C' L' μ => (True) ∧ fr = [(1, [], .int .u8 a.toNat), (2, [], .int .u8 b.toNat), (7, [], .slice Am (m.map Rel.enc).length cm), (8, [], .slice Ax nx cx'), (9, [], .int .i64 ex), (10, [], .slice Aw ((withoutL m ua).map Rel.enc).length cw), (11, [], .int .i64 0), (12, [], w12), (13, [], w13'), (14, [], .int .i64 (if (m.take (i + 1)).any (conf ua ub) = true then 14 else 0)), (15, [], .int .i64 i), (16, [], .pointer (some ⟨b16, 0, none⟩))] ∧ L' = [.obj b16 (.cells ⟨Rel.enc (ren ua ub x)⟩ 33 (0, 0)), .arr w12 33 3 i ((renameL (m.take i) ua ub).map Rel.enc).flatten, .arr w13' 33 3 (withoutL (m.take (i + 1)) ua).length ((withoutL (m.take (i + 1)) ua).map Rel.enc).flatten]) ?_ (fun fr C89 L89 μ hle89 hI => ?_)
            · skip
              refine G.cond rfl (fun h89 => ?_) (fun h89 => ?_)
              · skip
                refine G.region rfl (fun R hR => ?_)
                refine D.pure rfl rfl rfl rfl rfl rfl ?_
                refine D.done [(1, [], _), (2, [], _), (7, [], _), (8, [], _), (9, [], _), (10, [], _), (11, [], _), (12, [], _), (13, [], _), (14, [], _), (15, [], _), (16, [], _)] ⟨rfl, rfl, rfl, rfl, rfl, rfl, rfl, rfl, rfl, rfl, rfl, rfl, trivial⟩ (hR _ _ _ rfl ?_); clear hR R
                refine G.meet 0 (Mem.le.refl _) (fr' := [(1, [], _), (2, [], _), (7, [], _), (8, [], _), (9, [], _), (10, [], _), (11, [], _), (12, [], _), (13, [], _), (14, [], _), (15, [], _), (16, [], _)]) ⟨rfl, rfl, rfl, rfl, rfl, rfl, rfl, rfl, rfl, rfl, rfl, rfl, trivial⟩ ⟨trivial, by rw [ha1, h89, Bool.or_true]; try rfl, rfl⟩
              · skip
                refine G.meet 0 (Mem.le.refl _) (fr' := [(1, [], _), (2, [], _), (7, [], _), (8, [], _), (9, [], _), (10, [], _), (11, [], _), (12, [], _), (13, [], _), (14, [], _), (15, [], _), (16, [], _)]) ⟨rfl, rfl, rfl, rfl, rfl, rfl, rfl, rfl, rfl, rfl, rfl, rfl, trivial⟩ ⟨trivial, by rw [ha1, h89, Bool.or_false]; try rfl, rfl⟩
            · skip
              obtain ⟨htriv, rfl, rfl⟩ := hI
              refine G.region rfl (fun R hR => ?_)
              refine D.pure rfl rfl rfl rfl rfl rfl ?_
              refine D.loadL (.head _) rfl rfl rfl rfl rfl rfl rfl rfl rfl ?_
              refine D.buildSlice [Rel.enc (ren ua ub x)] rfl rfl rfl rfl rfl rfl rfl rfl rfl rfl rfl rfl (fun _ => rfl) (fun p92 C92 hle92 hs92 => ?_)
              refine D.append (j := 1) rfl rfl rfl rfl rfl rfl rfl rfl rfl rfl rfl hs92 rfl (by simp only [List.length_singleton, maxLen]; omega) (by simp only [List.length_singleton]; omega) (fun _ => rfl) (fun v93 => ?_)
              refine D.pure rfl rfl rfl rfl rfl rfl ?_
              refine D.done [(1, [], _), (2, [], _), (7, [], _), (8, [], _), (9, [], _), (10, [], _), (11, [], _), (12, [], _), (13, [], _), (14, [], _), (15, [], _)] ⟨rfl, rfl, rfl, rfl, rfl, rfl, rfl, rfl, rfl, rfl, rfl, trivial⟩ (hR _ _ _ rfl ?_); clear hR R
              refine G.region rfl (fun R hR => ?_)
              refine D.pure rfl rfl rfl rfl rfl rfl ?_
              refine D.i64 _ rfl rfl rfl rfl rfl (by omega) (by omega) rfl rfl ?_
              refine D.pure rfl rfl rfl rfl rfl rfl ?_
              refine D.done [(1, [], _), (2, [], _), (7, [], _), (8, [], _), (9, [], _), (10, [], _), (11, [], _), (12, [], _), (13, [], _), (14, [], _), (15, [], _)] ⟨rfl, rfl, rfl, rfl, rfl, rfl, rfl, rfl, rfl, rfl, rfl, trivial⟩ (hR _ _ _ rfl ?_); clear hR R
              refine G.dropE 1 rfl ?_
              refine G.eqL (L' := [.arr v93 33 3 (i + 1) ((renameL (m.take (i + 1)) ua ub).map Rel.enc).flatten, .arr w13' 33 3 (withoutL (m.take (i + 1)) ua).length ((withoutL (m.take (i + 1)) ua).map Rel.enc).flatten]) (by
                rw [hr1, List.map_append, List.flatten_append]; rfl) ?_
              refine G.again (m' := m.length - (i + 1)) (by omega) (hle0.trans (hle64.trans (hle73.trans (hle81.trans (hle89.trans hle92))))) (fr' := [(1, [], _), (2, [], _), (7, [], _), (8, [], _), (9, [], _), (10, [], _), (11, [], _), (12, [], _), (13, [], _), (14, [], _), (15, [], _)]) ⟨rfl, rfl, rfl, rfl, rfl, rfl, rfl, rfl, rfl, rfl, rfl, trivial⟩ ⟨i + 1, v93, w13', by omega, rfl, rfl, rfl⟩
    · skip
      simp only [List.length_map, decide_eq_false_iff_not] at h46
      have hie : i = m.length := by omega
      subst hie
      refine G.eqL (L' := [.arr w12 33 3 m.length ((renameL m ua ub).map Rel.enc).flatten, .arr w13 33 3 (withoutL m ua).length ((withoutL m ua).map Rel.enc).flatten]) (by rw [List.take_length]) ?_
      rw [List.take_length]
      have hrl : (renameL m ua ub).length ≤ 1000000 := by rw [renameL, List.length_map]; omega
      have hwl : (withoutL m ua).length ≤ 1000000 := by
        have h1 : (withoutL m ua).length ≤ m.length := List.length_filter_le _ _
        omega
      refine G.freezeArr 0 ((renameL m ua ub).map Rel.enc) rfl rfl (by intro r hr; obtain ⟨y, _, rfl⟩ := List.mem_map.1 hr; exact rel_len y) (by simp [renameL]) (fun Cf hlef hsf => ?_)
      refine G.freezeArr 0 ((withoutL m ua).map Rel.enc) rfl rfl (by intro r hr; obtain ⟨y, _, rfl⟩ := List.mem_map.1 hr; exact rel_len y) (by simp) (fun Cg hleg hsg => ?_)
      have hsf' := hsf.mono hleg
      have hsw' := ((hsw.mono hle0).mono hlef).mono hleg
      refine G.region rfl (fun R hR => ?_)
      iterate 5 refine D.pure rfl rfl rfl rfl rfl rfl ?_
      refine D.gives (fun _ => (same_spec _ _ _ (withoutL m ua) (withoutL m ua) hsw' hsg hwl hwl)) rfl rfl rfl rfl rfl rfl rfl rfl rfl ?_
      refine D.pure rfl rfl rfl rfl rfl rfl ?_
      refine D.pickOr rfl rfl rfl rfl rfl rfl rfl rfl ?_
      refine D.done [(8, [], _), (9, [], _), (12, [], _), (14, [], _), (101, [], (.bool (((0 : Int) != 0) || (!(decide (withoutL m ua = withoutL m ua))))))] ⟨rfl, rfl, rfl, rfl, rfl, trivial⟩ (hR _ _ _ rfl ?_); clear hR R
      refine G.cond rfl (fun h101 => ?_) (fun h101 => ?_)
      · skip
        simp at h101
      · skip
        refine G.region rfl (fun R hR => ?_)
        iterate 2 refine D.pure rfl rfl rfl rfl rfl rfl ?_
        refine D.done [(8, [], _), (9, [], _), (12, [], _), (14, [], _), (103, [], _)] ⟨rfl, rfl, rfl, rfl, rfl, trivial⟩ (hR _ _ _ rfl ?_); clear hR R
        refine G.cond rfl (fun h103 => ?_) (fun h103 => ?_)
        · skip
          have hc : m.any (conf ua ub) = true := by
            refine Classical.byContradiction fun hn => ?_
            rw [if_neg hn] at h103
            simp at h103
          refine G.region rfl (fun R hR => ?_)
          iterate 7 refine D.pure rfl rfl rfl rfl rfl rfl ?_
          refine D.pickAnd rfl rfl rfl rfl rfl rfl rfl rfl ?_
          refine D.pure rfl rfl rfl rfl rfl rfl ?_
          refine D.done [(6, [], _)] ⟨rfl, trivial⟩ (hR _ _ _ rfl ?_); clear hR R
          refine G.retN (G.dropAll (G.fin1 rfl rfl ?_))
          obtain ⟨_, hnx, hex⟩ | ⟨h, _⟩ := hx
          · subst hnx; subst hex
            refine ⟨?_, rfl⟩
            rw [if_pos hc]; rfl
          · rw [h] at hc; cases hc
        · skip
          have hc : m.any (conf ua ub) = false := by
            cases hn : m.any (conf ua ub) with
            | false => rfl
            | true => rw [if_pos hn] at h103; simp at h103
          obtain ⟨h, _⟩ | ⟨_, rfl, hsr⟩ := hx
          · rw [h] at hc; cases hc
          have hsr' := (((hsr.mono hle40).mono hle0).mono hlef).mono hleg
          refine G.region rfl (fun R hR => ?_)
          iterate 5 refine D.pure rfl rfl rfl rfl rfl rfl ?_
          refine D.gives (fun _ => (same_spec _ _ _ (renameL m ua ub) (renameL m ua ub) hsr' hsf' hrl hrl)) rfl rfl rfl rfl rfl rfl rfl rfl rfl ?_
          refine D.pickAnd rfl rfl rfl rfl rfl rfl rfl rfl ?_
          refine D.pure rfl rfl rfl rfl rfl rfl ?_
          refine D.done [(6, [], _)] ⟨rfl, trivial⟩ (hR _ _ _ rfl ?_); clear hR R
          refine G.retN (G.dropAll (G.fin1 rfl rfl ?_))
          exact ⟨by simp, rfl⟩
end Go.Proofs.YtjmfjobfmdhbfaaDoor
