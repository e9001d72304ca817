/- Layer 20: the function of the statement RelationKeeps. -/
import Derived.Test.YtjmfjobfmdhbfaaDoorK20t
import Derived.Test.YtjmfjobfmdhbfaaDoorK20n
import Derived.Test.YtjmfjobfmdhbfaaDoorJogN
namespace Go.Proofs.YtjmfjobfmdhbfaaDoor
open Go Go.Jog
set_option maxRecDepth 100000

/-! ### The model -/
theorem canon_cases (x : Rel) : canon x = x ∨ (canon x = ⟨x.kind, x.lower, x.upper⟩ ∧ x.kind = 4 ∧ Op.bytesLess x.lower x.upper = true) := by
  unfold canon
  split
  · rename_i h; exact .inr ⟨rfl, h⟩
  · exact .inl rfl
theorem canon_canon (x : Rel) : canon (canon x) = canon x := by
  rcases canon_cases x with h | ⟨h, h1, h2⟩
  · rw [h, h]
  · rw [h]
    unfold canon
    rw [if_neg]
    rintro ⟨_, h3⟩
    have := bl_trans _ _ _ h2 h3
    rw [bl_irrefl] at this
    cases this
theorem canon_err (x : Rel) : errOf (canon x) = errOf x := by
  rcases canon_cases x with h | ⟨h, _, _⟩
  · rw [h]
  · rw [h]
    unfold errOf
    by_cases h1 : x.kind < 1 ∨ 4 < x.kind
    · rw [if_pos h1, if_pos h1]
    · rw [if_neg h1, if_neg h1]
      by_cases h2 : isNameB x.upper = false ∨ isNameB x.lower = false
      · rw [if_pos h2, if_pos (Or.symm h2)]
      · rw [if_neg h2, if_neg (fun h3 => h2 (Or.symm h3))]
        by_cases h3 : x.upper = x.lower
        · rw [if_pos h3, if_pos h3.symm]
        · rw [if_neg h3, if_neg (fun h4 => h3 h4.symm)]
theorem canon_kind (x : Rel) : (canon x).kind = x.kind := by
  rcases canon_cases x with h | ⟨h, _, _⟩ <;> rw [h]
theorem canon_names (x : Rel) (s : Str) : (s = (canon x).upper ∨ s = (canon x).lower) ↔ (s = x.upper ∨ s = x.lower) := by
  rcases canon_cases x with h | ⟨h, _, _⟩ <;> rw [h]
  exact Or.comm
theorem canon_not4 {x : Rel} (h : x.kind ≠ 4) : canon x = x := by
  rcases canon_cases x with h1 | ⟨_, h1, _⟩
  · exact h1
  · exact absurd h1 h
theorem canon_short {x : Rel} (h : x.short) : (canon x).short := by
  rcases canon_cases x with h1 | ⟨h1, _, _⟩ <;> rw [h1]
  · exact h
  · exact ⟨h.2, h.1⟩
theorem mem_normalL {l : List Rel} {y : Rel} : y ∈ normalL l ↔ ∃ x ∈ l, y = canon x := by
  rw [normalL, mem_setL, List.mem_map]
  exact ⟨fun ⟨x, h1, h2⟩ => ⟨x, h1, h2.symm⟩, fun ⟨x, h1, h2⟩ => ⟨x, h1, h2.symm⟩⟩
theorem normalL_len (l : List Rel) : (normalL l).length ≤ l.length := by
  have h1 := accL_len l l.length
  rw [accL, List.take_length] at h1
  exact h1
theorem normalL_idem (l : List Rel) : normalL (normalL l) = normalL l := by
  refine tot_cmpR.unique (tot_cmpR.setL_strict _) (tot_cmpR.setL_strict _) (fun z => ?_)
  show z ∈ normalL (normalL l) ↔ z ∈ normalL l
  rw [mem_normalL]
  constructor
  · rintro ⟨x, hx, rfl⟩
    obtain ⟨y, hy, rfl⟩ := mem_normalL.1 hx
    rw [canon_canon]; exact hx
  · intro hz
    obtain ⟨y, hy, rfl⟩ := mem_normalL.1 hz
    exact ⟨_, hz, (canon_canon y).symm⟩
theorem normalL_units (l : List Rel) : unitsL (normalL l) = unitsL l := by
  refine tot_cmpS.unique (tot_cmpS.setL_strict _) (tot_cmpS.setL_strict _) (fun s => ?_)
  show s ∈ setL cmpS _ ↔ s ∈ setL cmpS _
  rw [mem_setL, mem_setL, mem_namesOf, mem_namesOf]
  constructor
  · rintro ⟨x, hx, h⟩
    obtain ⟨y, hy, rfl⟩ := mem_normalL.1 hx
    exact ⟨y, hy, (canon_names y s).1 h⟩
  · rintro ⟨x, hx, h⟩
    exact ⟨canon x, mem_normalL.2 ⟨x, hx, rfl⟩, (canon_names x s).2 h⟩
theorem mem_arcsOf {l : List Rel} {a : ArcE} : a ∈ arcsOf l ↔ ∃ x ∈ l, x.kind ≠ 4 ∧ a = ⟨x.lower, x.upper⟩ := by
  simp only [arcsOf, List.mem_map, List.mem_filter]
  constructor
  · rintro ⟨x, ⟨hx, hk⟩, rfl⟩
    exact ⟨x, hx, by simpa using hk, rfl⟩
  · rintro ⟨x, hx, hk, rfl⟩
    exact ⟨x, ⟨hx, by simpa using hk⟩, rfl⟩
theorem normalL_arcs (l : List Rel) : arcsL (normalL l) = arcsL l := by
  refine tot_cmpA.unique (tot_cmpA.setL_strict _) (tot_cmpA.setL_strict _) (fun s => ?_)
  show s ∈ setL cmpA _ ↔ s ∈ setL cmpA _
  rw [mem_setL, mem_setL, mem_arcsOf, mem_arcsOf]
  constructor
  · rintro ⟨x, hx, hk, rfl⟩
    obtain ⟨y, hy, rfl⟩ := mem_normalL.1 hx
    rw [canon_kind] at hk
    exact ⟨y, hy, hk, by rw [canon_not4 hk]⟩
  · rintro ⟨x, hx, hk, rfl⟩
    exact ⟨canon x, mem_normalL.2 ⟨x, hx, rfl⟩, by rw [canon_kind]; exact hk, by rw [canon_not4 hk]⟩
theorem errAll_of {l : List Rel} (hl : l.length ≤ 200) (h : ∀ x ∈ l, errOf x = 0) : errAll l = 0 := by
  rw [errAll, if_neg (by omega)]
  exact errs_zero h

def sNew : Str := [110, 101, 119, 95, 49]
theorem isNameNew : isNameB sNew = true := by decide
theorem renS_back {a s : Str} (h : s ≠ sNew) : renS sNew a (renS a sNew s) = s := by
  unfold renS
  by_cases h1 : s = a
  · rw [if_pos h1, if_pos rfl, h1]
  · rw [if_neg h1, if_neg h]
theorem one_new {s : Str} (h : s.length = 1) : s ≠ sNew := fun e => by rw [e] at h; cases h
theorem ren_back {a : Str} {x : Rel} (h1 : x.upper.length = 1) (h2 : x.lower.length = 1) : ren sNew a (ren a sNew x) = x := by
  simp only [ren, renS_back (one_new h1), renS_back (one_new h2)]
theorem ren_err {a : Str} {x : Rel} (h1 : x.upper.length = 1) (h2 : x.lower.length = 1) (he : errOf x = 0) : errOf (ren a sNew x) = 0 := by
  obtain ⟨k1, k2, n1, n2, hne⟩ := errOf_zero he
  have hn : ∀ {s : Str}, isNameB s = true → isNameB (renS a sNew s) = true := fun {s} hs => by
    unfold renS; split
    · exact isNameNew
    · exact hs
  have hx : ¬ (ren a sNew x).upper = (ren a sNew x).lower := fun e => by
    replace e : renS a sNew x.upper = renS a sNew x.lower := e
    have := congrArg (renS sNew a) e
    rw [renS_back (one_new h1), renS_back (one_new h2)] at this
    exact hne this
  rw [errOf, if_neg (by show ¬ (x.kind < 1 ∨ 4 < x.kind); omega), if_neg, if_neg hx]
  rintro (h | h)
  · rw [show isNameB (ren a sNew x).upper = true from hn n1] at h; cases h
  · rw [show isNameB (ren a sNew x).lower = true from hn n2] at h; cases h
theorem no_conf {a b : Str} {l : List Rel} (h : ∀ x ∈ l, errOf (ren a b x) = 0) : l.any (conf a b) = false := by
  refine Bool.eq_false_iff.2 (fun hx => ?_)
  obtain ⟨x, hxm, h1⟩ := List.any_eq_true.1 hx
  exact (errOf_zero (h x hxm)).2.2.2.2 (by simpa [conf] using h1)
theorem oppL_at {l : List Rel} {q i k : Nat} (h : (oppL l)[q]? = some (i, k)) : ∃ x y, l[i]? = some x ∧ l[k]? = some y ∧ x.upper = y.lower ∧ x.lower = y.upper := by
  have hm := List.mem_of_getElem? h
  obtain ⟨i', _, hm⟩ := mem_cat.1 hm
  obtain ⟨k', _, hm⟩ := mem_cat.1 hm
  obtain ⟨hop, he⟩ := mem_oneIf.1 hm
  simp only [Prod.mk.injEq] at he
  obtain ⟨rfl, rfl⟩ := he
  unfold opp at hop
  split at hop
  · rename_i x y hx hy
    simp only [oppB, Bool.and_eq_true, beq_iff_eq] at hop
    exact ⟨x, y, hx, hy, hop.2.1.2, hop.2.2⟩
  · cases hop

set_option maxHeartbeats 2000000 in
theorem keeps_spec (C : Mem) (v : Value) (l : List Seen) (a : UInt8) (hv : Sl C 3 v (l.map Seen.enc)) (hM : MaxLenAt C) : Gives cx.P 10 [v, .int .u8 a.toNat] C (.bool true) := by
  have hv0 := hv
  obtain ⟨A, c, rfl, _⟩ := hv0
  have ha := a.toNat_lt
  obtain ⟨m, hm⟩ : ∃ m, makeL l = m := ⟨_, rfl⟩
  have hml : m.length ≤ 12 := by rw [← hm]; simp [makeL]; omega
  have hms : ∀ x ∈ m, x.short := by rw [← hm]; exact makeL_short l
  have hme : errAll m = 0 := by rw [← hm]; exact makeL_ok l
  have hmo : ∀ x ∈ m, errOf x = 0 := by
    rw [← hm]; intro y hy
    obtain ⟨x, _, rfl⟩ := List.mem_map.1 hy
    exact mkR_ok x
  have hm1 : ∀ x ∈ m, x.upper.length = 1 ∧ x.lower.length = 1 := by
    rw [← hm]; intro y hy
    obtain ⟨x, _, rfl⟩ := List.mem_map.1 hy
    exact ⟨rfl, rfl⟩
  obtain ⟨n, hn⟩ : ∃ n, normalL m = n := ⟨_, rfl⟩
  have hnl : n.length ≤ 12 := by rw [← hn]; exact Nat.le_trans (normalL_len m) hml
  have hnn : normalL n = n := by rw [← hn]; exact normalL_idem m
  have hnu : unitsL n = unitsL m := by rw [← hn]; exact normalL_units m
  have hna : arcsL n = arcsL m := by rw [← hn]; exact normalL_arcs m
  have hns : ∀ x ∈ n, x.short := by
    rw [← hn]; intro y hy
    obtain ⟨x, hx, rfl⟩ := mem_normalL.1 hy
    exact canon_short (hms x hx)
  have hne : errAll n = 0 := errAll_of (by omega) (by
    rw [← hn]; intro y hy
    obtain ⟨x, hx, rfl⟩ := mem_normalL.1 hy
    rw [canon_err]; exact hmo x hx)
  obtain ⟨ua, hua⟩ : ∃ u, unitS a.toNat = u := ⟨_, rfl⟩
  have hual : ua.length < 1000000 := by rw [← hua]; simp [unitS]
  have hnua : isNameB ua = true := by rw [← hua]; exact unitS_name _
  have hcu : ∀ C', Gives cx.P 22 [.int .u8 a.toNat] C' (strV ua) := fun C' => by rw [← hua]; exact unit_spec _ _ (by omega) (by omega)
  obtain ⟨t, ht⟩ : ∃ t, renameL m ua sNew = t := ⟨_, rfl⟩
  have htl : t.length ≤ 12 := by rw [← ht, renameL, List.length_map]; exact hml
  have hto : ∀ x ∈ t, errOf x = 0 := by
    rw [← ht]; intro y hy
    obtain ⟨x, hx, rfl⟩ := List.mem_map.1 hy
    exact ren_err (hm1 x hx).1 (hm1 x hx).2 (hmo x hx)
  have hts : ∀ x ∈ t, x.short := fun x hx => by
    obtain ⟨_, _, h1, h2, _⟩ := errOf_zero (hto x hx)
    exact ⟨by have := (isNameB_no h1).2.2; omega, by have := (isNameB_no h2).2.2; omega⟩
  have hback : renameL t sNew ua = m := by
    rw [← ht, renameL, renameL, List.map_map]
    refine Eq.trans (List.map_congr_left (fun x hx => ?_)) (List.map_id _)
    exact ren_back (hm1 x hx).1 (hm1 x hx).2
  have hc1 : m.any (conf ua sNew) = false := no_conf (fun x hx => ren_err (hm1 x hx).1 (hm1 x hx).2 (hmo x hx))
  have hc2 : t.any (conf sNew ua) = false := no_conf (fun y hy => by
    rw [← ht] at hy
    obtain ⟨x, hx, rfl⟩ := List.mem_map.1 hy
    rw [ren_back (hm1 x hx).1 (hm1 x hx).2]
    exact hmo x hx)
  have hte : errAll t = 0 := errAll_of (by omega) hto
  have hen1 : errNames m [ua, sNew] = 0 := errNames_unit hme (by
    intro s hs; simp only [List.mem_cons, List.not_mem_nil, or_false] at hs; rcases hs with rfl | rfl; exact hnua; exact isNameNew)
  have hen2 : errNames t [sNew, ua] = 0 := errNames_unit hte (by
    intro s hs; simp only [List.mem_cons, List.not_mem_nil, or_false] at hs; rcases hs with rfl | rfl; exact isNameNew; exact hnua)
  refine Fn.intro (by kernel_rfl) Tryd.func10 rfl 201 rfl rfl (fun w0 => ?_)
  refine G.region rfl (fun R hR => ?_)
  refine D.pure rfl rfl rfl rfl rfl rfl ?_
  refine D.done [(0, [], _), (1, [], _)] ⟨rfl, rfl, trivial⟩ (hR _ _ _ rfl ?_); clear hR R
  refine G.region rfl (fun R hR => ?_)
  refine D.gives2 (known_spec _ hM) rfl rfl rfl rfl rfl rfl rfl (fun _ => rfl) ?_
  iterate 5 refine D.pure rfl rfl rfl rfl rfl rfl ?_
  refine D.pickOr rfl rfl rfl rfl rfl rfl rfl rfl ?_
  refine D.done [(0, [], _), (1, [], _), (30, [], _)] ⟨rfl, rfl, rfl, trivial⟩ (hR _ _ _ rfl ?_); clear hR R
  refine G.cond rfl (fun h30 => ?_) (fun h30 => ?_)
  · skip
    refine G.region rfl (fun R hR => ?_)
    refine D.gives2 (known_spec _ hM) rfl rfl rfl rfl rfl rfl rfl (fun _ => rfl) ?_
    refine D.pure rfl rfl rfl rfl rfl rfl ?_
    refine D.done [(4, [], _)] ⟨rfl, trivial⟩ (hR _ _ _ rfl ?_); clear hR R
    refine G.retN (G.dropAll (G.fin1 rfl rfl ?_))
    exact ⟨rfl, rfl⟩
  · skip
    simp only [List.length_map, Bool.or_eq_false_iff, decide_eq_false_iff_not] at h30
    refine G.region rfl (fun R hR => ?_)
    refine D.pure rfl rfl rfl rfl rfl rfl ?_
    refine D.callP (make_spec _ _ l hv) rfl rfl rfl rfl rfl rfl rfl (fun _ => rfl) (fun v33 C33 hle33 hq33 => ?_)
    refine D.pure rfl rfl rfl rfl rfl rfl ?_
    refine D.done [(1, [], _), (5, [], _)] ⟨rfl, rfl, trivial⟩ (hR _ _ _ rfl ?_); clear hR R
    rw [hm] at hq33
    have hm0 := hq33
    obtain ⟨Am, cm, hvm, _⟩ := id hq33
    subst hvm
    refine G.region rfl (fun R hR => ?_)
    refine D.pure rfl rfl rfl rfl rfl rfl ?_
    refine D.callP (normal_fn _ _ m hm0 (by omega) hms) rfl rfl rfl rfl rfl rfl rfl (fun _ => rfl) (fun v36 C36 hle36 hq36 => ?_)
    rcases hq36 with ⟨h, _⟩ | ⟨_, un, rfl, hsn⟩
    · exact absurd hme h
    rw [hn] at hsn
    obtain ⟨An, cn, hun, _⟩ := id hsn
    subst hun
    iterate 5 refine D.pure rfl rfl rfl rfl rfl rfl ?_
    refine D.done [(1, [], _), (5, [], _), (6, [], _), (7, [], _)] ⟨rfl, rfl, rfl, rfl, trivial⟩ (hR _ _ _ rfl ?_); clear hR R
    refine G.region rfl (fun R hR => ?_)
    refine D.pure rfl rfl rfl rfl rfl rfl ?_
    refine D.callP (normal_fn _ _ n hsn (by omega) hns) rfl rfl rfl rfl rfl rfl rfl (fun _ => rfl) (fun v41 C41 hle41 hq41 => ?_)
    rcases hq41 with ⟨h, _⟩ | ⟨_, uk, rfl, hsk⟩
    · exact absurd hne h
    rw [hnn] at hsk
    obtain ⟨Ak, ck, huk, _⟩ := id hsk
    subst huk
    iterate 5 refine D.pure rfl rfl rfl rfl rfl rfl ?_
    refine D.done [(1, [], _), (5, [], _), (6, [], _), (7, [], _), (8, [], _), (9, [], _)] ⟨rfl, rfl, rfl, rfl, rfl, rfl, trivial⟩ (hR _ _ _ rfl ?_); clear hR R
    refine G.region rfl (fun R hR => ?_)
    refine D.pure rfl rfl rfl rfl rfl rfl ?_
    refine D.callP (units_fn _ _ m ((hm0.mono hle36).mono hle41) (by omega) hms) rfl rfl rfl rfl rfl rfl rfl (fun _ => rfl) (fun v46 C46 hle46 hq46 => ?_)
    rcases hq46 with ⟨h, _⟩ | ⟨_, uu, rfl, hsu⟩
    · exact absurd hme h
    obtain ⟨Au, cu, huu, _⟩ := id hsu
    subst huu
    iterate 5 refine D.pure rfl rfl rfl rfl rfl rfl ?_
    refine D.done [(1, [], _), (5, [], _), (6, [], _), (7, [], _), (8, [], _), (9, [], _), (10, [], _), (11, [], _)] ⟨rfl, rfl, rfl, rfl, rfl, rfl, rfl, rfl, trivial⟩ (hR _ _ _ rfl ?_); clear hR R
    refine G.region rfl (fun R hR => ?_)
    refine D.pure rfl rfl rfl rfl rfl rfl ?_
    refine D.callP (units_fn _ _ n ((hsn.mono hle41).mono hle46) (by omega) hns) rfl rfl rfl rfl rfl rfl rfl (fun _ => rfl) (fun v51 C51 hle51 hq51 => ?_)
    rcases hq51 with ⟨h, _⟩ | ⟨_, uv, rfl, hsv⟩
    · exact absurd hne h
    rw [hnu] at hsv
    obtain ⟨Av, cv, huv, _⟩ := id hsv
    subst huv
    iterate 5 refine D.pure rfl rfl rfl rfl rfl rfl ?_
    refine D.done [(1, [], _), (5, [], _), (6, [], _), (7, [], _), (8, [], _), (9, [], _), (10, [], _), (11, [], _), (12, [], _), (13, [], _)] ⟨rfl, rfl, rfl, rfl, rfl, rfl, rfl, rfl, rfl, rfl, trivial⟩ (hR _ _ _ rfl ?_); clear hR R
    refine G.region rfl (fun R hR => ?_)
    iterate 5 refine D.pure rfl rfl rfl rfl rfl rfl ?_
    refine D.pickOr rfl rfl rfl rfl rfl rfl rfl rfl ?_
    iterate 3 refine D.pure rfl rfl rfl rfl rfl rfl ?_
    refine D.pickOr rfl rfl rfl rfl rfl rfl rfl rfl ?_
    iterate 3 refine D.pure rfl rfl rfl rfl rfl rfl ?_
    refine D.pickOr rfl rfl rfl rfl rfl rfl rfl rfl ?_
    iterate 3 refine D.pure rfl rfl rfl rfl rfl rfl ?_
    refine D.gives (fun _ => (same_spec _ _ _ n n (((hsn.mono hle41).mono hle46).mono hle51) ((hsk.mono hle46).mono hle51) (by omega) (by omega))) rfl rfl rfl rfl rfl rfl rfl rfl rfl ?_
    refine D.pure rfl rfl rfl rfl rfl rfl ?_
    refine D.pickOr rfl rfl rfl rfl rfl rfl rfl rfl ?_
    iterate 6 refine D.pure rfl rfl rfl rfl rfl rfl ?_
    refine D.pickOr rfl rfl rfl rfl rfl rfl rfl rfl ?_
    refine D.done [(1, [], _), (5, [], _), (6, [], _), (10, [], _), (12, [], _), (80, [], (.bool ((((((((0 : Int) != 0) || ((0 : Int) != 0)) || ((0 : Int) != 0)) || ((0 : Int) != 0)) || !(decide (n = n))) || ((((unitsL m).map encS).length : Int) != (((unitsL m).map encS).length : Int))))))] ⟨rfl, rfl, rfl, rfl, rfl, rfl, trivial⟩ (hR _ _ _ rfl ?_); clear hR R
    refine G.cond rfl (fun h80 => ?_) (fun h80 => ?_)
    · skip
      simp at h80
    · skip
      refine G.region rfl (fun R hR => ?_)
      refine D.pure rfl rfl rfl rfl rfl rfl ?_
      refine D.done [(1, [], _), (5, [], _), (6, [], _), (10, [], _), (12, [], _), (14, [], _)] ⟨rfl, rfl, rfl, rfl, rfl, rfl, trivial⟩ (hR _ _ _ rfl ?_); clear hR R
      refine G.loop (fun fr C' L' μ => ∃ (i : Nat), (i ≤ (unitsL m).length) ∧ fr = [(1, [], .int .u8 a.toNat), (5, [], .slice Am (m.map Rel.enc).length cm), (6, [], .slice An (n.map Rel.enc).length cn), (10, [], .slice Au ((unitsL m).map encS).length cu), (12, [], .slice Av ((unitsL m).map encS).length cv), (14, [], .int .i64 i)] ∧ L' = [] ∧ μ = (unitsL m).length - i) (fr' := [(1, [], _), (5, [], _), (6, [], _), (10, [], _), (12, [], _), (14, [], _)]) ⟨rfl, rfl, rfl, rfl, rfl, rfl, trivial⟩ ⟨0, Nat.zero_le _, rfl, rfl, rfl⟩ (fun fr C0' L0' m hle0 hI => ?_)
      obtain ⟨i, hi, rfl, rfl, rfl⟩ := hI
      have hcap := Sl.cap hsu
      simp only [List.length_map, maxLen] at hcap
      refine G.region rfl (fun R hR => ?_)
      iterate 4 refine D.pure rfl rfl rfl rfl rfl rfl ?_
      refine D.done [(1, [], _), (5, [], _), (6, [], _), (10, [], _), (12, [], _), (14, [], _), (84, [], _)] ⟨rfl, rfl, rfl, rfl, rfl, rfl, rfl, trivial⟩ (hR _ _ _ rfl ?_); clear hR R
      refine G.cond rfl (fun h84 => ?_) (fun h84 => ?_)
      · skip
        simp only [List.length_map, decide_eq_true_eq] at h84
        have hil : i < (unitsL m).length := by omega
        obtain ⟨s, hs⟩ : ∃ s, (unitsL m)[i]? = some s := ⟨(unitsL m)[i], List.getElem?_eq_getElem hil⟩
        have hrs : ((unitsL m).map encS)[i]? = some (encS s) := by simp [hs]
        refine G.draw [0, 1, 2, 3, 4, 5, 6, 7, 8] [] rfl (by kernel_rfl) (fun R hB hR => ?_)
        iterate 2 refine D.pure rfl rfl rfl rfl rfl rfl ?_
        refine D.index0 ((hsu.mono hle51).mono hle0) rfl rfl rfl rfl rfl rfl rfl rfl rfl rfl (by omega) hrs (fun _ => rfl) (fun p89 hp89 => ?_)
        refine D.loadP0 hp89 rfl rfl rfl rfl rfl rfl rfl rfl ?_
        iterate 2 refine D.pure rfl rfl rfl rfl rfl rfl ?_
        refine D.index0 (hsv.mono hle0) rfl rfl rfl rfl rfl rfl rfl rfl rfl rfl (by omega) hrs (fun _ => rfl) (fun p93 hp93 => ?_)
        refine D.loadP0 hp93 rfl rfl rfl rfl rfl rfl rfl rfl ?_
        refine D.pure rfl rfl rfl rfl rfl rfl ?_
        refine D.done [(1, [], _), (5, [], _), (6, [], _), (10, [], _), (12, [], _), (14, [], _), (95, [], (.bool (!(s == s))))] ⟨rfl, rfl, rfl, rfl, rfl, rfl, rfl, trivial⟩ (hR _ _ _ rfl ?_); clear hR hB R
        refine G.cond rfl (fun h95 => ?_) (fun h95 => ?_)
        · skip
          simp at h95
        · skip
          refine G.region rfl (fun R hR => ?_)
          refine D.pure rfl rfl rfl rfl rfl rfl ?_
          refine D.i64 _ rfl rfl rfl rfl rfl (by omega) (by omega) rfl rfl ?_
          refine D.pure rfl rfl rfl rfl rfl rfl ?_
          refine D.done [(1, [], _), (5, [], _), (6, [], _), (10, [], _), (12, [], _), (14, [], _)] ⟨rfl, rfl, rfl, rfl, rfl, rfl, trivial⟩ (hR _ _ _ rfl ?_); clear hR R
          refine G.again (m' := (unitsL m).length - (i + 1)) (by omega) hle0 (fr' := [(1, [], _), (5, [], _), (6, [], _), (10, [], _), (12, [], _), (14, [], _)]) ⟨rfl, rfl, rfl, rfl, rfl, rfl, trivial⟩ ⟨i + 1, by omega, rfl, rfl, rfl⟩
      · skip
        skip
        refine G.region rfl (fun R hR => ?_)
        refine D.pure rfl rfl rfl rfl rfl rfl ?_
        refine D.callP (arcs_fn _ _ m (((((hm0.mono hle36).mono hle41).mono hle46).mono hle51).mono hle0) (by omega) hms) rfl rfl rfl rfl rfl rfl rfl (fun _ => rfl) (fun v98 C98 hle98 hq98 => ?_)
        rcases hq98 with ⟨h, _⟩ | ⟨_, ux, rfl, hsx⟩
        · exact absurd hme h
        obtain ⟨Ax, cx', hux, _⟩ := id hsx
        subst hux
        iterate 5 refine D.pure rfl rfl rfl rfl rfl rfl ?_
        refine D.done [(1, [], _), (5, [], _), (6, [], _), (7, [], _), (15, [], _)] ⟨rfl, rfl, rfl, rfl, rfl, trivial⟩ (hR _ _ _ rfl ?_); clear hR R
        refine G.region rfl (fun R hR => ?_)
        refine D.pure rfl rfl rfl rfl rfl rfl ?_
        refine D.callP (arcs_fn _ _ n (((((hsn.mono hle41).mono hle46).mono hle51).mono hle0).mono hle98) (by omega) hns) rfl rfl rfl rfl rfl rfl rfl (fun _ => rfl) (fun v103 C103 hle103 hq103 => ?_)
        rcases hq103 with ⟨h, _⟩ | ⟨_, uy, rfl, hsy⟩
        · exact absurd hne h
        rw [hna] at hsy
        obtain ⟨Ay, cy, huy, _⟩ := id hsy
        subst huy
        iterate 5 refine D.pure rfl rfl rfl rfl rfl rfl ?_
        refine D.done [(1, [], _), (5, [], _), (7, [], _), (9, [], _), (15, [], _), (16, [], _)] ⟨rfl, rfl, rfl, rfl, rfl, rfl, trivial⟩ (hR _ _ _ rfl ?_); clear hR R
        refine G.region rfl (fun R hR => ?_)
        iterate 5 refine D.pure rfl rfl rfl rfl rfl rfl ?_
        refine D.pickOr rfl rfl rfl rfl rfl rfl rfl rfl ?_
        iterate 6 refine D.pure rfl rfl rfl rfl rfl rfl ?_
        refine D.pickOr rfl rfl rfl rfl rfl rfl rfl rfl ?_
        refine D.done [(1, [], _), (5, [], _), (15, [], _), (16, [], _), (118, [], (.bool ((((0 : Int) != 0) || ((0 : Int) != 0)) || ((((arcsL m).map ArcE.enc).length : Int) != (((arcsL m).map ArcE.enc).length : Int)))))] ⟨rfl, rfl, rfl, rfl, rfl, trivial⟩ (hR _ _ _ rfl ?_); clear hR R
        refine G.cond rfl (fun h118 => ?_) (fun h118 => ?_)
        · skip
          simp at h118
        · skip
          refine G.region rfl (fun R hR => ?_)
          refine D.pure rfl rfl rfl rfl rfl rfl ?_
          refine D.done [(1, [], _), (5, [], _), (15, [], _), (16, [], _), (17, [], _)] ⟨rfl, rfl, rfl, rfl, rfl, trivial⟩ (hR _ _ _ rfl ?_); clear hR R
          refine G.loop (fun fr C' L' μ => ∃ (i : Nat), (i ≤ (arcsL m).length) ∧ fr = [(1, [], .int .u8 a.toNat), (5, [], .slice Am (m.map Rel.enc).length cm), (15, [], .slice Ax ((arcsL m).map ArcE.enc).length cx'), (16, [], .slice Ay ((arcsL m).map ArcE.enc).length cy), (17, [], .int .i64 i)] ∧ L' = [] ∧ μ = (arcsL m).length - i) (fr' := [(1, [], _), (5, [], _), (15, [], _), (16, [], _), (17, [], _)]) ⟨rfl, rfl, rfl, rfl, rfl, trivial⟩ ⟨0, Nat.zero_le _, rfl, rfl, rfl⟩ (fun fr C1' L1' m hle1 hI => ?_)
          obtain ⟨i, hi', rfl, rfl, rfl⟩ := hI
          have hcap1 := Sl.cap hsx
          simp only [List.length_map, maxLen] at hcap1
          refine G.region rfl (fun R hR => ?_)
          iterate 4 refine D.pure rfl rfl rfl rfl rfl rfl ?_
          refine D.done [(1, [], _), (5, [], _), (15, [], _), (16, [], _), (17, [], _), (122, [], _)] ⟨rfl, rfl, rfl, rfl, rfl, rfl, trivial⟩ (hR _ _ _ rfl ?_); clear hR R
          refine G.cond rfl (fun h122 => ?_) (fun h122 => ?_)
          · skip
            simp only [List.length_map, decide_eq_true_eq] at h122
            have hil : i < (arcsL m).length := by omega
            obtain ⟨s, hs⟩ : ∃ s, (arcsL m)[i]? = some s := ⟨(arcsL m)[i], List.getElem?_eq_getElem hil⟩
            have hrs : ((arcsL m).map ArcE.enc)[i]? = some (ArcE.enc s) := by simp [hs]
            refine G.draw [0, 1, 2, 3, 4, 5, 6, 7, 8] [] rfl (by kernel_rfl) (fun R hB hR => ?_)
            iterate 2 refine D.pure rfl rfl rfl rfl rfl rfl ?_
            refine D.index0 ((hsx.mono hle103).mono hle1) rfl rfl rfl rfl rfl rfl rfl rfl rfl rfl (by omega) hrs (fun _ => rfl) (fun p127 hp127 => ?_)
            refine D.loadP0 hp127 rfl rfl rfl rfl rfl rfl rfl rfl ?_
            iterate 2 refine D.pure rfl rfl rfl rfl rfl rfl ?_
            refine D.index0 (hsy.mono hle1) rfl rfl rfl rfl rfl rfl rfl rfl rfl rfl (by omega) hrs (fun _ => rfl) (fun p131 hp131 => ?_)
            refine D.loadP0 hp131 rfl rfl rfl rfl rfl rfl rfl rfl ?_
            refine D.neAgg (!(decide (s = s))) (by kernel_rfl) rfl rfl rfl rfl rfl rfl rfl rfl (fun _ => congrArg (fun q => !q) (eqRow_arc s s)) rfl rfl ?_
            refine D.done [(1, [], _), (5, [], _), (15, [], _), (16, [], _), (17, [], _), (133, [], _)] ⟨rfl, rfl, rfl, rfl, rfl, rfl, trivial⟩ (hR _ _ _ rfl ?_); clear hR hB R
            refine G.cond rfl (fun h133 => ?_) (fun h133 => ?_)
            · skip
              simp at h133
            · skip
              refine G.region rfl (fun R hR => ?_)
              refine D.pure rfl rfl rfl rfl rfl rfl ?_
              refine D.i64 _ rfl rfl rfl rfl rfl (by omega) (by omega) rfl rfl ?_
              refine D.pure rfl rfl rfl rfl rfl rfl ?_
              refine D.done [(1, [], _), (5, [], _), (15, [], _), (16, [], _), (17, [], _)] ⟨rfl, rfl, rfl, rfl, rfl, trivial⟩ (hR _ _ _ rfl ?_); clear hR R
              refine G.again (m' := (arcsL m).length - (i + 1)) (by omega) hle1 (fr' := [(1, [], _), (5, [], _), (15, [], _), (16, [], _), (17, [], _)]) ⟨rfl, rfl, rfl, rfl, rfl, trivial⟩ ⟨i + 1, by omega, rfl, rfl, rfl⟩
          · skip
            have hm9 := ((((((((hm0.mono hle36).mono hle41).mono hle46).mono hle51).mono hle0).mono hle98).mono hle103).mono hle1)
            refine G.region rfl (fun R hR => ?_)
            iterate 2 refine D.pure rfl rfl rfl rfl rfl rfl ?_
            refine D.gives2 (hcu _) rfl rfl rfl rfl rfl rfl rfl (fun _ => rfl) ?_
            refine D.callP (rename_fn _ _ m ua sNew hm9 (by omega) hms hual (by decide)) rfl rfl rfl rfl rfl rfl rfl (fun _ => rfl) (fun v138 C138 hle138 hq138 => ?_)
            rcases hq138 with ⟨h, _⟩ | ⟨_, h, _⟩ | ⟨_, _, ut, rfl, hst⟩
            · exact absurd hen1 h
            · rw [hc1] at h; cases h
            rw [ht] at hst
            obtain ⟨At, ct, hut, _⟩ := id hst
            subst hut
            iterate 5 refine D.pure rfl rfl rfl rfl rfl rfl ?_
            refine D.done [(1, [], _), (5, [], _), (7, [], _), (18, [], _)] ⟨rfl, rfl, rfl, rfl, trivial⟩ (hR _ _ _ rfl ?_); clear hR R
            refine G.region rfl (fun R hR => ?_)
            iterate 2 refine D.pure rfl rfl rfl rfl rfl rfl ?_
            refine D.done [(1, [], _), (5, [], _), (18, [], _), (142, [], _)] ⟨rfl, rfl, rfl, rfl, trivial⟩ (hR _ _ _ rfl ?_); clear hR R
            refine G.cond rfl (fun h142 => ?_) (fun h142 => ?_)
            · skip
              simp at h142
            · skip
              refine G.region rfl (fun R hR => ?_)
              iterate 2 refine D.pure rfl rfl rfl rfl rfl rfl ?_
              refine D.gives2 (hcu _) rfl rfl rfl rfl rfl rfl rfl (fun _ => rfl) ?_
              refine D.callP (rename_fn _ _ t sNew ua hst (by omega) hts (by decide) hual) rfl rfl rfl rfl rfl rfl rfl (fun _ => rfl) (fun v147 C147 hle147 hq147 => ?_)
              rcases hq147 with ⟨h, _⟩ | ⟨_, h, _⟩ | ⟨_, _, ub, rfl, hsb⟩
              · exact absurd hen2 h
              · rw [hc2] at h; cases h
              rw [hback] at hsb
              obtain ⟨Ab, cb, hub, _⟩ := id hsb
              subst hub
              iterate 5 refine D.pure rfl rfl rfl rfl rfl rfl ?_
              refine D.done [(5, [], _), (9, [], _), (19, [], _)] ⟨rfl, rfl, rfl, trivial⟩ (hR _ _ _ rfl ?_); clear hR R
              refine G.region rfl (fun R hR => ?_)
              refine D.pure rfl rfl rfl rfl rfl rfl ?_
              refine D.callP (opposed_fn _ _ m ((hm9.mono hle138).mono hle147) (by omega) hms) rfl rfl rfl rfl rfl rfl rfl (fun _ => rfl) (fun v152 C152 hle152 hq152 => ?_)
              rcases hq152 with ⟨h, _⟩ | ⟨_, up, rfl, hsp⟩
              · exact absurd hme h
              obtain ⟨Ap, cp, hup, _⟩ := id hsp
              subst hup
              iterate 5 refine D.pure rfl rfl rfl rfl rfl rfl ?_
              refine D.done [(5, [], _), (9, [], _), (11, [], _), (19, [], _), (20, [], _)] ⟨rfl, rfl, rfl, rfl, rfl, trivial⟩ (hR _ _ _ rfl ?_); clear hR R
              refine G.region rfl (fun R hR => ?_)
              iterate 5 refine D.pure rfl rfl rfl rfl rfl rfl ?_
              refine D.pickOr rfl rfl rfl rfl rfl rfl rfl rfl ?_
              iterate 3 refine D.pure rfl rfl rfl rfl rfl rfl ?_
              refine D.gives (fun _ => (same_spec _ _ _ m m (hsb.mono hle152) (((hm9.mono hle138).mono hle147).mono hle152) (by omega) (by omega))) rfl rfl rfl rfl rfl rfl rfl rfl rfl ?_
              refine D.pure rfl rfl rfl rfl rfl rfl ?_
              refine D.pickOr rfl rfl rfl rfl rfl rfl rfl rfl ?_
              refine D.done [(5, [], _), (20, [], _), (166, [], (.bool ((((0 : Int) != 0) || ((0 : Int) != 0)) || !(decide (m = m)))))] ⟨rfl, rfl, rfl, trivial⟩ (hR _ _ _ rfl ?_); clear hR R
              refine G.cond rfl (fun h166 => ?_) (fun h166 => ?_)
              · skip
                simp at h166
              · skip
                refine G.region rfl (fun R hR => ?_)
                refine D.pure rfl rfl rfl rfl rfl rfl ?_
                refine D.done [(5, [], _), (20, [], _), (21, [], _)] ⟨rfl, rfl, rfl, trivial⟩ (hR _ _ _ rfl ?_); clear hR R
                refine G.loop (fun fr C' L' μ => ∃ (i : Nat), (i ≤ (oppL m).length) ∧ fr = [(5, [], .slice Am (m.map Rel.enc).length cm), (20, [], .slice Ap ((oppL m).map pairI).length cp), (21, [], .int .i64 i)] ∧ L' = [] ∧ μ = (oppL m).length - i) (fr' := [(5, [], _), (20, [], _), (21, [], _)]) ⟨rfl, rfl, rfl, trivial⟩ ⟨0, Nat.zero_le _, rfl, rfl, rfl⟩ (fun fr C2' L2' m hle2 hI => ?_)
                obtain ⟨i, hi'', rfl, rfl, rfl⟩ := hI
                have hcap2 := Sl.cap hsp
                simp only [List.length_map, maxLen] at hcap2
                refine G.region rfl (fun R hR => ?_)
                iterate 4 refine D.pure rfl rfl rfl rfl rfl rfl ?_
                refine D.done [(5, [], _), (20, [], _), (21, [], _), (170, [], _)] ⟨rfl, rfl, rfl, rfl, trivial⟩ (hR _ _ _ rfl ?_); clear hR R
                refine G.cond rfl (fun h170 => ?_) (fun h170 => ?_)
                · skip
                  simp only [List.length_map, decide_eq_true_eq] at h170
                  have hil : i < (oppL m).length := by omega
                  obtain ⟨⟨q1, q2⟩, hs⟩ : ∃ s, (oppL m)[i]? = some s := ⟨(oppL m)[i], List.getElem?_eq_getElem hil⟩
                  have hrs : ((oppL m).map pairI)[i]? = some (pairI (q1, q2)) := by simp [hs]
                  obtain ⟨one, two, hone, htwo, he1, he2⟩ := oppL_at hs
                  have hmx := (((hm9.mono hle138).mono hle147).mono hle152).mono hle2
                  refine G.drawT (.cut [0, 1, 2, 3, 4, 5, 6, 7, 8, 9, 10, 11, 12, 13, 14, 15] (.alt 16 (.fin [17, 18, 19]) (.alt 17 (.fin [16, 18, 19]) .stop))) [(5, 0), (7, 0), (13, 0), (15, 0)] rfl rfl (by kernel_rfl) (fun R hB hR hH => ?_)
                  refine G.share2 hR (fun b22 b23 => [(5, [], .slice Am (m.map Rel.enc).length cm), (20, [], .slice Ap ((oppL m).map pairI).length cp), (21, [], .int .i64 i), (22, [], .pointer (some ⟨b22, 0, none⟩)), (23, [], .pointer (some ⟨b23, 0, none⟩))]) (fun b22 b23 => [.obj b22 (.cells ⟨one.enc⟩ 33 (0, 0)), .obj b23 (.cells ⟨two.enc⟩ 33 (0, 0))]) (fun hc => ?_) (fun b22 b23 => ?_)
                  · skip
                    iterate 3 refine D.pure rfl rfl rfl rfl rfl rfl ?_
                    refine D.index0 (hsp.mono hle2) rfl rfl rfl rfl rfl rfl rfl rfl rfl rfl (by omega) hrs (fun _ => rfl) (fun p176 hp176 => ?_)
                    refine D.indexA rfl rfl rfl rfl rfl rfl rfl rfl rfl (fun _ => hp176) (fun _ => ⟨by omega, (by omega)⟩) (fun _ => rfl) rfl (fun p177 hp1770 => ?_)
                    have hp177 := hp1770 trivial
                    refine D.loadB (fun _ => (hp177.mono hB)) rfl rfl rfl rfl rfl rfl rfl rfl rfl ?_
                    refine D.index0 hmx rfl rfl rfl rfl rfl rfl rfl rfl rfl rfl (by omega) (row := one.enc) (by simp [hone]) (fun _ => rfl) (fun p179 hp179 => ?_)
                    refine D.loadB (fun _ => (hp179.mono hB)) rfl rfl rfl rfl rfl rfl rfl rfl rfl ?_
                    iterate 3 refine D.pure rfl rfl rfl rfl rfl rfl ?_
                    refine D.index0 (hsp.mono hle2) rfl rfl rfl rfl rfl rfl rfl rfl rfl rfl (by omega) hrs (fun _ => rfl) (fun p184 hp184 => ?_)
                    refine D.indexA rfl rfl rfl rfl rfl rfl rfl rfl rfl (fun _ => hp184) (fun _ => ⟨by omega, (by omega)⟩) (fun _ => rfl) rfl (fun p185 hp1850 => ?_)
                    have hp185 := hp1850 trivial
                    refine D.loadB (fun _ => (hp185.mono hB)) rfl rfl rfl rfl rfl rfl rfl rfl rfl ?_
                    refine D.index0 hmx rfl rfl rfl rfl rfl rfl rfl rfl rfl rfl (by omega) (row := two.enc) (by simp [htwo]) (fun _ => rfl) (fun p187 hp187 => ?_)
                    refine D.loadB (fun _ => (hp187.mono hB)) rfl rfl rfl rfl rfl rfl rfl rfl rfl ?_
                    refine D.fork hH rfl ⟨?_, ?_, trivial⟩
                    · skip
                      refine D.alloc rfl rfl rfl rfl rfl (fun _ => rfl) (fun b22 => ?_)
                      refine D.alloc rfl rfl rfl rfl rfl (fun _ => rfl) (fun b23 => ?_)
                      refine D.store (j := 1) rfl rfl rfl rfl rfl rfl rfl rfl rfl rfl rfl rfl ?_
                      refine D.store (j := 1) rfl rfl rfl rfl rfl rfl rfl rfl rfl rfl rfl rfl ?_
                      exact D.done [(5, [], _), (20, [], _), (21, [], _), (22, [], _), (23, [], _)] ⟨rfl, rfl, rfl, rfl, rfl, trivial⟩ (hR _ _ _ rfl (G.perm _ ((ent_perm (j := 1) rfl).trans (List.Perm.cons _ (List.Perm.refl _))) (hc b22 b23)))
                    · skip
                      refine D.alloc rfl rfl rfl rfl rfl (fun _ => rfl) (fun b23 => ?_)
                      refine D.alloc rfl rfl rfl rfl rfl (fun _ => rfl) (fun b22 => ?_)
                      refine D.store (j := 0) rfl rfl rfl rfl rfl rfl rfl rfl rfl rfl rfl rfl ?_
                      refine D.store (j := 1) rfl rfl rfl rfl rfl rfl rfl rfl rfl rfl rfl rfl ?_
                      exact D.done [(5, [], _), (20, [], _), (21, [], _), (22, [], _), (23, [], _)] ⟨rfl, rfl, rfl, rfl, rfl, trivial⟩ (hR _ _ _ rfl (G.perm _ ((ent_perm (j := 1) rfl).trans (List.Perm.cons _ (List.Perm.refl _))) (hc b22 b23)))
                  clear hR hH hB R
                  refine G.region rfl (fun R hR => ?_)
                  refine D.pure rfl rfl rfl rfl rfl rfl ?_
                  refine D.loadL (.head _) rfl rfl rfl rfl rfl rfl rfl rfl rfl ?_
                  refine D.pure rfl rfl rfl rfl rfl rfl ?_
                  refine D.loadL (.tail _ (.head _)) rfl rfl rfl rfl rfl rfl rfl rfl rfl ?_
                  iterate 3 refine D.pure rfl rfl rfl rfl rfl rfl ?_
                  refine D.loadL (.head _) rfl rfl rfl rfl rfl rfl rfl rfl rfl ?_
                  refine D.pure rfl rfl rfl rfl rfl rfl ?_
                  refine D.loadL (.tail _ (.head _)) rfl rfl rfl rfl rfl rfl rfl rfl rfl ?_
                  refine D.pure rfl rfl rfl rfl rfl rfl ?_
                  refine D.pickOr rfl rfl rfl rfl rfl rfl rfl rfl ?_
                  refine D.done [(5, [], _), (20, [], _), (21, [], _), (200, [], (.bool ((!(one.upper == two.lower)) || (!(one.lower == two.upper)))))] ⟨rfl, rfl, rfl, rfl, trivial⟩ (hR _ _ _ rfl ?_); clear hR R
                  refine G.cond rfl (fun h200 => ?_) (fun h200 => ?_)
                  · skip
                    simp [he1, he2] at h200
                  · skip
                    refine G.region rfl (fun R hR => ?_)
                    refine D.pure rfl rfl rfl rfl rfl rfl ?_
                    refine D.i64 _ rfl rfl rfl rfl rfl (by omega) (by omega) rfl rfl ?_
                    refine D.pure rfl rfl rfl rfl rfl rfl ?_
                    refine D.done [(5, [], _), (20, [], _), (21, [], _)] ⟨rfl, rfl, rfl, trivial⟩ (hR _ _ _ rfl ?_); clear hR R
                    refine G.dropAll ?_
                    refine G.again (m' := (oppL m).length - (i + 1)) (by omega) hle2 (fr' := [(5, [], _), (20, [], _), (21, [], _)]) ⟨rfl, rfl, rfl, trivial⟩ ⟨i + 1, by omega, rfl, rfl, rfl⟩
                · skip
                  refine G.region rfl (fun R hR => ?_)
                  refine D.pure rfl rfl rfl rfl rfl rfl ?_
                  refine D.done [(4, [], _)] ⟨rfl, trivial⟩ (hR _ _ _ rfl ?_); clear hR R
                  refine G.retN (G.dropAll (G.fin1 rfl rfl ?_))
                  exact ⟨rfl, rfl⟩
end Go.Proofs.YtjmfjobfmdhbfaaDoor
