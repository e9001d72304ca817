/- FOR ANY DESCRIPTIONS ContradictionThrough ANSWERS true, and leaves them as they were. -/
import Derived.Test.YtcghlfepfcagbaaGreatG10
import Derived.Test.YtcghlfepfcagbaaGreatShelf
namespace Go.Proofs.YtcghlfepfcagbaaGreat
open Go Go.Jog
set_option maxRecDepth 100000

theorem greedy_way {l : List Rel} {t : Str} (ht : t ∈ unitsL l) : ∀ {n : Nat} {s : Str}, s ∈ unitsL l → leastW (arcsOf l) (posS (unitsL l) t) (posS (unitsL l) s) = (n : Int) →
    WayL l s (greedyN l t n s) ∧ (greedyN l t n s).length = n ∧ endL l s (greedyN l t n s) = t ∧ ∀ y, WayL l s y → y.length = n → endL l s y = t → LeL (greedyN l t n s) y
  | 0, s, hs, h => by
    refine ⟨trivial, rfl, ?_, fun y _ h2 _ => .inl (List.eq_nil_of_length_eq_zero h2).symm⟩
    rcases leastW_spec (arcsOf l) (posS (unitsL l) t) (posS (unitsL l) s) with ⟨h1, _⟩ | ⟨q, h1, h2, _⟩
    · omega
    · have : q = 0 := by omega
      subst this
      exact pos_inj hs ht (Walk.zero.1 h2)
  | n + 1, s, hs, h => by
    obtain ⟨k0, hk1, hk2⟩ := next_some hs ht h
    cases hf : (fromL l s).find? fun k => decide (leastW (arcsOf l) (posS (unitsL l) t) (posS (unitsL l) (upOf l k)) = n) with
    | none =>
      rw [List.find?_eq_none] at hf
      have := hf k0 hk1
      simp [hk2] at this
    | some k =>
      have hkm := List.mem_of_find?_eq_some hf
      have hkd : leastW (arcsOf l) (posS (unitsL l) t) (posS (unitsL l) (upOf l k)) = n := by simpa using List.find?_some hf
      have hg : greedyN l t (n + 1) s = k :: greedyN l t n (upOf l k) := by simp only [greedyN]; rw [hf]
      obtain ⟨h1, h2, h3, h4⟩ := greedy_way ht (up_unit hkm) hkd
      rw [hg]
      refine ⟨⟨hkm, h1⟩, by simp [h2], h3, fun y y1 y2 y3 => ?_⟩
      cases y with
      | nil => simp at y2
      | cons k' y' =>
        have hu := up_unit y1.1
        have hw' : Walk (arcsOf l) n (posS (unitsL l) (upOf l k')) (posS (unitsL l) t) := (walk_way hu ht).2 ⟨y', y1.2, by simpa using y2, y3⟩
        have hd' : leastW (arcsOf l) (posS (unitsL l) t) (posS (unitsL l) (upOf l k')) = n := by
          rcases leastW_spec (arcsOf l) (posS (unitsL l) t) (posS (unitsL l) (upOf l k')) with ⟨_, h6⟩ | ⟨q, h5, h6, h7⟩
          · exact absurd hw' (h6 n)
          · have h8 := h7 n hw'
            obtain ⟨z, z1, z2, z3⟩ := (walk_way hu ht).1 h6
            have h9 := (walk_way hs ht).2 ⟨k' :: z, ⟨y1.1, z1⟩, rfl, z3⟩
            rcases leastW_spec (arcsOf l) (posS (unitsL l) t) (posS (unitsL l) s) with ⟨_, h10⟩ | ⟨p, h10, _, h11⟩
            · exact absurd h9 (h10 _)
            · have := h11 _ h9
              simp [z2] at this
              rw [h5]; omega
        rcases Nat.lt_trichotomy k k' with hlt | rfl | hgt
        · exact .inr (Beats.head hlt)
        · exact (h4 y' y1.2 (by simpa using y2) y3).cons k
        · exfalso
          rw [List.find?_eq_some_iff_getElem] at hf
          obtain ⟨_, i, hi, he, hno⟩ := hf
          obtain ⟨j, hj⟩ := List.getElem?_of_mem y1.1
          obtain ⟨hjl, hje⟩ := List.getElem?_eq_some_iff.1 hj
          have hsrt := from_sorted l s
          rw [List.pairwise_iff_getElem] at hsrt
          have hji : j < i := by
            rcases Nat.lt_trichotomy j i with h | h | h
            · exact h
            · subst h; rw [he] at hje; omega
            · have := hsrt i j hi hjl h
              rw [he, hje] at this; omega
          have := hno j hji
          rw [hje, hd'] at this
          simp at this
def thrV (l : List Rel) (i k : Nat) (ok : Bool) : List Nat := if ok = true then throughF l i k else []
theorem back_least {l : List Rel} {i k : Nat} (_hi : i < l.length) (h : BackR l i k true) : arcB l i = true ∧ leastW (arcsOf l) (posS (unitsL l) (lowOf l i)) (posS (unitsL l) (upOf l i)) = (k : Int) := by
  rcases h with ⟨_, a, h1, h2, h3, h4⟩ | ⟨h, _⟩
  · obtain ⟨x, k1, k2, k3⟩ := mem_arcs3.1 h1
    rw [h2] at k1 k3
    have e1 : upOf l i = x.upper := by unfold upOf; rw [k1]
    have e2 : lowOf l i = x.lower := by unfold lowOf; rw [k1]
    have e3 : a.up = posS (unitsL l) (upOf l i) := by rw [e1, k3]
    have e4 : a.lo = posS (unitsL l) (lowOf l i) := by rw [e2, k3]
    rw [e3, e4] at h3 h4
    refine ⟨by rw [arcB_at k1]; simp [k2], ?_⟩
    rcases leastW_spec (arcsOf l) (posS (unitsL l) (lowOf l i)) (posS (unitsL l) (upOf l i)) with ⟨_, h6⟩ | ⟨q, h5, h6, h7⟩
    · exact absurd h3 (h6 k)
    · have := h7 k h3
      have := h4 q h6
      rw [h5]; congr 1; omega
  · cases h
theorem through_none {l : List Rel} {i k n : Nat} {ok : Bool} (h : BackR l i k ok) (hn : 1 ≤ n) (hk : ok = true → n ≤ k) : throughL l i n = [] := by
  refine List.eq_nil_iff_forall_not_mem.2 (fun c hc => ?_)
  obtain ⟨a, h1, h2, h3⟩ := through_walk hc hn
  rcases h with ⟨h4, b, h5, h6, _, h8⟩ | ⟨_, _, h4⟩
  · obtain ⟨x, k1, _, k3⟩ := mem_arcs3.1 h1
    obtain ⟨y, j1, _, j3⟩ := mem_arcs3.1 h5
    have hab : a = b := by
      rw [h2] at k1 k3; rw [h6] at j1 j3
      rw [k1] at j1; cases j1
      rw [k3, j3]
    subst hab
    have := h8 _ h3
    have := hk h4
    omega
  · exact h4 a h1 h2 _ h3
theorem through_head {l : List Rel} {i k : Nat} (hi : i < l.length) (h : BackR l i k true) : k + 1 ≤ l.length ∧ ∃ r, throughL l i (k + 1) = throughF l i k :: r := by
  obtain ⟨ha, hd⟩ := back_least hi h
  obtain ⟨hlu, huu⟩ := low_of_arc hi
  obtain ⟨g1, g2, g3, g4⟩ := greedy_way hlu huu hd
  obtain ⟨g, hg⟩ : ∃ g, greedyN l (lowOf l i) k (upOf l i) = g := ⟨_, rfl⟩
  rw [hg] at g1 g2 g3 g4
  have hF : throughF l i k = i :: g := by unfold throughF; rw [hg]
  have hmin : ∀ y, WayL l (upOf l i) y → endL l (upOf l i) y = lowOf l i → k ≤ y.length := fun y y1 y2 => by
    rcases leastW_spec (arcsOf l) (posS (unitsL l) (lowOf l i)) (posS (unitsL l) (upOf l i)) with ⟨h5, _⟩ | ⟨q, h5, _, h7⟩
    · omega
    · have := h7 _ ((walk_way huu hlu).2 ⟨y, y1, rfl, y2⟩)
      omega
  have hnd : ((i :: g).map (lowOf l)).Nodup := by
    rw [List.map_cons, List.nodup_cons]
    refine ⟨fun hm => ?_, ?_⟩
    · obtain ⟨z, hz, hzl⟩ := List.mem_map.1 hm
      obtain ⟨j, hj⟩ := List.getElem?_of_mem hz
      obtain ⟨hjl, hje⟩ := List.getElem?_eq_some_iff.1 hj
      have h1 := IsWay.lo_at from_low hjl g1
      rw [hje, hzl] at h1
      have hsplit : WayL l (upOf l i) (g.take j) := by
        have : IsWay (fromL l) (upOf l) (upOf l i) (g.take j ++ g.drop j) := by rw [List.take_append_drop]; exact g1
        exact (IsWay.append.1 this).1
      have := hmin _ hsplit h1
      rw [List.length_take] at this
      omega
    · exact short_way from_low g1 (fun y y1 _ y3 => by rw [g2]; exact hmin y y1 (y3.trans g3))
  have hmem : (i :: g) ∈ throughL l i (k + 1) := mem_through.2 ⟨ha, by simp [g2], ⟨arcB_from.1 ha, g1⟩, hnd, g3, by simp [headB]⟩
  refine ⟨?_, ?_⟩
  · have := way_len from_lt (show IsWay (fromL l) (upOf l) (lowOf l i) (i :: g) from ⟨arcB_from.1 ha, g1⟩) hnd
    simpa [g2] using this
  · have hsort : (throughL l i (k + 1)).Pairwise Beats := by
      unfold throughL
      rw [if_pos ha]
      unfold pathsL simpL
      rw [simpW_eq from_low]
      exact (((ways_sorted l _ _).filter _).filter _).filter _
    cases hc : throughL l i (k + 1) with
    | nil => rw [hc] at hmem; cases hmem
    | cons c r =>
      refine ⟨r, ?_⟩
      have hcm : c ∈ throughL l i (k + 1) := by rw [hc]; simp
      obtain ⟨_, c2, c3, _, c5, c6⟩ := mem_through.1 hcm
      have hle : LeL (i :: g) c := by
        cases c with
        | nil => simp at c2
        | cons z y =>
          have hz : z = i := by simpa [headB] using c6
          subst hz
          exact (g4 y c3.2 (by simpa using c2) c5).cons z
      rw [hc] at hmem hsort
      rw [hF]
      rcases List.mem_cons.1 hmem with h1 | h1
      · rw [h1]
      · have hb := (List.pairwise_cons.1 hsort).1 _ h1
        rcases hle with h3 | h3
        · rw [h3]
        · exact absurd h3 hb.asymm
theorem thr_ok {C : Mem} {l : List Rel} {i : Nat} {r : Value} (hE : errU l = 0) (hi : i < l.length) (h : ThrRes C l i r) : ∃ k ok A c, BackR l i k ok ∧ r = .tuple #[.slice A (thrV l i k ok).length c, .bool ok, .int .i64 0] ∧ Sl C 1 (.slice A (thrV l i k ok).length c) ((thrV l i k ok).map encN) := by
  rcases h with ⟨h, _⟩ | ⟨_, ⟨h, _⟩ | ⟨j, k, ok, hj, _, hb, h⟩⟩
  · exact absurd hE h
  · omega
  · have : j = i := by omega
    subst this
    rcases h with ⟨rfl, rfl⟩ | ⟨rfl, v, rfl, hs⟩
    · exact ⟨k, false, none, 0, hb, rfl, Sl.nilS _ _⟩
    · obtain ⟨A, c, hqe, _⟩ := id hs
      rw [List.length_map] at hqe
      subst hqe
      exact ⟨k, true, A, c, hb, rfl, hs⟩
/-- What the law finds is what Through returns. -/
theorem thr_same {l : List Rel} {i k n : Nat} {ok : Bool} {wl : List Nat} (hi : i < l.length) (hb : BackR l i k ok) (_hn1 : 1 ≤ n) (_hn2 : n ≤ l.length + 1)
    (hw : (wl = [] ∧ n = l.length + 1 ∧ ∀ m, 1 ≤ m → m < n → throughL l i m = []) ∨ (∃ m r, 1 ≤ m ∧ throughL l i m = wl :: r ∧ ∀ q, 1 ≤ q → q < m → throughL l i q = [])) : wl = thrV l i k ok := by
  cases ok with
  | false =>
    rcases hw with ⟨h, _⟩ | ⟨m, r, h1, h2, _⟩
    · rw [h]; rfl
    · rw [through_none hb h1 (fun h => by cases h)] at h2; cases h2
  | true =>
    obtain ⟨h1, r, h2⟩ := through_head hi hb
    rcases hw with ⟨_, h3, h4⟩ | ⟨m, r2, h3, h4, h5⟩
    · rw [h4 (k + 1) (by omega) (by omega)] at h2; cases h2
    · have hmk : m = k + 1 := by
        rcases Nat.lt_trichotomy m (k + 1) with h6 | h6 | h6
        · rw [through_none hb h3 (fun _ => by omega)] at h4; cases h4
        · exact h6
        · rw [h5 (k + 1) (by omega) h6] at h2; cases h2
      subst hmk
      rw [h2] at h4
      cases h4; rfl
theorem inv_ok {C : Mem} {l : List Rel} {r : Value} (hE : errU l = 0) (h : InvRes C l r) : ∃ A c, r = .tuple #[.slice A (invL l).length c, .int .i64 0] ∧ Sl C 1 (.slice A (invL l).length c) ((invL l).map encN) := by
  rcases h with ⟨h, _⟩ | ⟨_, q, v, h1, h2, h3⟩
  · exact absurd hE h
  · have := invs_eq h1
    subst this
    obtain ⟨A, c, hqe, _⟩ := id h3
    rw [List.length_map] at hqe
    subst hqe
    exact ⟨A, c, h2, h3⟩
set_option maxHeartbeats 8000000 in
theorem cthrough_fn (C : Mem) (v : Value) (ss : List Seen) (hv : Sl C 3 v (ss.map Seen.enc)) : Pur cx.P 6 [v] C fun u _ => u = .bool true := by
  obtain ⟨A0, c0, rfl, _⟩ := id hv
  simp only [List.length_map] at hv ⊢
  refine Fn.intro (by kernel_rfl) Tryz.func6 rfl 101 rfl rfl (fun w0 => ?_)
  refine G.region rfl (fun R hR => ?_)
  refine D.pure rfl rfl rfl rfl rfl rfl ?_
  refine D.done [(0, [], _)] ⟨rfl, trivial⟩ (hR _ _ _ rfl ?_); clear hR R
  refine G.region rfl (fun R hR => ?_)
  refine D.callP (known23_fn _) rfl rfl rfl rfl rfl rfl rfl (fun _ => rfl) (fun v14 C14 hle14 hq14 => ?_)
  obtain rfl := hq14
  iterate 3 refine D.pure rfl rfl rfl rfl rfl rfl ?_
  refine D.gives (fun _ => (fits_fn _ _ _ _)) rfl rfl rfl rfl rfl rfl rfl rfl rfl ?_
  refine D.pure rfl rfl rfl rfl rfl rfl ?_
  refine D.pickOr rfl rfl rfl rfl rfl rfl rfl rfl ?_
  refine D.done [(0, [], _), (20, [], _)] ⟨rfl, rfl, trivial⟩ (hR _ _ _ rfl ?_); clear hR R
  refine G.cond rfl (fun h20 => ?_) (fun h20 => ?_)
  · skip
    refine G.region rfl (fun R hR => ?_)
    refine D.callP (known23_fn _) rfl rfl rfl rfl rfl rfl rfl (fun _ => rfl) (fun v21 C21 hle21 hq21 => ?_)
    obtain rfl := hq21
    refine D.pure rfl rfl rfl rfl rfl rfl ?_
    refine D.done [(2, [], _)] ⟨rfl, trivial⟩ (hR _ _ _ rfl ?_); clear hR R
    refine G.retN (G.dropAll (G.fin1 rfl rfl ?_))
    exact ⟨rfl, rfl⟩
  · skip
    refine G.region rfl (fun R hR => ?_)
    refine D.pure rfl rfl rfl rfl rfl rfl ?_
    refine D.callP (make_fn _ _ ss (hv.mono (by (repeat (first | exact Mem.le.refl _ | assumption | (apply Mem.le.trans; rotate_left; assumption)))))) rfl rfl rfl rfl rfl rfl rfl (fun _ => rfl) (fun v23 C23 hle23 hq23 => ?_)
    obtain ⟨l, hl⟩ : ∃ l, makeL ss = l := ⟨_, rfl⟩
    have hM : Made l := by rw [← hl]; exact made_makeL ss
    rw [hl] at hq23
    obtain ⟨Al, cl, rfl, hlc, _⟩ := id hq23
    simp only [List.length_map] at hq23 hlc
    have hl8 := hM.1
    have hE := hM.err
    simp only [List.length_map]
    refine D.pure rfl rfl rfl rfl rfl rfl ?_
    refine D.done [(3, [], _)] ⟨rfl, trivial⟩ (hR _ _ _ rfl ?_); clear hR R
    refine G.region rfl (fun R hR => ?_)
    refine D.pure rfl rfl rfl rfl rfl rfl ?_
    refine D.callP (involvedR_fn _ _ l (hq23.mono (by (repeat (first | exact Mem.le.refl _ | assumption | (apply Mem.le.trans; rotate_left; assumption))))) (by omega) hM.short) rfl rfl rfl rfl rfl rfl rfl (fun _ => rfl) (fun v26 C26 hle26 hq26 => ?_)
    obtain ⟨Ai, ci, rfl, his⟩ := inv_ok hE hq26
    have hil : (invL l).length ≤ l.length := idxs_len _ _
    iterate 5 refine D.pure rfl rfl rfl rfl rfl rfl ?_
    refine D.done [(3, [], _), (4, [], _), (5, [], _)] ⟨rfl, rfl, rfl, trivial⟩ (hR _ _ _ rfl ?_); clear hR R
    refine G.region rfl (fun R hR => ?_)
    refine D.pure rfl rfl rfl rfl rfl rfl ?_
    refine D.done [(3, [], _), (4, [], _), (5, [], _), (6, [], _)] ⟨rfl, rfl, rfl, rfl, trivial⟩ (hR _ _ _ rfl ?_); clear hR R
    refine G.region rfl (fun R hR => ?_)
    refine D.pure rfl rfl rfl rfl rfl rfl ?_
    refine D.done [(3, [], _), (4, [], _), (5, [], _), (6, [], _), (7, [], _)] ⟨rfl, rfl, rfl, rfl, rfl, trivial⟩ (hR _ _ _ rfl ?_); clear hR R
    refine G.loop (fun fr C' L' μ => ∃ (i : Nat), (i ≤ l.length) ∧ fr = [(3, [], .slice Al l.length cl), (4, [], .slice Ai (invL l).length ci), (5, [], .int .i64 0), (6, [], .int .i64 (idxs (invB l) i).length), (7, [], .int .i64 i)] ∧ L' = [] ∧ μ = l.length - i) (fr' := [(3, [], _), (4, [], _), (5, [], _), (6, [], _), (7, [], _)]) ⟨rfl, rfl, rfl, rfl, rfl, trivial⟩ ⟨0, Nat.zero_le _, rfl, rfl, rfl⟩ (fun fr C0' L0' m hle0 hI => ?_)
    obtain ⟨i, hi, rfl, rfl, rfl⟩ := hI
    refine G.region rfl (fun R hR => ?_)
    iterate 4 refine D.pure rfl rfl rfl rfl rfl rfl ?_
    refine D.done [(3, [], _), (4, [], _), (5, [], _), (6, [], _), (7, [], _), (32, [], _)] ⟨rfl, rfl, rfl, rfl, rfl, rfl, trivial⟩ (hR _ _ _ rfl ?_); clear hR R
    refine G.cond rfl (fun h32 => ?_) (fun h32 => ?_)
    · skip
      have hil2 : i < l.length := by simpa using h32
      have hixl := idxs_len (invB l) i
      refine G.region rfl (fun R hR => ?_)
      refine D.pure rfl rfl rfl rfl rfl rfl ?_
      refine D.done [(3, [], _), (4, [], _), (5, [], _), (6, [], _), (7, [], _), (8, [], _)] ⟨rfl, rfl, rfl, rfl, rfl, rfl, trivial⟩ (hR _ _ _ rfl ?_); clear hR R
      refine G.region rfl (fun R hR => ?_)
      refine D.pure rfl rfl rfl rfl rfl rfl ?_
      refine D.done [(3, [], _), (4, [], _), (5, [], _), (6, [], _), (7, [], _), (8, [], _), (9, [], _)] ⟨rfl, rfl, rfl, rfl, rfl, rfl, rfl, trivial⟩ (hR _ _ _ rfl ?_); clear hR R
      refine G.loop (fun fr C' L' μ => ∃ (n : Nat) (wl : List Nat) (A8 : Option Addr) (c8 : Nat), (1 ≤ n ∧ n ≤ l.length + 1 ∧ Sl C' 1 (.slice A8 wl.length c8) (wl.map encN) ∧ wl.length ≤ 8 ∧ ((wl = [] ∧ ∀ m, 1 ≤ m → m < n → throughL l i m = []) ∨ (wl ≠ [] ∧ ∃ m r, 1 ≤ m ∧ throughL l i m = wl :: r ∧ ∀ q, 1 ≤ q → q < m → throughL l i q = []))) ∧ fr = [(3, [], .slice Al l.length cl), (4, [], .slice Ai (invL l).length ci), (5, [], .int .i64 0), (6, [], .int .i64 (idxs (invB l) i).length), (7, [], .int .i64 i), (8, [], .slice A8 wl.length c8), (9, [], .int .i64 n)] ∧ L' = [] ∧ μ = l.length + 1 - n) (fr' := [(3, [], _), (4, [], _), (5, [], _), (6, [], _), (7, [], _), (8, [], _), (9, [], _)]) ⟨rfl, rfl, rfl, rfl, rfl, rfl, rfl, trivial⟩ ⟨1, [], none, 0, ⟨by omega, by omega, Sl.nilS _ _, by simp, .inl ⟨rfl, fun m h1 h2 => by omega⟩⟩, rfl, rfl, rfl⟩ (fun fr C1' L1' m hle1 hI => ?_)
      obtain ⟨n, wl, A8, c8, ⟨hn1, hn2, hws, hwl, hw⟩, rfl, rfl, rfl⟩ := hI
      refine G.region rfl (fun R hR => ?_)
      iterate 8 refine D.pure rfl rfl rfl rfl rfl rfl ?_
      refine D.pickAnd rfl rfl rfl rfl rfl rfl rfl rfl ?_
      refine D.done [(3, [], _), (4, [], _), (5, [], _), (6, [], _), (7, [], _), (8, [], _), (9, [], _), (43, [], _)] ⟨rfl, rfl, rfl, rfl, rfl, rfl, rfl, rfl, trivial⟩ (hR _ _ _ rfl ?_); clear hR R
      refine G.cond rfl (fun h43 => ?_) (fun h43 => ?_)
      · skip
        have h43' : n ≤ l.length ∧ wl = [] := by
          have : n ≤ l.length ∧ ((wl.length : Nat) : Int) = 0 := by simpa using h43
          exact ⟨this.1, List.eq_nil_of_length_eq_zero (by omega)⟩
        obtain ⟨hnl, rfl⟩ := h43'
        have hno : ∀ m, 1 ≤ m → m < n → throughL l i m = [] := by
          rcases hw with ⟨_, h⟩ | ⟨h, _⟩
          · exact h
          · exact absurd rfl h
        refine G.region rfl (fun R hR => ?_)
        iterate 3 refine D.pure rfl rfl rfl rfl rfl rfl ?_
        refine D.callP (lthrough_fn _ _ l i n (hq23.mono (by (repeat (first | exact Mem.le.refl _ | assumption | (apply Mem.le.trans; rotate_left; assumption))))) hl8 hil2 hn1 (by omega)) rfl rfl rfl rfl rfl rfl rfl (fun _ => rfl) (fun v49 C49 hle49 hq49 => ?_)
        obtain ⟨ovt, hts, hto⟩ := hq49
        obtain ⟨At, ct, hqe, _⟩ := id hts
        have hotl := hto.1
        rw [List.length_map, hotl] at hqe
        subst hqe
        refine D.pure rfl rfl rfl rfl rfl rfl ?_
        refine D.done [(3, [], _), (4, [], _), (5, [], _), (6, [], _), (7, [], _), (8, [], _), (9, [], _), (10, [], _)] ⟨rfl, rfl, rfl, rfl, rfl, rfl, rfl, rfl, trivial⟩ (hR _ _ _ rfl ?_); clear hR R
        refine G.region rfl (fun R hR => ?_)
        iterate 3 refine D.pure rfl rfl rfl rfl rfl rfl ?_
        refine D.done [(3, [], _), (4, [], _), (5, [], _), (6, [], _), (7, [], _), (8, [], _), (9, [], _), (10, [], _), (52, [], _)] ⟨rfl, rfl, rfl, rfl, rfl, rfl, rfl, rfl, rfl, trivial⟩ (hR _ _ _ rfl ?_); clear hR R
        refine G.cond rfl (fun h52 => ?_) (fun h52 => ?_)
        · skip
          have h52' : 0 < (throughL l i n).length := by simpa [List.length_pos_iff] using h52
          obtain ⟨z, hz⟩ : ∃ z, (throughL l i n)[0]? = some z := ⟨(throughL l i n)[0], List.getElem?_eq_getElem h52'⟩
          obtain ⟨Az, cz, _, hrz, hsz⟩ := hto.at hz
          have hzm := mem_through.1 (List.mem_of_getElem? hz)
          have hzr : ∃ r, throughL l i n = z :: r := by
            cases h : throughL l i n with
            | nil => rw [h] at hz; simp at hz
            | cons a r => rw [h] at hz; simp at hz; subst hz; exact ⟨r, rfl⟩
          obtain ⟨rz, hzr⟩ := hzr
          refine G.region rfl (fun R hR => ?_)
          refine D.pure rfl rfl rfl rfl rfl rfl ?_
          refine D.index0 (hts.mono (by (repeat (first | exact Mem.le.refl _ | assumption | (apply Mem.le.trans; rotate_left; assumption))))) rfl rfl rfl rfl rfl rfl rfl rfl rfl rfl (by omega) hrz (fun _ => rfl) (fun p54 hp54 => ?_)
          refine D.loadP0 hp54 rfl rfl rfl rfl rfl rfl rfl rfl ?_
          refine D.pure rfl rfl rfl rfl rfl rfl ?_
          refine D.done [(3, [], _), (4, [], _), (5, [], _), (6, [], _), (7, [], _), (8, [], _), (9, [], _)] ⟨rfl, rfl, rfl, rfl, rfl, rfl, rfl, trivial⟩ (hR _ _ _ rfl ?_); clear hR R
          refine G.region rfl (fun R hR => ?_)
          refine D.pure rfl rfl rfl rfl rfl rfl ?_
          refine D.i64 _ rfl rfl rfl rfl rfl (by omega) (by omega) rfl rfl ?_
          refine D.pure rfl rfl rfl rfl rfl rfl ?_
          refine D.done [(3, [], _), (4, [], _), (5, [], _), (6, [], _), (7, [], _), (8, [], _), (9, [], _)] ⟨rfl, rfl, rfl, rfl, rfl, rfl, rfl, trivial⟩ (hR _ _ _ rfl ?_); clear hR R
          refine G.again (m' := l.length + 1 - (n + 1)) (by omega) (by (repeat (first | exact Mem.le.refl _ | assumption | (apply Mem.le.trans; rotate_left; assumption)))) (fr' := [(3, [], _), (4, [], _), (5, [], _), (6, [], _), (7, [], _), (8, [], _), (9, [], _)]) ⟨rfl, rfl, rfl, rfl, rfl, rfl, rfl, trivial⟩ ⟨n + 1, z, Az, cz, ⟨by omega, by omega, hsz.mono (by (repeat (first | exact Mem.le.refl _ | assumption | (apply Mem.le.trans; rotate_left; assumption)))), by omega, .inr ⟨fun e => by rw [e] at hzm; simp at hzm; omega, n, rz, hn1, hzr, hno⟩⟩, rfl, rfl, rfl⟩
        · skip
          have h52' : throughL l i n = [] := by simpa using h52
          refine G.region rfl (fun R hR => ?_)
          refine D.pure rfl rfl rfl rfl rfl rfl ?_
          refine D.i64 _ rfl rfl rfl rfl rfl (by omega) (by omega) rfl rfl ?_
          refine D.pure rfl rfl rfl rfl rfl rfl ?_
          refine D.done [(3, [], _), (4, [], _), (5, [], _), (6, [], _), (7, [], _), (8, [], _), (9, [], _)] ⟨rfl, rfl, rfl, rfl, rfl, rfl, rfl, trivial⟩ (hR _ _ _ rfl ?_); clear hR R
          refine G.again (m' := l.length + 1 - (n + 1)) (by omega) (by (repeat (first | exact Mem.le.refl _ | assumption | (apply Mem.le.trans; rotate_left; assumption)))) (fr' := [(3, [], _), (4, [], _), (5, [], _), (6, [], _), (7, [], _), (8, [], _), (9, [], _)]) ⟨rfl, rfl, rfl, rfl, rfl, rfl, rfl, trivial⟩ ⟨n + 1, [], A8, c8, ⟨by omega, by omega, hws.mono (by (repeat (first | exact Mem.le.refl _ | assumption | (apply Mem.le.trans; rotate_left; assumption)))), by simp, .inl ⟨rfl, fun m h1 h2 => by
            rcases Nat.lt_or_ge m n with h | h
            · exact hno m h1 h
            · rw [show m = n by omega]; exact h52'⟩⟩, rfl, rfl, rfl⟩
      · skip
        have h43' : ¬ (n ≤ l.length ∧ wl = []) := fun hh => by
          obtain ⟨h1, rfl⟩ := hh
          simp [h1] at h43
        refine G.region rfl (fun R hR => ?_)
        iterate 2 refine D.pure rfl rfl rfl rfl rfl rfl ?_
        refine D.callP (through_fn _ _ l i (hq23.mono (by (repeat (first | exact Mem.le.refl _ | assumption | (apply Mem.le.trans; rotate_left; assumption))))) (by omega) hM.short (by omega) (by omega)) rfl rfl rfl rfl rfl rfl rfl (fun _ => rfl) (fun v59 C59 hle59 hq59 => ?_)
        obtain ⟨k, ok, A1, c1, hb, rfl, hts⟩ := thr_ok hE hil2 hq59
        have hwt : wl = thrV l i k ok := by
          refine thr_same hil2 hb hn1 hn2 ?_
          rcases hw with ⟨h1, h2⟩ | ⟨_, h2⟩
          · exact .inl ⟨h1, by have : ¬ n ≤ l.length := fun h => h43' ⟨h, h1⟩
                               omega, h2⟩
          · exact .inr h2
        subst hwt
        have hok : ok = decide ((0 : Int) < ((thrV l i k ok).length : Nat)) := by
          cases ok <;> simp [thrV, throughF]
        iterate 7 refine D.pure rfl rfl rfl rfl rfl rfl ?_
        refine D.done [(3, [], _), (4, [], _), (5, [], _), (6, [], _), (7, [], _), (8, [], _), (11, [], _), (12, [], _), (13, [], _)] ⟨rfl, rfl, rfl, rfl, rfl, rfl, rfl, rfl, rfl, trivial⟩ (hR _ _ _ rfl ?_); clear hR R
        refine G.region rfl (fun R hR => ?_)
        iterate 2 refine D.pure rfl rfl rfl rfl rfl rfl ?_
        refine D.gives2 (lequal_t _ _ _ (thrV l i k ok) (hts.mono (by (repeat (first | exact Mem.le.refl _ | assumption | (apply Mem.le.trans; rotate_left; assumption))))) (hws.mono (by (repeat (first | exact Mem.le.refl _ | assumption | (apply Mem.le.trans; rotate_left; assumption))))) (by omega)) rfl rfl rfl rfl rfl rfl rfl (fun _ => rfl) ?_
        iterate 7 refine D.pure rfl rfl rfl rfl rfl rfl ?_
        refine D.pickOr rfl rfl rfl rfl rfl rfl rfl rfl ?_
        iterate 3 refine D.pure rfl rfl rfl rfl rfl rfl ?_
        refine D.pickOr rfl rfl rfl rfl rfl rfl rfl rfl ?_
        refine D.done [(3, [], _), (4, [], _), (5, [], _), (6, [], _), (7, [], _), (12, [], _), (77, [], _)] ⟨rfl, rfl, rfl, rfl, rfl, rfl, rfl, trivial⟩ (hR _ _ _ rfl ?_); clear hR R
        refine G.cond rfl (fun h77 => ?_) (fun h77 => ?_)
        · skip
          exfalso
          rw [← hok] at h77
          simp at h77
        · skip
          refine G.region rfl (fun R hR => ?_)
          refine D.pure rfl rfl rfl rfl rfl rfl ?_
          refine D.done [(3, [], _), (4, [], _), (5, [], _), (6, [], _), (7, [], _), (78, [], _)] ⟨rfl, rfl, rfl, rfl, rfl, rfl, trivial⟩ (hR _ _ _ rfl ?_); clear hR R
          refine G.cond rfl (fun h78 => ?_) (fun h78 => ?_)
          · skip
            have h78' : ok = true := h78
            have hinv : invB l i = true := (inv_iff hil2).1 ((back_inv (by omega) hb).1 h78')
            have hat := idxs_at (p := invB l) (n := l.length) hil2 hinv
            have hlt := (List.getElem?_eq_some_iff.1 hat).1
            have hri : ((invL l).map encN)[(idxs (invB l) i).length]? = some (encN i) := by rw [List.getElem?_map]; unfold invL; rw [hat]; rfl
            refine G.region rfl (fun R hR => ?_)
            iterate 7 refine D.pure rfl rfl rfl rfl rfl rfl ?_
            refine D.index rfl rfl rfl rfl rfl rfl rfl rfl rfl rfl (fun hg => ⟨(his.mono (by (repeat (first | exact Mem.le.refl _ | assumption | (apply Mem.le.trans; rotate_left; assumption))))), (by have h : (invL l).length = (idxs (invB l) l.length).length := rfl; omega), hri⟩) (fun _ => rfl) rfl (fun p86 hp86 => ?_)
            refine D.loadP rfl rfl rfl rfl rfl rfl hp86 rfl rfl rfl ?_
            iterate 2 refine D.pure rfl rfl rfl rfl rfl rfl ?_
            refine D.pickOr rfl rfl rfl rfl rfl rfl rfl rfl ?_
            refine D.done [(3, [], _), (4, [], _), (5, [], _), (6, [], _), (7, [], _), (90, [], _)] ⟨rfl, rfl, rfl, rfl, rfl, rfl, trivial⟩ (hR _ _ _ rfl ?_); clear hR R
            refine G.cond rfl (fun h90 => ?_) (fun h90 => ?_)
            · skip
              exfalso
              have h1 : ¬ ((invL l).length : Int) ≤ ((idxs (invB l) i).length : Nat) := by unfold invL; omega
              simp at h90
              unfold invL at h90
              omega
            · skip
              refine G.region rfl (fun R hR => ?_)
              refine D.pure rfl rfl rfl rfl rfl rfl ?_
              refine D.i64 _ rfl rfl rfl rfl rfl (by omega) (by omega) rfl rfl ?_
              refine D.pure rfl rfl rfl rfl rfl rfl ?_
              refine D.done [(3, [], _), (4, [], _), (5, [], _), (6, [], _), (7, [], _)] ⟨rfl, rfl, rfl, rfl, rfl, trivial⟩ (hR _ _ _ rfl ?_); clear hR R
              refine G.region rfl (fun R hR => ?_)
              refine D.pure rfl rfl rfl rfl rfl rfl ?_
              refine D.i64 _ rfl rfl rfl rfl rfl (by omega) (by omega) rfl rfl ?_
              refine D.pure rfl rfl rfl rfl rfl rfl ?_
              refine D.done [(3, [], _), (4, [], _), (5, [], _), (6, [], _), (7, [], _)] ⟨rfl, rfl, rfl, rfl, rfl, trivial⟩ (hR _ _ _ rfl ?_); clear hR R
              rw [show (((idxs (invB l) i).length : Nat) : Int) + 1 = (((idxs (invB l) (i + 1)).length : Nat) : Int) by rw [idxs_true hinv]; simp]
              refine G.again (m' := l.length - (i + 1)) (by omega) (by (repeat (first | exact Mem.le.refl _ | assumption | (apply Mem.le.trans; rotate_left; assumption)))) (fr' := [(3, [], _), (4, [], _), (5, [], _), (6, [], _), (7, [], _)]) ⟨rfl, rfl, rfl, rfl, rfl, trivial⟩ ⟨i + 1, by omega, rfl, rfl, rfl⟩
          · skip
            have h78' : ok = false := h78
            have hinv : invB l i = false := by
              rw [Bool.eq_false_iff]
              intro h
              have := (back_inv (by omega) hb).2 ((inv_iff hil2).2 h)
              rw [h78'] at this; cases this
            refine G.region rfl (fun R hR => ?_)
            refine D.pure rfl rfl rfl rfl rfl rfl ?_
            refine D.i64 _ rfl rfl rfl rfl rfl (by omega) (by omega) rfl rfl ?_
            refine D.pure rfl rfl rfl rfl rfl rfl ?_
            refine D.done [(3, [], _), (4, [], _), (5, [], _), (6, [], _), (7, [], _)] ⟨rfl, rfl, rfl, rfl, rfl, trivial⟩ (hR _ _ _ rfl ?_); clear hR R
            rw [show (((idxs (invB l) i).length : Nat) : Int) = (((idxs (invB l) (i + 1)).length : Nat) : Int) by rw [idxs_false hinv]]
            refine G.again (m' := l.length - (i + 1)) (by omega) (by (repeat (first | exact Mem.le.refl _ | assumption | (apply Mem.le.trans; rotate_left; assumption)))) (fr' := [(3, [], _), (4, [], _), (5, [], _), (6, [], _), (7, [], _)]) ⟨rfl, rfl, rfl, rfl, rfl, trivial⟩ ⟨i + 1, by omega, rfl, rfl, rfl⟩
    · skip
      have hil2 : i = l.length := by
        have : ¬ i < l.length := by simpa using h32
        omega
      subst hil2
      refine G.region rfl (fun R hR => ?_)
      iterate 7 refine D.pure rfl rfl rfl rfl rfl rfl ?_
      refine D.pickAnd rfl rfl rfl rfl rfl rfl rfl rfl ?_
      refine D.pure rfl rfl rfl rfl rfl rfl ?_
      refine D.done [(2, [], _)] ⟨rfl, trivial⟩ (hR _ _ _ rfl ?_); clear hR R
      refine G.retN (G.dropAll (G.fin1 rfl rfl ?_))
      exact ⟨rfl, by simp [invL]⟩
end Go.Proofs.YtcghlfepfcagbaaGreat
namespace Go.Proofs.YtcghlfepfcagbaaGreat
open Go Go.Jog Go.ChangeShapes Go.WideShapes Go.ChangeAt Go.RowKit
set_option maxRecDepth 100000

namespace lawContradictionThrough
theorem laid_met (os : Os) (args : Array Value) : laidMetH Tryz.prog Rows.contradictionThroughRow.laid ((laidWorld os).forCall (fun _ _ => 0) ⟨#[], args, []⟩).memory :=
  laidMet_of_run' 8 (by kernel_rfl) (by kernel_rfl)
theorem contract (H : Type) (enc : TypeId × Value → H) (W : World) (base : Nat) (args : Array Value) (ds gs : List (DataW H)) (before : List MemPlace)
    (hval : ∀ (j : Nat) t v, Tryz.f6.params[j]? = some t → args[j]? = some v → Value.okWide Tryz.prog W .any base t v)
    (hW : DataW.Whole enc Tryz.prog Tryz.f6.params.toList Rows.contradictionThroughSpec.vars false W args.toList ds gs before) (_hsh : W.ShapedOpen Tryz.prog) :
    Calls Tryz.prog 6 args W fun e W' => ∃ v, e = .returned v ∧ Rows.contradictionThroughSpec.post enc Tryz.prog Tryz.f6 false true false false W args v W' := by
  have hW' := hW
  obtain ⟨p, q, hA0, hV, rfl, hfz, hnd⟩ := hW
  have hA : DataW.TrodAll enc Tryz.prog W 0 (fun _ => true) true Tryz.f6.params.toList args.toList ds p := hA0
  rw [Tryz.params6] at hA hval
  obtain ⟨v0, vs0, d0, ds0, p0, q0, hargs0, rfl, rfl, h0, r0⟩ := trodAll_cons hA
  obtain ⟨rfl, rfl, rfl⟩ := trodAll_nil r0
  obtain rfl : args = #[v0] := by cases args; simp_all
  obtain ⟨rfl, rfl⟩ := trodVars_none hV
  obtain ⟨a0, len0, cap0, rfl⟩ := okWide_slice Tryz.underlying22 (hval 0 22 v0 rfl rfl)
  obtain ⟨l0, hl0⟩ : ∃ l : List Seen, Sl (memOf W) 3 (.slice a0 len0 cap0) (l.map Seen.enc) := by
    obtain ⟨n, hn⟩ := (id h0)
    exact seens_of hn
  simp only [List.append_nil] at hW'
  have hlt0 : ∀ x ∈ p0, x.block < W.heap.size := fun x hx => hW'.lt x (by simp [hx])
  have main := gives_below (gives_of (cthrough_fn (memOf W) _ l0 hl0))
  refine Calls.mono main fun e W' ⟨he, hb⟩ => ?_
  subst he
  refine ⟨_, rfl, post_of_below (pa := p0 ++ ([])) (pv := []) hW' (fun _ _ _ => trodAll_cons_mk (shut_bool Tryz.underlying4 _) trodAll_mk0) (fun sp hsp => ?_) (fun _ _ => rfl) (by simp) hb (ok_one (by kernel_rfl) rfl (okWide_bool_mk Tryz.underlying4 _))⟩
  exact trodAll_cons_mk (WideElems.Trod_stays laidOut' (by kernel_rfl) (of_decide_eq_true (by kernel_rfl)) h0 (fun x hx => hb.same (hlt0 x hx)) (fun x hx => hsp x (by simp [hx]))) (trodAll_mk0)

theorem reads (os : Os) {H : Type} (enc : TypeId × Value → H) : ∃ places, DataW.whole enc Tryz.prog ((laidWorld os).forCall (fun _ _ => 0) ⟨#[], #[.slice none 0 0], []⟩).memory Tryz.f6.params.toList Rows.contradictionThroughSpec.vars false (#[.slice none 0 0] : Array Value).toList 8 = some ([.nil], [], places) :=
  ⟨[], by kernel_rfl⟩

theorem lifted (os : Os) (started : os.Started) (H : Type) (enc : TypeId × Value → H) (F : Stop.Interp) :
    ReturnsInHanded {} Tryz.checked os 6 .any ((OpenSpec.ofChange Rows.contradictionThroughSpec).preRow enc Tryz.prog Tryz.f6 Rows.contradictionThroughRow.domain false Rows.contradictionThroughRow.laid) (((OpenSpec.ofChange Rows.contradictionThroughSpec).at F).post enc Tryz.prog Tryz.f6 false true false false) := by
  obtain ⟨places, hx⟩ := reads os enc
  refine returnsInHanded_of_row (C := Tryz.checked) (s := OpenSpec.ofChange Rows.contradictionThroughSpec) own started (by kernel_rfl) Tryz.func6
    (witness_row_at (enc := enc) (C := Tryz.checked) false (laidWorld os) #[.slice none 0 0] rfl (by kernel_rfl) (by kernel_rfl) (by kernel_rfl)
      (OpenSpec.preRow_of_cond 8 hx (by kernel_rfl) (fun k hk => by cases hk) (by kernel_rfl) (laid_met os _))) ?_
  intro W base args ds gs before hval hW _ _ _ hL hsh _
  exact contract H enc W base args ds gs before hval hW hsh

theorem said : Rows.ContradictionThroughSaid :=
  OpenClaim.holds_of_cond 6 Tryz.f6 rfl rfl rfl rfl rfl rfl rfl ⟨rfl, rfl, rfl, rfl, rfl⟩ rfl rfl rfl rfl rfl (by kernel_rfl) Tryz.func6 (by kernel_rfl)
    (of_decide_eq_true (by kernel_rfl)) (by unfold Func.isWrapper; first | (rw [if_pos (by decide +kernel)]; kernel_rfl) | (rw [if_neg (by decide +kernel)]; exact ⟨rfl, rfl⟩))
    (fun os started H enc _ F => by rw [OpenClaim.pre_eq_preRow]; exact lifted os started H enc F)

end lawContradictionThrough

/-- FOR ANY DESCRIPTIONS ContradictionThrough ANSWERS true, and leaves them as they were. -/
theorem contradictionThrough_said : Rows.ContradictionThroughSaid := lawContradictionThrough.said
#print axioms contradictionThrough_said
end Go.Proofs.YtcghlfepfcagbaaGreat
