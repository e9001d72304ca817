/- FOR ANY DESCRIPTIONS AND ANY LIST OF NAMES SuccessionKeeps ANSWERS true, and leaves them as they were. -/
import Derived.Test.YtddjibfmnkcalaaG6
import Derived.Test.YtddjibfmnkcalaaShelf
namespace Go.Proofs.Ytddjibfmnkcalaa
open Go Go.Jog
set_option maxRecDepth 100000

theorem walk_map {A B : List Arc3} {φ : Nat → Nat} (h : ∀ a ∈ A, ∃ b ∈ B, b.lo = φ a.lo ∧ b.up = φ a.up) : ∀ {k u v : Nat}, Walk A k u v → Walk B k (φ u) (φ v)
  | 0, u, v, hw => by rw [Walk.zero] at hw ⊢; rw [hw]
  | k + 1, u, v, hw => by
    obtain ⟨a, ha, rfl, h2⟩ := Walk.succ.1 hw
    obtain ⟨b, hb, h3, h4⟩ := h a ha
    exact Walk.succ.2 ⟨b, hb, h3, by rw [h4]; exact walk_map h h2⟩
theorem nameAt_pos {N : List Str} {s : Str} (h : s ∈ N) : nameAt N (posS N s) = s := by
  have h1 := posS_at h
  have h2 := nameAt_get (posS_lt h)
  rw [h1] at h2
  exact (Option.some.inj h2).symm
theorem back_take {l : List Rel} {k : Nat} (h : Back (arcsOf (l.take k))) : Back (arcsOf l) := by
  obtain ⟨j, w, h1, h2⟩ := h
  refine ⟨j, posS (unitsL l) (nameAt (unitsL (l.take k)) w), h1, walk_map (φ := fun u => posS (unitsL l) (nameAt (unitsL (l.take k)) u)) (fun a ha => ?_) h2⟩
  obtain ⟨x, hx, hk, h3, h4, h5, h6⟩ := arc_at ha
  have hx' : l[a.i]? = some x := by
    rw [List.getElem?_take] at hx
    split at hx
    · exact hx
    · cases hx
  refine ⟨⟨a.i, posS (unitsL l) x.lower, posS (unitsL l) x.upper⟩, mem_arcs3.2 ⟨x, hx', hk, rfl⟩, ?_, ?_⟩
  · show posS (unitsL l) x.lower = posS (unitsL l) (nameAt (unitsL (l.take k)) a.lo)
    rw [h3, nameAt_pos h5]
  · show posS (unitsL l) x.upper = posS (unitsL l) (nameAt (unitsL (l.take k)) a.up)
    rw [h4, nameAt_pos h6]
theorem back_nil : ¬ Back (arcsOf []) := fun ⟨k, w, h1, h2⟩ => by
  obtain ⟨j, rfl⟩ : ∃ j, k = j + 1 := ⟨k - 1, by omega⟩
  obtain ⟨a, ha, _⟩ := Walk.succ.1 h2
  obtain ⟨x, hx, _⟩ := arc_at ha
  simp at hx

theorem cyc_made {C : Mem} {l : List Rel} {r : Value} (hM : Made l) (h : CycRes C l r) : ∃ A c f r0, r = .tuple #[.slice A (r0.length) c, .bool f, .int .i64 0] ∧ Sl C 1 (.slice A r0.length c) (r0.map encN) ∧
    ((f = false ∧ r0 = [] ∧ ¬ Back (arcsOf l)) ∨ (f = true ∧ Back (arcsOf l) ∧ ∃ q, LeastCyc (arcsOf l) q ∧ r0 = nums q)) := by
  rcases h with ⟨h, _⟩ | ⟨_, h, rfl⟩ | ⟨_, q, v, h1, rfl, h3⟩
  · exact absurd hM.err h
  · exact ⟨none, 0, false, [], rfl, Sl.nilS _ _, .inl ⟨rfl, rfl, fun ⟨k, w, h1, h2⟩ => h k w h1 h2⟩⟩
  · obtain ⟨A, c, rfl, _⟩ := id h3
    obtain ⟨u, h4, h5⟩ := h1.1.walk
    have e : ((nums q).map encN).length = (nums q).length := by simp
    refine ⟨A, c, true, nums q, by rw [e], by rw [← e]; exact h3, .inr ⟨rfl, ⟨_, u, h4, h5⟩, q, h1, rfl⟩⟩
theorem first_made {l : List Rel} {r : Value} (hM : Made l) (h : FirstRes l r) : ∃ (n : Nat) (f : Bool), r = .tuple #[.int .i64 n, .bool f, .int .i64 0] ∧
    ((f = false ∧ n = 0 ∧ ¬ Back (arcsOf l)) ∨ (f = true ∧ n < l.length ∧ Back (arcsOf l) ∧ Back (arcsOf (l.take (n + 1))) ∧ ∀ j, j < n → ¬ Back (arcsOf (l.take (j + 1))))) := by
  rcases h with ⟨h, _⟩ | ⟨_, h, rfl⟩ | ⟨_, i, h1, h2, h3, rfl⟩
  · exact absurd hM.err h
  · refine ⟨0, false, rfl, .inl ⟨rfl, rfl, fun hb => ?_⟩⟩
    rcases Nat.eq_zero_or_pos l.length with e | e
    · rw [List.eq_nil_of_length_eq_zero e] at hb; exact back_nil hb
    · have := h (l.length - 1) (by omega)
      rw [show l.length - 1 + 1 = l.length by omega, List.take_length] at this
      exact this hb
  · exact ⟨i, true, rfl, .inr ⟨rfl, h1, back_take h2, h2, h3⟩⟩
theorem gt_lt {i n : Nat} (h : decide ((i : Int) < (n : Nat)) = true) : i < n := by simpa using h
theorem slb_of {len cap i : Nat} (h : i < len) (hlc : len ≤ cap) : SlB len cap none (some (.int .i64 ((i : Int) + 1))) none 0 (i + 1) cap := ⟨.inl ⟨rfl, rfl⟩, .inr ⟨_, rfl⟩, .inl ⟨rfl, rfl⟩, by omega, by omega, Nat.le_refl _⟩
theorem subTake {C : Mem} {A : Option Addr} {cap i : Nat} {l : List Rel} (hv : Sl C 3 (.slice A l.length cap) (l.map Rel.enc)) (h : i < l.length) (hlc : l.length ≤ cap) :
    Sl C 3 (.slice (if cap = 0 then A else A.map (·.add (0 * 3))) (i + 1 - 0) (cap - 0)) ((l.take (i + 1)).map Rel.enc) := by
  have := hv.sub (l := 0) (h := i + 1) (m := cap) (Nat.zero_le _) (by rw [List.length_map]; omega) (by omega) (Nat.le_refl _)
  rwa [List.drop_zero, ← List.map_take] at this
theorem cycle_nonempty {A q : List Arc3} (h : LeastCyc A q) : nums q ≠ [] := fun e => by
  obtain ⟨a, q', rfl, _⟩ := h.1
  simp [nums] at e

set_option maxHeartbeats 4000000 in
theorem scycles_fn (C : Mem) (v : Value) (ss : List Seen) (hv : Sl C 3 v (ss.map Seen.enc)) : Pur cx.P 5 [v] C fun u _ => u = .bool true := by
  obtain ⟨A0, c0, rfl, _⟩ := id hv
  simp only [List.length_map] at hv ⊢
  refine Fn.intro (by kernel_rfl) Try.func5 rfl 88 rfl rfl (fun w0 => ?_)
  refine G.region rfl (fun R hR => ?_)
  refine D.pure rfl rfl rfl rfl rfl rfl ?_
  refine D.done [(0, [], _)] ⟨rfl, trivial⟩ (hR _ _ _ rfl ?_); clear hR R
  refine G.region rfl (fun R hR => ?_)
  refine D.callP (known_fn _) rfl rfl rfl rfl rfl rfl rfl (fun _ => rfl) (fun v12 C12 hle12 hq12 => ?_)
  obtain rfl := hq12
  iterate 3 refine D.pure rfl rfl rfl rfl rfl rfl ?_
  refine D.gives (fun _ => (fits_fn _ _ _ _)) rfl rfl rfl rfl rfl rfl rfl rfl rfl ?_
  refine D.pure rfl rfl rfl rfl rfl rfl ?_
  refine D.pickOr rfl rfl rfl rfl rfl rfl rfl rfl ?_
  refine D.done [(0, [], _), (18, [], _)] ⟨rfl, rfl, trivial⟩ (hR _ _ _ rfl ?_); clear hR R
  refine G.cond rfl (fun h18 => ?_) (fun h18 => ?_)
  · skip
    refine G.region rfl (fun R hR => ?_)
    refine D.callP (known_fn _) rfl rfl rfl rfl rfl rfl rfl (fun _ => rfl) (fun v19 C19 hle19 hq19 => ?_)
    obtain rfl := hq19
    refine D.pure rfl rfl rfl rfl rfl rfl ?_
    refine D.done [(2, [], _)] ⟨rfl, trivial⟩ (hR _ _ _ rfl ?_); clear hR R
    refine G.retN (G.dropAll (G.fin1 rfl rfl ?_))
    exact ⟨rfl, rfl⟩
  · skip
    refine G.region rfl (fun R hR => ?_)
    refine D.pure rfl rfl rfl rfl rfl rfl ?_
    refine D.callP (make_fn _ _ ss (hv.mono (by (repeat (first | exact Mem.le.refl _ | assumption | (apply Mem.le.trans; rotate_left; assumption)))))) rfl rfl rfl rfl rfl rfl rfl (fun _ => rfl) (fun v21 C21 hle21 hq21 => ?_)
    obtain ⟨l, hl⟩ : ∃ l, makeL ss = l := ⟨_, rfl⟩
    have hM : Made l := by rw [← hl]; exact made_makeL ss
    rw [hl] at hq21
    obtain ⟨Al, cl, rfl, hlc, _⟩ := id hq21
    simp only [List.length_map] at hq21 hlc
    have hl8 := hM.1
    simp only [List.length_map]
    refine D.pure rfl rfl rfl rfl rfl rfl ?_
    refine D.done [(3, [], _)] ⟨rfl, trivial⟩ (hR _ _ _ rfl ?_); clear hR R
    refine G.region rfl (fun R hR => ?_)
    refine D.pure rfl rfl rfl rfl rfl rfl ?_
    refine D.callP (cycle_fn _ _ l (hq21.mono (by (repeat (first | exact Mem.le.refl _ | assumption | (apply Mem.le.trans; rotate_left; assumption))))) (by omega) hM.short) rfl rfl rfl rfl rfl rfl rfl (fun _ => rfl) (fun v24 C24 hle24 hq24 => ?_)
    obtain ⟨Ac, cc, fc, r0, rfl, hr0, hc0⟩ := cyc_made hM hq24
    iterate 7 refine D.pure rfl rfl rfl rfl rfl rfl ?_
    refine D.done [(3, [], _), (4, [], _), (5, [], _), (6, [], _)] ⟨rfl, rfl, rfl, rfl, trivial⟩ (hR _ _ _ rfl ?_); clear hR R
    refine G.region rfl (fun R hR => ?_)
    refine D.pure rfl rfl rfl rfl rfl rfl ?_
    refine D.callP (first_fn _ _ l (hq21.mono (by (repeat (first | exact Mem.le.refl _ | assumption | (apply Mem.le.trans; rotate_left; assumption))))) (by omega) hM.short) rfl rfl rfl rfl rfl rfl rfl (fun _ => rfl) (fun v30 C30 hle30 hq30 => ?_)
    obtain ⟨nf, ff, rfl, hf0⟩ := first_made hM hq30
    iterate 7 refine D.pure rfl rfl rfl rfl rfl rfl ?_
    refine D.done [(3, [], _), (4, [], _), (5, [], _), (6, [], _), (7, [], _), (8, [], _), (9, [], _)] ⟨rfl, rfl, rfl, rfl, rfl, rfl, rfl, trivial⟩ (hR _ _ _ rfl ?_); clear hR R
    refine G.region rfl (fun R hR => ?_)
    refine D.pure rfl rfl rfl rfl rfl rfl ?_
    refine D.callP (lcycle_fn _ _ l (hq21.mono (by (repeat (first | exact Mem.le.refl _ | assumption | (apply Mem.le.trans; rotate_left; assumption))))) (by omega) hM.self hM.units) rfl rfl rfl rfl rfl rfl rfl (fun _ => rfl) (fun v35 C35 hle35 hq35 => ?_)
    obtain ⟨want, hw, hw0⟩ := hq35
    obtain ⟨Aw, cw, rfl, _⟩ := id hw
    simp only [List.length_map] at hw ⊢
    have heq : r0 = want := by
      rcases hc0 with ⟨_, h1, h2⟩ | ⟨_, h1, q, h2, h3⟩
      · rcases hw0 with ⟨h4, _⟩ | ⟨q, h4, _⟩
        · rw [h1, h4]
        · obtain ⟨u, h5, h6⟩ := h4.1.walk
          exact absurd ⟨_, u, h5, h6⟩ h2
      · rcases hw0 with ⟨_, h4⟩ | ⟨q2, h4, h5⟩
        · exact absurd h1 h4
        · rw [h3, h5]; exact h2.unique h4
    have hfc : fc = true ↔ r0 ≠ [] := by
      rcases hc0 with ⟨h1, h2, _⟩ | ⟨h1, _, q, h2, h3⟩
      · simp [h1, h2]
      · simp only [h1, true_iff]; rw [h3]; exact cycle_nonempty h2
    have hff : ff = fc := by
      rcases hc0 with ⟨h1, _, h2⟩ | ⟨h1, h2, _⟩
      · rcases hf0 with ⟨h3, _⟩ | ⟨_, _, h3, _⟩
        · rw [h1, h3]
        · exact absurd h3 h2
      · rcases hf0 with ⟨_, _, h3⟩ | ⟨h3, _⟩
        · exact absurd h2 h3
        · rw [h1, h3]
    have hwl : want.length ≤ 8 := by
      rcases hw0 with ⟨h, _⟩ | ⟨q, h, h2⟩
      · rw [h]; simp
      · rw [h2]
        obtain ⟨u, h3, h4⟩ := h.1.walk
        obtain ⟨k, w, h5, h6, h7⟩ := back_small (fun a ha b hb => (gok_of (l := l) (by omega)).ix.inj a ha b hb) ⟨_, u, h3, h4⟩
        have h8 := h.2.1 k w h5 h7
        have h9 := hM.arcs8
        have h10 : (nums q).length = q.length := by simp [nums]
        omega
    refine D.pure rfl rfl rfl rfl rfl rfl ?_
    refine D.done [(3, [], _), (4, [], _), (5, [], _), (6, [], _), (7, [], _), (8, [], _), (9, [], _), (10, [], _)] ⟨rfl, rfl, rfl, rfl, rfl, rfl, rfl, rfl, trivial⟩ (hR _ _ _ rfl ?_); clear hR R
    refine G.region rfl (fun R hR => ?_)
    refine D.pure rfl rfl rfl rfl rfl rfl ?_
    refine D.done [(3, [], _), (4, [], _), (5, [], _), (6, [], _), (7, [], _), (8, [], _), (9, [], _), (10, [], _), (11, [], _)] ⟨rfl, rfl, rfl, rfl, rfl, rfl, rfl, rfl, rfl, trivial⟩ (hR _ _ _ rfl ?_); clear hR R
    refine G.loop (fun fr C' L' μ => ∃ (i : Nat), (i ≤ l.length ∧ ∀ j, j < i → ¬ Back (arcsOf (l.take (j + 1)))) ∧ fr = [(3, [], .slice Al l.length cl), (4, [], .slice Ac r0.length cc), (5, [], .bool fc), (6, [], .int .i64 0), (7, [], .int .i64 nf), (8, [], .bool ff), (9, [], .int .i64 0), (10, [], .slice Aw want.length cw), (11, [], .int .i64 i)] ∧ L' = [] ∧ μ = l.length - i) (fr' := [(3, [], _), (4, [], _), (5, [], _), (6, [], _), (7, [], _), (8, [], _), (9, [], _), (10, [], _), (11, [], _)]) ⟨rfl, rfl, rfl, rfl, rfl, rfl, rfl, rfl, rfl, trivial⟩ ⟨0, ⟨Nat.zero_le _, fun j h => by omega⟩, rfl, rfl, rfl⟩ (fun fr C0' L0' m hle0 hI => ?_)
    obtain ⟨i, ⟨hi, hnb⟩, rfl, rfl, rfl⟩ := hI
    refine G.regionO [(9, 2)] rfl (fun R hR => ?_)
    iterate 7 refine D.pure rfl rfl rfl rfl rfl rfl ?_
    refine D.i64 _ rfl rfl rfl rfl rfl (by omega) (by omega) rfl rfl ?_
    refine D.sliceV 0 (i + 1) cl rfl rfl rfl rfl rfl rfl rfl rfl rfl rfl rfl rfl (fun hG => slb_of (gt_lt (show decide ((i : Int) < (l.length : Nat)) = true from hG.1)) hlc) rfl rfl ?_
    refine D.callPG (fun b : Bool => .bool b) (fun hG45 => (cyclic_fn _ _ (l.take (i + 1)) (subTake (hq21.mono (by (repeat (first | exact Mem.le.refl _ | assumption | (apply Mem.le.trans; rotate_left; assumption))))) (gt_lt (by exact hG45.1)) hlc) (by rw [List.length_take]; omega))) rfl rfl rfl rfl rfl rfl rfl (fun _ => rfl) rfl rfl (fun v45 C45 hle45 hq45 => ?_)
    refine D.pure rfl rfl rfl rfl rfl rfl ?_
    refine D.pickAnd rfl rfl rfl rfl rfl rfl rfl rfl ?_
    refine D.done [(3, [], _), (4, [], _), (5, [], _), (6, [], _), (7, [], _), (8, [], _), (9, [], _), (10, [], _), (11, [], _), (47, [], _)] ⟨rfl, rfl, rfl, rfl, rfl, rfl, rfl, rfl, rfl, rfl, trivial⟩ (hR _ _ _ rfl ?_); clear hR R
    refine G.cond rfl (fun h47 => ?_) (fun h47 => ?_)
    · skip
      have h47' : i < l.length ∧ v45 = false := by simpa using h47
      have hno : ¬ Back (arcsOf (l.take (i + 1))) := fun h => by
        have := (hq45 ⟨show decide ((i : Int) < (l.length : Nat)) = true by simpa using h47'.1, trivial⟩).2 h
        rw [h47'.2] at this; cases this
      refine G.region rfl (fun R hR => ?_)
      refine D.pure rfl rfl rfl rfl rfl rfl ?_
      refine D.i64 _ rfl rfl rfl rfl rfl (by omega) (by omega) rfl rfl ?_
      refine D.pure rfl rfl rfl rfl rfl rfl ?_
      refine D.done [(3, [], _), (4, [], _), (5, [], _), (6, [], _), (7, [], _), (8, [], _), (9, [], _), (10, [], _), (11, [], _)] ⟨rfl, rfl, rfl, rfl, rfl, rfl, rfl, rfl, rfl, trivial⟩ (hR _ _ _ rfl ?_); clear hR R
      refine G.again (m' := l.length - (i + 1)) (by omega) (by (repeat (first | exact Mem.le.refl _ | assumption | (apply Mem.le.trans; rotate_left; assumption)))) (fr' := [(3, [], _), (4, [], _), (5, [], _), (6, [], _), (7, [], _), (8, [], _), (9, [], _), (10, [], _), (11, [], _)]) ⟨rfl, rfl, rfl, rfl, rfl, rfl, rfl, rfl, rfl, trivial⟩ ⟨i + 1, ⟨by omega, fun j hj => by
        by_cases e : j = i
        · rw [e]; exact hno
        · exact hnb j (by omega)⟩, rfl, rfl, rfl⟩
    · skip
      have hend : i < l.length → Back (arcsOf (l.take (i + 1))) := fun h => by
        refine (hq45 ⟨show decide ((i : Int) < (l.length : Nat)) = true by simpa using h, trivial⟩).1 ?_
        simpa [h] using h47
      have hni : ff = true → nf = i := fun h => by
        rcases hf0 with ⟨h1, _⟩ | ⟨_, h1, _, h2, h3⟩
        · rw [h1] at h; cases h
        · rcases Nat.lt_trichotomy nf i with h4 | h4 | h4
          · exact absurd h2 (hnb nf h4)
          · exact h4
          · exact absurd (hend (by omega)) (h3 i h4)
      have hn0 : ff = false → nf = 0 := fun h => by
        rcases hf0 with ⟨_, h1, _⟩ | ⟨h1, _⟩
        · exact h1
        · rw [h1] at h; cases h
      refine G.region rfl (fun R hR => ?_)
      iterate 5 refine D.pure rfl rfl rfl rfl rfl rfl ?_
      refine D.pickOr rfl rfl rfl rfl rfl rfl rfl rfl ?_
      iterate 6 refine D.pure rfl rfl rfl rfl rfl rfl ?_
      refine D.pickOr rfl rfl rfl rfl rfl rfl rfl rfl ?_
      iterate 3 refine D.pure rfl rfl rfl rfl rfl rfl ?_
      refine D.gives (fun _ => (sameInts_fn _ _ _ (r0.map fun n : Nat => (n : Int)) (want.map fun n : Nat => (n : Int)) (by rw [← encN_I]; exact hr0.mono (by (repeat (first | exact Mem.le.refl _ | assumption | (apply Mem.le.trans; rotate_left; assumption))))) (by rw [← encN_I]; exact hw.mono (by (repeat (first | exact Mem.le.refl _ | assumption | (apply Mem.le.trans; rotate_left; assumption))))) (by rw [heq]; simp; omega))) rfl rfl rfl rfl rfl rfl rfl rfl rfl ?_
      refine D.pure rfl rfl rfl rfl rfl rfl ?_
      refine D.pickOr rfl rfl rfl rfl rfl rfl rfl rfl ?_
      iterate 4 refine D.pure rfl rfl rfl rfl rfl rfl ?_
      refine D.pickOr rfl rfl rfl rfl rfl rfl rfl rfl ?_
      refine D.done [(7, [], _), (8, [], _), (11, [], _), (73, [], _)] ⟨rfl, rfl, rfl, rfl, trivial⟩ (hR _ _ _ rfl ?_); clear hR R
      refine G.cond rfl (fun h73 => ?_) (fun h73 => ?_)
      · skip
        exfalso
        subst heq
        subst hff
        cases ff <;> simp_all
      · skip
        skip
        refine G.region rfl (fun R hR => ?_)
        iterate 5 refine D.pure rfl rfl rfl rfl rfl rfl ?_
        refine D.pickAnd rfl rfl rfl rfl rfl rfl rfl rfl ?_
        iterate 6 refine D.pure rfl rfl rfl rfl rfl rfl ?_
        refine D.pickAnd rfl rfl rfl rfl rfl rfl rfl rfl ?_
        refine D.pickOr rfl rfl rfl rfl rfl rfl rfl rfl ?_
        refine D.pure rfl rfl rfl rfl rfl rfl ?_
        refine D.done [(2, [], _)] ⟨rfl, trivial⟩ (hR _ _ _ rfl ?_); clear hR R
        refine G.retN (G.dropAll (G.fin1 rfl rfl ?_))
        refine ⟨rfl, ?_⟩
        cases ff with
        | true => rw [hni rfl]; simp
        | false => rw [hn0 rfl]; simp
end Go.Proofs.Ytddjibfmnkcalaa
namespace Go.Proofs.Ytddjibfmnkcalaa
open Go Go.Jog
set_option maxRecDepth 100000

theorem old_made {l : List Rel} {a b : Str} {r : Value} (hM : Made l) (h : OldRes l a b r) : (r = .tuple #[.bool false, .int .i64 10] ∧ (a ∉ unitsL l ∨ b ∉ unitsL l)) ∨
    ∃ t, r = .tuple #[.bool t, .int .i64 0] ∧ a ∈ unitsL l ∧ b ∈ unitsL l ∧ (t = true ↔ 0 < Jog.tab (arcsOf l) 8 (posS (unitsL l) a) (posS (unitsL l) b)) := by
  rcases h with ⟨h, _⟩ | ⟨_, h, rfl⟩ | ⟨_, h1, h2, t, h3, h4⟩
  · exact absurd hM.err h
  · exact .inl ⟨rfl, h⟩
  · exact .inr ⟨t, h3, h1, h2, by rw [h4]; exact reach_tab hM.arcs8⟩
theorem idxS_neg {N : List Str} {s : Str} (h : s ∉ N) : idxS N s = -1 := by unfold idxS; rw [if_neg h]

theorem reach_fnG (C : Mem) (v : Value) (l : List Rel) (hv : Sl C 3 v (l.map Rel.enc)) (hl : l.length ≤ 100000) : Pur cx.P 14 [v] C fun u C' => ∃ x : Option Addr × Nat, u = .slice x.1 (unitsL l).length x.2 ∧ Tbl C' (.slice x.1 (unitsL l).length x.2) (unitsL l).length (Jog.tab (arcsOf l) 8) :=
  Fn.mono (reach_fn C v l hv hl) (fun u C' L' _ ⟨h0, vs, h1, h2, h3⟩ => ⟨h0, by
    obtain ⟨A, c, rfl, _⟩ := id h2
    refine ⟨(A, c), by simp [h1], vs, h1, ?_, h3⟩
    simpa [h1] using h2⟩)

set_option maxHeartbeats 4000000 in
theorem solder_fn (C : Mem) (v : Value) (ss : List Seen) (sa sb : Str) (hv : Sl C 3 v (ss.map Seen.enc)) : Pur cx.P 6 [v, strV sa, strV sb] C fun u _ => u = .bool true := by
  obtain ⟨A0, c0, rfl, _⟩ := id hv
  simp only [List.length_map] at hv ⊢
  refine Fn.intro (by kernel_rfl) Try.func6 rfl 75 rfl rfl (fun w0 => ?_)
  refine G.region rfl (fun R hR => ?_)
  refine D.pure rfl rfl rfl rfl rfl rfl ?_
  refine D.done [(0, [], _), (1, [], _), (2, [], _)] ⟨rfl, rfl, rfl, trivial⟩ (hR _ _ _ rfl ?_); clear hR R
  refine G.region rfl (fun R hR => ?_)
  refine D.callP (known_fn _) rfl rfl rfl rfl rfl rfl rfl (fun _ => rfl) (fun v13 C13 hle13 hq13 => ?_)
  obtain rfl := hq13
  iterate 3 refine D.pure rfl rfl rfl rfl rfl rfl ?_
  refine D.gives (fun _ => (fits_fn _ _ _ _)) rfl rfl rfl rfl rfl rfl rfl rfl rfl ?_
  refine D.pure rfl rfl rfl rfl rfl rfl ?_
  refine D.pickOr rfl rfl rfl rfl rfl rfl rfl rfl ?_
  iterate 4 refine D.pure rfl rfl rfl rfl rfl rfl ?_
  refine D.pickOr rfl rfl rfl rfl rfl rfl rfl rfl ?_
  iterate 4 refine D.pure rfl rfl rfl rfl rfl rfl ?_
  refine D.pickOr rfl rfl rfl rfl rfl rfl rfl rfl ?_
  refine D.done [(0, [], _), (1, [], _), (2, [], _), (29, [], _)] ⟨rfl, rfl, rfl, rfl, trivial⟩ (hR _ _ _ rfl ?_); clear hR R
  refine G.cond rfl (fun h29 => ?_) (fun h29 => ?_)
  · skip
    refine G.region rfl (fun R hR => ?_)
    refine D.callP (known_fn _) rfl rfl rfl rfl rfl rfl rfl (fun _ => rfl) (fun v30 C30 hle30 hq30 => ?_)
    obtain rfl := hq30
    refine D.pure rfl rfl rfl rfl rfl rfl ?_
    refine D.done [(6, [], _)] ⟨rfl, trivial⟩ (hR _ _ _ rfl ?_); clear hR R
    refine G.retN (G.dropAll (G.fin1 rfl rfl ?_))
    exact ⟨rfl, rfl⟩
  · skip
    refine G.region rfl (fun R hR => ?_)
    refine D.pure rfl rfl rfl rfl rfl rfl ?_
    refine D.callP (make_fn _ _ ss (hv.mono (by (repeat (first | exact Mem.le.refl _ | assumption | (apply Mem.le.trans; rotate_left; assumption)))))) rfl rfl rfl rfl rfl rfl rfl (fun _ => rfl) (fun v32 C32 hle32 hq32 => ?_)
    obtain ⟨l, hl⟩ : ∃ l, makeL ss = l := ⟨_, rfl⟩
    have hM : Made l := by rw [← hl]; exact made_makeL ss
    rw [hl] at hq32
    obtain ⟨Al, cl, rfl, hlc, _⟩ := id hq32
    simp only [List.length_map] at hq32 hlc
    have hl8 := hM.1
    simp only [List.length_map]
    refine D.pure rfl rfl rfl rfl rfl rfl ?_
    refine D.done [(1, [], _), (2, [], _), (7, [], _)] ⟨rfl, rfl, rfl, trivial⟩ (hR _ _ _ rfl ?_); clear hR R
    refine G.region rfl (fun R hR => ?_)
    refine D.pure rfl rfl rfl rfl rfl rfl ?_
    refine D.callP (lunits_fn _ _ l (hq32.mono (by (repeat (first | exact Mem.le.refl _ | assumption | (apply Mem.le.trans; rotate_left; assumption))))) (by omega)) rfl rfl rfl rfl rfl rfl rfl (fun _ => rfl) (fun v34 C34 hle34 hq34 => ?_)
    have hN6 := hM.units
    refine D.pure rfl rfl rfl rfl rfl rfl ?_
    refine D.done [(1, [], _), (2, [], _), (7, [], _), (8, [], _)] ⟨rfl, rfl, rfl, rfl, trivial⟩ (hR _ _ _ rfl ?_); clear hR R
    refine G.region rfl (fun R hR => ?_)
    iterate 3 refine D.pure rfl rfl rfl rfl rfl rfl ?_
    refine D.callP (older_fn _ _ l sa sb (hq32.mono (by (repeat (first | exact Mem.le.refl _ | assumption | (apply Mem.le.trans; rotate_left; assumption))))) (by omega) hM.short) rfl rfl rfl rfl rfl rfl rfl (fun _ => rfl) (fun v39 C39 hle39 hq39 => ?_)
    have hold := old_made hM hq39
    obtain ⟨t, e, hte⟩ : ∃ (t : Bool) (e : Int), v39 = .tuple #[.bool t, .int .i64 e] := by
      rcases hold with ⟨h, _⟩ | ⟨t, h, _⟩
      · exact ⟨_, _, h⟩
      · exact ⟨_, _, h⟩
    subst hte
    iterate 5 refine D.pure rfl rfl rfl rfl rfl rfl ?_
    refine D.done [(1, [], _), (2, [], _), (7, [], _), (8, [], _), (9, [], _), (10, [], _)] ⟨rfl, rfl, rfl, rfl, rfl, rfl, trivial⟩ (hR _ _ _ rfl ?_); clear hR R
    refine G.region rfl (fun R hR => ?_)
    iterate 2 refine D.pure rfl rfl rfl rfl rfl rfl ?_
    refine D.gives2 (lindex_fn _ _ _ sa (hq34.mono (by (repeat (first | exact Mem.le.refl _ | assumption | (apply Mem.le.trans; rotate_left; assumption))))) (by omega)) rfl rfl rfl rfl rfl rfl rfl (fun _ => rfl) ?_
    iterate 2 refine D.pure rfl rfl rfl rfl rfl rfl ?_
    refine D.gives2 (lindex_fn _ _ _ sb (hq34.mono (by (repeat (first | exact Mem.le.refl _ | assumption | (apply Mem.le.trans; rotate_left; assumption))))) (by omega)) rfl rfl rfl rfl rfl rfl rfl (fun _ => rfl) ?_
    iterate 2 refine D.pure rfl rfl rfl rfl rfl rfl ?_
    refine D.done [(7, [], _), (9, [], _), (10, [], _), (11, [], _), (12, [], _)] ⟨rfl, rfl, rfl, rfl, rfl, trivial⟩ (hR _ _ _ rfl ?_); clear hR R
    refine G.region rfl (fun R hR => ?_)
    iterate 5 refine D.pure rfl rfl rfl rfl rfl rfl ?_
    refine D.pickOr rfl rfl rfl rfl rfl rfl rfl rfl ?_
    refine D.done [(7, [], _), (9, [], _), (10, [], _), (11, [], _), (12, [], _), (53, [], _)] ⟨rfl, rfl, rfl, rfl, rfl, rfl, trivial⟩ (hR _ _ _ rfl ?_); clear hR R
    refine G.cond rfl (fun h53 => ?_) (fun h53 => ?_)
    · skip
      have h53' : sa ∉ unitsL l ∨ sb ∉ unitsL l := by
        rcases Classical.em (sa ∈ unitsL l) with h1 | h1
        · rcases Classical.em (sb ∈ unitsL l) with h2 | h2
          · rw [idxS_pos h1, idxS_pos h2] at h53
            exfalso
            simp at h53
            omega
          · exact .inr h2
        · exact .inl h1
      refine G.region rfl (fun R hR => ?_)
      iterate 5 refine D.pure rfl rfl rfl rfl rfl rfl ?_
      refine D.pickAnd rfl rfl rfl rfl rfl rfl rfl rfl ?_
      refine D.pure rfl rfl rfl rfl rfl rfl ?_
      refine D.done [(6, [], _)] ⟨rfl, trivial⟩ (hR _ _ _ rfl ?_); clear hR R
      refine G.retN (G.dropAll (G.fin1 rfl rfl ?_))
      rcases hold with ⟨h, _⟩ | ⟨t', h, h1, h2, _⟩
      · cases h; exact ⟨rfl, rfl⟩
      · exact absurd h53' (fun h => h.elim (fun h => h h1) (fun h => h h2))
    · skip
      have h53' : sa ∈ unitsL l ∧ sb ∈ unitsL l := by
        rcases Classical.em (sa ∈ unitsL l) with h1 | h1
        · rcases Classical.em (sb ∈ unitsL l) with h2 | h2
          · exact ⟨h1, h2⟩
          · rw [idxS_neg h2] at h53; simp at h53
        · rw [idxS_neg h1] at h53; simp at h53
      have hpa := posS_lt h53'.1
      have hpb := posS_lt h53'.2
      rw [idxS_pos h53'.1, idxS_pos h53'.2]
      obtain ⟨rfl, htt⟩ : e = 0 ∧ (t = true ↔ 0 < Jog.tab (arcsOf l) 8 (posS (unitsL l) sa) (posS (unitsL l) sb)) := by
        rcases hold with ⟨_, h⟩ | ⟨t', h, _, _, h4⟩
        · exact absurd h (fun h => h.elim (fun h => h h53'.1) (fun h => h h53'.2))
        · cases h; exact ⟨rfl, h4⟩
      refine G.regionO [(5, 2)] rfl (fun R hR => ?_)
      iterate 5 refine D.pure rfl rfl rfl rfl rfl rfl ?_
      refine D.callPG (fun x : Option Addr × Nat => .slice x.1 (unitsL l).length x.2) (fun hG65 => (reach_fnG _ _ l (hq32.mono (by (repeat (first | exact Mem.le.refl _ | assumption | (apply Mem.le.trans; rotate_left; assumption))))) (by omega))) rfl rfl rfl rfl rfl rfl rfl (fun _ => rfl) rfl rfl (fun v65 C65 hle65 hq65 => ?_)
      obtain ⟨vs, hvl, hw, hrow⟩ := hq65 ⟨rfl, trivial⟩
      obtain ⟨vc, hvc⟩ : ∃ vc, vs[posS (unitsL l) sa]? = some vc := ⟨vs[posS (unitsL l) sa]'(by omega), List.getElem?_eq_getElem (by omega)⟩
      have hrc := hrow _ vc hvc
      obtain ⟨Ac, cc2, rfl, _⟩ := id hrc
      simp only [List.length_map, List.length_range] at hrc hvc
      have hrcv : (vs.map fun v => [v])[posS (unitsL l) sa]? = some [Value.slice Ac (unitsL l).length cc2] := by rw [List.getElem?_map, hvc]; rfl
      have hrcell : (((List.range (unitsL l).length).map (Jog.tab (arcsOf l) 8 (posS (unitsL l) sa))).map encN)[posS (unitsL l) sb]? = some (encN (Jog.tab (arcsOf l) 8 (posS (unitsL l) sa) (posS (unitsL l) sb))) := by simp [hpb]
      refine D.pure rfl rfl rfl rfl rfl rfl ?_
      refine D.index rfl rfl rfl rfl rfl rfl rfl rfl rfl rfl (fun hg => ⟨(hw.mono (by (repeat (first | exact Mem.le.refl _ | assumption | (apply Mem.le.trans; rotate_left; assumption))))), by omega, hrcv⟩) (fun _ => rfl) rfl (fun p67 hp67 => ?_)
      refine D.loadP rfl rfl rfl rfl rfl rfl hp67 rfl rfl rfl ?_
      refine D.pure rfl rfl rfl rfl rfl rfl ?_
      refine D.index rfl rfl rfl rfl rfl rfl rfl rfl rfl rfl (fun hg => ⟨(hrc.mono (by (repeat (first | exact Mem.le.refl _ | assumption | (apply Mem.le.trans; rotate_left; assumption))))), by omega, hrcell⟩) (fun _ => rfl) rfl (fun p70 hp70 => ?_)
      refine D.loadP rfl rfl rfl rfl rfl rfl hp70 rfl rfl rfl ?_
      iterate 2 refine D.pure rfl rfl rfl rfl rfl rfl ?_
      refine D.pickAnd rfl rfl rfl rfl rfl rfl rfl rfl ?_
      refine D.pure rfl rfl rfl rfl rfl rfl ?_
      refine D.done [(6, [], _)] ⟨rfl, trivial⟩ (hR _ _ _ rfl ?_); clear hR R
      refine G.retN (G.dropAll (G.fin1 rfl rfl ?_))
      refine ⟨rfl, ?_⟩
      have : t = decide (0 < Jog.tab (arcsOf l) 8 (posS (unitsL l) sa) (posS (unitsL l) sb)) := by rw [Bool.eq_iff_iff, htt]; simp
      rw [this]; simp
end Go.Proofs.Ytddjibfmnkcalaa
namespace Go.Proofs.Ytddjibfmnkcalaa
open Go Go.Jog
set_option maxRecDepth 100000

/-- The greatest of the first so many. -/
def mx (f : Nat → Nat) : Nat → Nat
  | 0 => 0
  | k + 1 => max (mx f k) (f k)
theorem mx_spec (f : Nat → Nat) : ∀ n, (∀ k, k < n → f k ≤ mx f n) ∧ (mx f n = 0 ∨ ∃ k, k < n ∧ f k = mx f n)
  | 0 => ⟨fun k h => by omega, .inl rfl⟩
  | n + 1 => by
    obtain ⟨h1, h2⟩ := mx_spec f n
    refine ⟨fun k hk => ?_, ?_⟩
    · simp only [mx]
      rcases Nat.lt_or_ge k n with h | h
      · have := h1 k h; omega
      · have : k = n := by omega
        subst this; omega
    · simp only [mx]
      rcases Nat.le_total (mx f n) (f n) with h | h
      · exact .inr ⟨n, by omega, by omega⟩
      · rw [Nat.max_eq_left h]
        rcases h2 with h2 | ⟨k, h3, h4⟩
        · exact .inl h2
        · exact .inr ⟨k, by omega, h4⟩
theorem long_mx {A : List Arc3} {n i : Nat} (hac : Acyc A) (hb : Below n A) (hn : n ≤ 8) (hi : i < n) : LongTo A i (mx (fun k => Jog.tab A 8 k i) n) := by
  obtain ⟨h1, h2⟩ := mx_spec (fun k => Jog.tab A 8 k i) n
  refine ⟨?_, fun k v hw => ?_⟩
  · rcases h2 with h2 | ⟨k, h3, h4⟩
    · rw [h2]; exact ⟨i, Walk.zero.2 rfl⟩
    · rw [← h4]
      rcases tab_long A 8 (Nat.le_refl _) k i with ⟨h5, _⟩ | ⟨_, _, h5, _⟩
      · rw [h5]; exact ⟨i, Walk.zero.2 rfl⟩
      · exact ⟨k, h5⟩
  · rcases Nat.eq_zero_or_pos k with e | e
    · omega
    · obtain ⟨j, rfl⟩ : ∃ j, k = j + 1 := ⟨k - 1, by omega⟩
      have hv : v < n := by
        obtain ⟨a, ha, rfl, _⟩ := Walk.succ.1 hw
        exact (hb a ha).1
      have hk := acyc_lt hac hb hw hi
      have h6 := h1 v hv
      rcases tab_long A 8 (Nat.le_refl _) v i with ⟨_, h5⟩ | ⟨_, _, _, h5⟩
      · exact absurd hw (h5 _ e (by omega))
      · have := h5 _ (by omega) hw
        omega
theorem long_from_mx {A : List Arc3} {n i : Nat} (hac : Acyc A) (hb : Below n A) (hn : n ≤ 8) (hi : i < n) : LongFrom A i (mx (fun k => Jog.tab A 8 i k) n) := by
  obtain ⟨h1, h2⟩ := mx_spec (fun k => Jog.tab A 8 i k) n
  refine ⟨?_, fun k v hw => ?_⟩
  · rcases h2 with h2 | ⟨k, h3, h4⟩
    · rw [h2]; exact ⟨i, Walk.zero.2 rfl⟩
    · rw [← h4]
      rcases tab_long A 8 (Nat.le_refl _) i k with ⟨h5, _⟩ | ⟨_, _, h5, _⟩
      · rw [h5]; exact ⟨i, Walk.zero.2 rfl⟩
      · exact ⟨k, h5⟩
  · rcases Nat.eq_zero_or_pos k with e | e
    · omega
    · obtain ⟨j, rfl⟩ : ∃ j, k = j + 1 := ⟨k - 1, by omega⟩
      have hv : v < n := by
        obtain ⟨a, ha, rfl, _⟩ := Walk.snoc.1 hw
        exact (hb a ha).2
      have hk := acyc_lt hac hb hw hv
      have h6 := h1 v hv
      rcases tab_long A 8 (Nat.le_refl _) i v with ⟨_, h5⟩ | ⟨_, _, _, h5⟩
      · exact absurd hw (h5 _ e (by omega))
      · have := h5 _ (by omega) hw
        omega
/-- The earliest rank, and how long the longest way on is. -/
def eaR (A : List Arc3) (n i : Nat) : Nat := mx (fun k => Jog.tab A 8 k i) n
def onR (A : List Arc3) (n i : Nat) : Nat := mx (fun k => Jog.tab A 8 i k) n
theorem rank_ok {A : List Arc3} {n i : Nat} (hac : Acyc A) (hb : Below n A) (hn : n ≤ 8) (hi : i < n) : eaR A n i + onR A n i ≤ mx (eaR A n) n := by
  obtain ⟨⟨u, hu⟩, _⟩ := long_mx hac hb hn hi
  obtain ⟨⟨v, hv⟩, _⟩ := long_from_mx hac hb hn hi
  have hw := Walk.add hu hv
  rcases Nat.eq_zero_or_pos (onR A n i) with e | e
  · rw [e]; exact (mx_spec (eaR A n) n).1 i hi
  · have hvn : v < n := by
      obtain ⟨j, hj⟩ : ∃ j, onR A n i = j + 1 := ⟨onR A n i - 1, by omega⟩
      have hv' : Walk A (onR A n i) i v := hv
      rw [hj] at hv'
      obtain ⟨a, ha, rfl, _⟩ := Walk.snoc.1 hv'
      exact (hb a ha).2
    have h1 := (long_mx hac hb hn hvn).2 _ _ hw
    have h2 := (mx_spec (eaR A n) n).1 v hvn
    exact Nat.le_trans h1 h2
theorem ranks_made {C : Mem} {l : List Rel} {r : Value} (hM : Made l) (h : RankRes C l r) : (Back (arcsOf l) ∧ r = .tuple #[nilV, nilV, .int .i64 27]) ∨
    (¬ Back (arcsOf l) ∧ ∃ va vb, r = .tuple #[va, vb, .int .i64 0] ∧ Sl C 1 va (((List.range (unitsL l).length).map (eaR (arcsOf l) (unitsL l).length)).map encN) ∧
      Sl C 1 vb (((List.range (unitsL l).length).map fun i => ((mx (eaR (arcsOf l) (unitsL l).length) (unitsL l).length : Nat) : Int) - (onR (arcsOf l) (unitsL l).length i : Nat)).map encI)) := by
  rcases h with ⟨h, _⟩ | ⟨_, h1, h2⟩ | ⟨_, h0, m, es, ls, va, vb, ⟨h1, h2, h3, h4, h5⟩, h6, h7, h8⟩
  · exact absurd hM.err h
  · exact .inl ⟨h1, h2⟩
  · refine .inr ⟨h0, va, vb, h6, ?_, ?_⟩
    all_goals
      have hac : Acyc (arcsOf l) := fun k u h9 h10 => h0 ⟨k, u, h9, h10⟩
      have hb := (gok_of (l := l) (by have := hM.1; omega)).below
      have hn : (unitsL l).length ≤ 8 := by have := hM.units; omega
      have hv : ∀ v, v < (unitsL l).length → hAt es v = eaR (arcsOf l) (unitsL l).length v := fun v hv => (h2 v hv).unique (long_mx hac hb hn hv)
    · have : es = (List.range (unitsL l).length).map (eaR (arcsOf l) (unitsL l).length) := by
        refine List.ext_getElem (by simp [h1]) (fun i h9 h10 => ?_)
        have := hv i (by omega)
        rw [hAt_get (List.getElem?_eq_getElem h9)] at this
        rw [this]; simp
      rw [← this]; exact h7
    · have hm : m = mx (eaR (arcsOf l) (unitsL l).length) (unitsL l).length := by
        obtain ⟨h9, h10⟩ := mx_spec (eaR (arcsOf l) (unitsL l).length) (unitsL l).length
        apply Nat.le_antisymm
        · rcases h3.2 with h | ⟨x, hx, h⟩
          · omega
          · rw [← h, hv x (List.mem_range.1 hx)]; exact h9 x (List.mem_range.1 hx)
        · rcases h10 with h | ⟨k, hk, h⟩
          · omega
          · rw [← h, ← hv k hk]; exact h3.1 k (List.mem_range.2 hk)
      have : ls = (List.range (unitsL l).length).map fun i => ((mx (eaR (arcsOf l) (unitsL l).length) (unitsL l).length : Nat) : Int) - (onR (arcsOf l) (unitsL l).length i : Nat) := by
        refine List.ext_getElem (by simp [h4]) (fun i h9 h10 => ?_)
        obtain ⟨d, h11, h12⟩ := h5 i (by omega)
        have h13 := h11.unique (long_from_mx hac hb hn (by omega))
        rw [dAt_get (List.getElem?_eq_getElem h9), h13, hm] at h12
        rw [h12]; simp [onR]
      rw [← this]; exact h8
theorem sameInts_tI (C : Mem) (va vb : Value) (x : List Int) (ha : Sl C 1 va (x.map encI)) (hb : Sl C 1 vb (x.map encI)) (hl : x.length ≤ 1000000) : Gives cx.P 15 [va, vb] C (.bool true) := by
  have := sameInts_fn C va vb _ _ ha hb hl
  simpa using this

theorem mx_le {f : Nat → Nat} {b : Nat} (h : ∀ k, f k ≤ b) (n : Nat) : mx f n ≤ b := by
  rcases (mx_spec f n).2 with h1 | ⟨k, _, h1⟩
  · omega
  · rw [← h1]; exact h k

set_option maxHeartbeats 4000000 in
theorem sranks_fn (C : Mem) (v : Value) (ss : List Seen) (hv : Sl C 3 v (ss.map Seen.enc)) : Pur cx.P 3 [v] C fun u _ => u = .bool true := by
  obtain ⟨A0, c0, rfl, _⟩ := id hv
  simp only [List.length_map] at hv ⊢
  refine Fn.intro (by kernel_rfl) Try.func3 rfl 123 rfl rfl (fun w0 => ?_)
  refine G.region rfl (fun R hR => ?_)
  refine D.pure rfl rfl rfl rfl rfl rfl ?_
  refine D.done [(0, [], _)] ⟨rfl, trivial⟩ (hR _ _ _ rfl ?_); clear hR R
  refine G.region rfl (fun R hR => ?_)
  refine D.callP (known_fn _) rfl rfl rfl rfl rfl rfl rfl (fun _ => rfl) (fun v17 C17 hle17 hq17 => ?_)
  obtain rfl := hq17
  iterate 3 refine D.pure rfl rfl rfl rfl rfl rfl ?_
  refine D.gives (fun _ => (fits_fn _ _ _ _)) rfl rfl rfl rfl rfl rfl rfl rfl rfl ?_
  refine D.pure rfl rfl rfl rfl rfl rfl ?_
  refine D.pickOr rfl rfl rfl rfl rfl rfl rfl rfl ?_
  refine D.done [(0, [], _), (23, [], _)] ⟨rfl, rfl, trivial⟩ (hR _ _ _ rfl ?_); clear hR R
  refine G.cond rfl (fun h23 => ?_) (fun h23 => ?_)
  · skip
    refine G.region rfl (fun R hR => ?_)
    refine D.callP (known_fn _) rfl rfl rfl rfl rfl rfl rfl (fun _ => rfl) (fun v24 C24 hle24 hq24 => ?_)
    obtain rfl := hq24
    refine D.pure rfl rfl rfl rfl rfl rfl ?_
    refine D.done [(2, [], _)] ⟨rfl, trivial⟩ (hR _ _ _ rfl ?_); clear hR R
    refine G.retN (G.dropAll (G.fin1 rfl rfl ?_))
    exact ⟨rfl, rfl⟩
  · skip
    refine G.region rfl (fun R hR => ?_)
    refine D.pure rfl rfl rfl rfl rfl rfl ?_
    refine D.callP (make_fn _ _ ss (hv.mono (by (repeat (first | exact Mem.le.refl _ | assumption | (apply Mem.le.trans; rotate_left; assumption)))))) rfl rfl rfl rfl rfl rfl rfl (fun _ => rfl) (fun v26 C26 hle26 hq26 => ?_)
    obtain ⟨l, hl⟩ : ∃ l, makeL ss = l := ⟨_, rfl⟩
    have hM : Made l := by rw [← hl]; exact made_makeL ss
    rw [hl] at hq26
    obtain ⟨Al, cl, rfl, hlc, _⟩ := id hq26
    simp only [List.length_map] at hq26 hlc
    have hl8 := hM.1
    simp only [List.length_map]
    refine D.pure rfl rfl rfl rfl rfl rfl ?_
    refine D.done [(3, [], _)] ⟨rfl, trivial⟩ (hR _ _ _ rfl ?_); clear hR R
    refine G.region rfl (fun R hR => ?_)
    refine D.pure rfl rfl rfl rfl rfl rfl ?_
    refine D.callP (ranks_fn _ _ l (hq26.mono (by (repeat (first | exact Mem.le.refl _ | assumption | (apply Mem.le.trans; rotate_left; assumption))))) (by omega) hM.short) rfl rfl rfl rfl rfl rfl rfl (fun _ => rfl) (fun v29 C29 hle29 hq29 => ?_)
    have hra := ranks_made hM hq29
    have hN6 := hM.units
    have hbel := (gok_of (l := l) (by omega)).below
    have hT8 : ∀ i k, Jog.tab (arcsOf l) 8 i k ≤ 8 := fun i k => tab_le _ (Nat.le_refl _) i k
    obtain ⟨A, hA⟩ : ∃ A, arcsOf l = A := ⟨_, rfl⟩
    obtain ⟨n, hn⟩ : ∃ n, (unitsL l).length = n := ⟨_, rfl⟩
    rw [hA, hn] at hra hbel
    rw [hA] at hT8
    rw [hn] at hN6
    obtain ⟨Aa, la, ca, Ab, lb, cb, ee, rfl⟩ : ∃ Aa la ca Ab lb cb, ∃ ee : Int, v29 = .tuple #[.slice Aa la ca, .slice Ab lb cb, .int .i64 ee] := by
      rcases hra with ⟨_, h⟩ | ⟨_, va, vb, h, h1, h2⟩
      · exact ⟨none, 0, 0, none, 0, 0, 27, h⟩
      · obtain ⟨A1, c1, rfl, _⟩ := id h1
        obtain ⟨A2, c2, rfl, _⟩ := id h2
        exact ⟨_, _, _, _, _, _, _, h⟩
    iterate 7 refine D.pure rfl rfl rfl rfl rfl rfl ?_
    refine D.done [(3, [], _), (4, [], _), (5, [], _), (6, [], _)] ⟨rfl, rfl, rfl, rfl, trivial⟩ (hR _ _ _ rfl ?_); clear hR R
    refine G.region rfl (fun R hR => ?_)
    refine D.pure rfl rfl rfl rfl rfl rfl ?_
    refine D.callP (cyclic_fn _ _ l (hq26.mono (by (repeat (first | exact Mem.le.refl _ | assumption | (apply Mem.le.trans; rotate_left; assumption))))) hl8) rfl rfl rfl rfl rfl rfl rfl (fun _ => rfl) (fun v34 C34 hle34 hq34 => ?_)
    obtain ⟨bc, rfl, hbc⟩ := hq34
    rw [hA] at hbc
    refine D.done [(3, [], _), (4, [], _), (5, [], _), (6, [], _), (34, [], _)] ⟨rfl, rfl, rfl, rfl, rfl, trivial⟩ (hR _ _ _ rfl ?_); clear hR R
    refine G.cond rfl (fun h34 => ?_) (fun h34 => ?_)
    · skip
      have hBk : Back A := hbc.1 (by simpa using h34)
      obtain ⟨rfl, rfl, rfl⟩ : la = 0 ∧ lb = 0 ∧ ee = 27 := by
        rcases hra with ⟨_, h⟩ | ⟨h, _⟩
        · cases h; exact ⟨rfl, rfl, rfl⟩
        · exact absurd hBk h
      refine G.region rfl (fun R hR => ?_)
      iterate 4 refine D.pure rfl rfl rfl rfl rfl rfl ?_
      refine D.i64 _ rfl rfl rfl rfl rfl (by omega) (by omega) rfl rfl ?_
      iterate 4 refine D.pure rfl rfl rfl rfl rfl rfl ?_
      refine D.pickAnd rfl rfl rfl rfl rfl rfl rfl rfl ?_
      refine D.pure rfl rfl rfl rfl rfl rfl ?_
      refine D.done [(2, [], _)] ⟨rfl, trivial⟩ (hR _ _ _ rfl ?_); clear hR R
      refine G.retN (G.dropAll (G.fin1 rfl rfl ?_))
      exact ⟨rfl, rfl⟩
    · skip
      have hnB : ¬ Back A := fun h => by have := hbc.2 h; rw [this] at h34; cases h34
      have hac : Acyc A := fun k u h1 h2 => hnB ⟨k, u, h1, h2⟩
      obtain ⟨rfl, hsa, hsb⟩ : ee = 0 ∧ Sl C29 1 (.slice Aa la ca) (((List.range n).map (eaR A n)).map encN) ∧ Sl C29 1 (.slice Ab lb cb) (((List.range n).map fun i => ((mx (eaR A n) n : Nat) : Int) - (onR A n i : Nat)).map encI) := by
        rcases hra with ⟨h, _⟩ | ⟨_, va, vb, h, h1, h2⟩
        · exact absurd h hnB
        · cases h; exact ⟨rfl, h1, h2⟩
      refine G.region rfl (fun R hR => ?_)
      refine D.pure rfl rfl rfl rfl rfl rfl ?_
      refine D.callP (reach_fn _ _ l (hq26.mono (by (repeat (first | exact Mem.le.refl _ | assumption | (apply Mem.le.trans; rotate_left; assumption))))) (by omega)) rfl rfl rfl rfl rfl rfl rfl (fun _ => rfl) (fun v46 C46 hle46 hq46 => ?_)
      rw [hn, hA] at hq46
      obtain ⟨vs, hvl, hw, hrow⟩ := hq46
      obtain ⟨Aw, cw, rfl, _⟩ := id hw
      simp only [List.length_map, hvl] at hw ⊢
      refine D.pure rfl rfl rfl rfl rfl rfl ?_
      refine D.done [(4, [], _), (5, [], _), (6, [], _), (7, [], _)] ⟨rfl, rfl, rfl, rfl, trivial⟩ (hR _ _ _ rfl ?_); clear hR R
      refine G.region rfl (fun R hR => ?_)
      iterate 2 refine D.pure rfl rfl rfl rfl rfl rfl ?_
      refine D.done [(4, [], _), (5, [], _), (6, [], _), (7, [], _), (8, [], _), (9, [], _)] ⟨rfl, rfl, rfl, rfl, rfl, rfl, trivial⟩ (hR _ _ _ rfl ?_); clear hR R
      refine G.region rfl (fun R hR => ?_)
      refine D.pure rfl rfl rfl rfl rfl rfl ?_
      refine D.done [(4, [], _), (5, [], _), (6, [], _), (7, [], _), (8, [], _), (9, [], _), (10, [], _)] ⟨rfl, rfl, rfl, rfl, rfl, rfl, rfl, trivial⟩ (hR _ _ _ rfl ?_); clear hR R
      refine G.region rfl (fun R hR => ?_)
      refine D.pure rfl rfl rfl rfl rfl rfl ?_
      refine D.done [(4, [], _), (5, [], _), (6, [], _), (7, [], _), (8, [], _), (9, [], _), (10, [], _), (11, [], _)] ⟨rfl, rfl, rfl, rfl, rfl, rfl, rfl, rfl, trivial⟩ (hR _ _ _ rfl ?_); clear hR R
      refine G.nilArr 3 1 ?_
      refine G.loop (fun fr C' L' μ => ∃ (i : Nat) (w : Value), (i ≤ n) ∧ fr = [(4, [], .slice Aa la ca), (5, [], .slice Ab lb cb), (6, [], .int .i64 0), (7, [], .slice Aw n cw), (8, [], w), (9, [], .slice none 0 0), (10, [], .int .i64 (mx (eaR A n) i : Nat)), (11, [], .int .i64 i)] ∧ L' = [.arr w 3 1 i (((List.range i).map (eaR A n)).map intN)] ∧ μ = n - i) (fr' := [(4, [], _), (5, [], _), (6, [], _), (7, [], _), (8, [], _), (9, [], _), (10, [], _), (11, [], _)]) ⟨rfl, rfl, rfl, rfl, rfl, rfl, rfl, rfl, trivial⟩ ⟨0, _, Nat.zero_le _, rfl, rfl, rfl⟩ (fun fr C0' L0' m hle0 hI => ?_)
      obtain ⟨i, w, hi, rfl, rfl, rfl⟩ := hI
      refine G.region rfl (fun R hR => ?_)
      iterate 4 refine D.pure rfl rfl rfl rfl rfl rfl ?_
      refine D.done [(4, [], _), (5, [], _), (6, [], _), (7, [], _), (8, [], _), (9, [], _), (10, [], _), (11, [], _), (50, [], _)] ⟨rfl, rfl, rfl, rfl, rfl, rfl, rfl, rfl, rfl, trivial⟩ (hR _ _ _ rfl ?_); clear hR R
      refine G.cond rfl (fun h50 => ?_) (fun h50 => ?_)
      · skip
        simp only [decide_eq_true_eq] at h50
        have hil : i < n := by omega
        refine G.region rfl (fun R hR => ?_)
        refine D.pure rfl rfl rfl rfl rfl rfl ?_
        refine D.done [(4, [], _), (5, [], _), (6, [], _), (7, [], _), (8, [], _), (9, [], _), (10, [], _), (11, [], _), (12, [], _)] ⟨rfl, rfl, rfl, rfl, rfl, rfl, rfl, rfl, rfl, trivial⟩ (hR _ _ _ rfl ?_); clear hR R
        refine G.region rfl (fun R hR => ?_)
        refine D.pure rfl rfl rfl rfl rfl rfl ?_
        refine D.done [(4, [], _), (5, [], _), (6, [], _), (7, [], _), (8, [], _), (9, [], _), (10, [], _), (11, [], _), (12, [], _), (13, [], _)] ⟨rfl, rfl, rfl, rfl, rfl, rfl, rfl, rfl, rfl, rfl, trivial⟩ (hR _ _ _ rfl ?_); clear hR R
        refine G.loop (fun fr C' L' μ => ∃ (k : Nat), (k ≤ n) ∧ fr = [(4, [], .slice Aa la ca), (5, [], .slice Ab lb cb), (6, [], .int .i64 0), (7, [], .slice Aw n cw), (8, [], w), (9, [], .slice none 0 0), (10, [], .int .i64 (mx (eaR A n) i : Nat)), (11, [], .int .i64 i), (12, [], .int .i64 (mx (fun k => Jog.tab A 8 k i) k : Nat)), (13, [], .int .i64 k)] ∧ L' = [.arr w 3 1 i (((List.range i).map (eaR A n)).map intN)] ∧ μ = n - k) (fr' := [(4, [], _), (5, [], _), (6, [], _), (7, [], _), (8, [], _), (9, [], _), (10, [], _), (11, [], _), (12, [], _), (13, [], _)]) ⟨rfl, rfl, rfl, rfl, rfl, rfl, rfl, rfl, rfl, rfl, trivial⟩ ⟨0, Nat.zero_le _, rfl, rfl, rfl⟩ (fun fr C1' L1' m hle1 hI => ?_)
        obtain ⟨k, hk, rfl, rfl, rfl⟩ := hI
        refine G.region rfl (fun R hR => ?_)
        iterate 4 refine D.pure rfl rfl rfl rfl rfl rfl ?_
        refine D.done [(4, [], _), (5, [], _), (6, [], _), (7, [], _), (8, [], _), (9, [], _), (10, [], _), (11, [], _), (12, [], _), (13, [], _), (56, [], _)] ⟨rfl, rfl, rfl, rfl, rfl, rfl, rfl, rfl, rfl, rfl, rfl, trivial⟩ (hR _ _ _ rfl ?_); clear hR R
        refine G.cond rfl (fun h56 => ?_) (fun h56 => ?_)
        · skip
          simp only [decide_eq_true_eq] at h56
          have hkl : k < n := by omega
          obtain ⟨vc, hvc⟩ : ∃ vc, vs[k]? = some vc := ⟨vs[k]'(by omega), List.getElem?_eq_getElem (by omega)⟩
          have hrc := hrow k vc hvc
          obtain ⟨Ac, cc2, rfl, _⟩ := id hrc
          simp only [List.length_map, List.length_range] at hrc hvc
          have hrcv : (vs.map fun v => [v])[k]? = some [Value.slice Ac n cc2] := by rw [List.getElem?_map, hvc]; rfl
          have hrcell : (((List.range n).map (Jog.tab A 8 k)).map encN)[i]? = some (encN (Jog.tab A 8 k i)) := by simp [hil]
          refine G.region rfl (fun R hR => ?_)
          iterate 3 refine D.pure rfl rfl rfl rfl rfl rfl ?_
          refine D.index0 (hw.mono (by (repeat (first | exact Mem.le.refl _ | assumption | (apply Mem.le.trans; rotate_left; assumption))))) rfl rfl rfl rfl rfl rfl rfl rfl rfl rfl (by omega) hrcv (fun _ => rfl) (fun p62 hp62 => ?_)
          refine D.loadP0 hp62 rfl rfl rfl rfl rfl rfl rfl rfl ?_
          refine D.pure rfl rfl rfl rfl rfl rfl ?_
          refine D.index0 (hrc.mono (by (repeat (first | exact Mem.le.refl _ | assumption | (apply Mem.le.trans; rotate_left; assumption))))) rfl rfl rfl rfl rfl rfl rfl rfl rfl rfl (by omega) hrcell (fun _ => rfl) (fun p65 hp65 => ?_)
          refine D.loadP0 hp65 rfl rfl rfl rfl rfl rfl rfl rfl ?_
          refine D.max (((mx (fun k => Jog.tab A 8 k i) (k + 1) : Nat) : Int)) rfl rfl rfl rfl rfl rfl (by simp only [mx]; omega) rfl rfl ?_
          refine D.pure rfl rfl rfl rfl rfl rfl ?_
          refine D.done [(4, [], _), (5, [], _), (6, [], _), (7, [], _), (8, [], _), (9, [], _), (10, [], _), (11, [], _), (12, [], _), (13, [], _)] ⟨rfl, rfl, rfl, rfl, rfl, rfl, rfl, rfl, rfl, rfl, trivial⟩ (hR _ _ _ rfl ?_); clear hR R
          refine G.region rfl (fun R hR => ?_)
          refine D.pure rfl rfl rfl rfl rfl rfl ?_
          refine D.i64 _ rfl rfl rfl rfl rfl (by omega) (by omega) rfl rfl ?_
          refine D.pure rfl rfl rfl rfl rfl rfl ?_
          refine D.done [(4, [], _), (5, [], _), (6, [], _), (7, [], _), (8, [], _), (9, [], _), (10, [], _), (11, [], _), (12, [], _), (13, [], _)] ⟨rfl, rfl, rfl, rfl, rfl, rfl, rfl, rfl, rfl, rfl, trivial⟩ (hR _ _ _ rfl ?_); clear hR R
          refine G.again (m' := n - (k + 1)) (by omega) (by (repeat (first | exact Mem.le.refl _ | assumption | (apply Mem.le.trans; rotate_left; assumption)))) (fr' := [(4, [], _), (5, [], _), (6, [], _), (7, [], _), (8, [], _), (9, [], _), (10, [], _), (11, [], _), (12, [], _), (13, [], _)]) ⟨rfl, rfl, rfl, rfl, rfl, rfl, rfl, rfl, rfl, rfl, trivial⟩ ⟨k + 1, by omega, rfl, rfl, rfl⟩
        · skip
          simp only [decide_eq_false_iff_not] at h56
          have hkl : n = k := by omega
          subst hkl
          refine G.region rfl (fun R hR => ?_)
          iterate 2 refine D.pure rfl rfl rfl rfl rfl rfl ?_
          refine D.buildSlice [encN (eaR A n i)] rfl rfl rfl rfl rfl rfl rfl rfl rfl rfl rfl rfl (fun _ => rfl) (fun p70 C70 hle70 hs70 => ?_)
          refine D.append (j := 0) rfl rfl rfl rfl rfl rfl rfl rfl rfl rfl rfl hs70 rfl (by simp only [List.length_singleton, maxLen]; omega) (by simp only [List.length_singleton]; omega) (fun _ => rfl) (fun v71 => ?_)
          iterate 2 refine D.pure rfl rfl rfl rfl rfl rfl ?_
          refine D.max (((mx (eaR A n) (i + 1) : Nat) : Int)) rfl rfl rfl rfl rfl rfl (by show max ((mx (eaR A n) i : Nat) : Int) ((eaR A n i : Nat) : Int) = _; simp only [mx]; omega) rfl rfl ?_
          iterate 2 refine D.pure rfl rfl rfl rfl rfl rfl ?_
          refine D.done [(4, [], _), (5, [], _), (6, [], _), (7, [], _), (8, [], _), (9, [], _), (10, [], _), (11, [], _)] ⟨rfl, rfl, rfl, rfl, rfl, rfl, rfl, rfl, trivial⟩ (hR _ _ _ rfl ?_); clear hR R
          refine G.region rfl (fun R hR => ?_)
          refine D.pure rfl rfl rfl rfl rfl rfl ?_
          refine D.i64 _ rfl rfl rfl rfl rfl (by omega) (by omega) rfl rfl ?_
          refine D.pure rfl rfl rfl rfl rfl rfl ?_
          refine D.done [(4, [], _), (5, [], _), (6, [], _), (7, [], _), (8, [], _), (9, [], _), (10, [], _), (11, [], _)] ⟨rfl, rfl, rfl, rfl, rfl, rfl, rfl, rfl, trivial⟩ (hR _ _ _ rfl ?_); clear hR R
          refine G.eqL (L' := [.arr v71 3 1 (i + 1) (((List.range (i + 1)).map (eaR A n)).map intN)]) (by rw [List.range_succ]; simp [encN, intN]) ?_
          refine G.again (m' := n - (i + 1)) (by omega) (by (repeat (first | exact Mem.le.refl _ | assumption | (apply Mem.le.trans; rotate_left; assumption)))) (fr' := [(4, [], _), (5, [], _), (6, [], _), (7, [], _), (8, [], _), (9, [], _), (10, [], _), (11, [], _)]) ⟨rfl, rfl, rfl, rfl, rfl, rfl, rfl, rfl, trivial⟩ ⟨i + 1, v71, by omega, rfl, rfl, rfl⟩
      · skip
        simp only [decide_eq_false_iff_not] at h50
        have hil : n = i := by omega
        subst hil
        have hmn : mx (eaR A n) n ≤ 8 := mx_le (fun i => mx_le (fun k => hT8 k i) n) n
        refine G.region rfl (fun R hR => ?_)
        refine D.pure rfl rfl rfl rfl rfl rfl ?_
        refine D.done [(4, [], _), (5, [], _), (6, [], _), (7, [], _), (8, [], _), (9, [], _), (10, [], _), (14, [], _)] ⟨rfl, rfl, rfl, rfl, rfl, rfl, rfl, rfl, trivial⟩ (hR _ _ _ rfl ?_); clear hR R
        refine G.eqL (L' := [.arr w 3 1 n (((List.range n).map (eaR A n)).map encN).flatten]) (by rw [nats_flat]) ?_
        refine G.freezeArr 0 (((List.range n).map (eaR A n)).map encN) rfl rfl (by intro r hr; obtain ⟨y, _, rfl⟩ := List.mem_map.1 hr; rfl) (by simp) (fun Cf hf hse => ?_)
        obtain ⟨Ae, ce, rfl, _⟩ := id hse
        simp only [List.length_map, List.length_range] at hse ⊢
        refine G.nilArr 3 1 ?_
        refine G.loop (fun fr C' L' μ => ∃ (i2 : Nat) (w2 : Value), (i2 ≤ n) ∧ fr = [(4, [], .slice Aa la ca), (5, [], .slice Ab lb cb), (6, [], .int .i64 0), (7, [], .slice Aw n cw), (8, [], .slice Ae n ce), (9, [], w2), (10, [], .int .i64 (mx (eaR A n) n : Nat)), (14, [], .int .i64 i2)] ∧ L' = [.arr w2 3 1 i2 (((List.range i2).map fun i0 => ((mx (eaR A n) n : Nat) : Int) - (onR A n i0 : Nat)).map intV)] ∧ μ = n - i2) (fr' := [(4, [], _), (5, [], _), (6, [], _), (7, [], _), (8, [], _), (9, [], _), (10, [], _), (14, [], _)]) ⟨rfl, rfl, rfl, rfl, rfl, rfl, rfl, rfl, trivial⟩ ⟨0, _, Nat.zero_le _, rfl, rfl, rfl⟩ (fun fr C2' L2' m hle2 hI => ?_)
        obtain ⟨i2, w2, hi2, rfl, rfl, rfl⟩ := hI
        refine G.region rfl (fun R hR => ?_)
        iterate 4 refine D.pure rfl rfl rfl rfl rfl rfl ?_
        refine D.done [(4, [], _), (5, [], _), (6, [], _), (7, [], _), (8, [], _), (9, [], _), (10, [], _), (14, [], _), (78, [], _)] ⟨rfl, rfl, rfl, rfl, rfl, rfl, rfl, rfl, rfl, trivial⟩ (hR _ _ _ rfl ?_); clear hR R
        refine G.cond rfl (fun h78 => ?_) (fun h78 => ?_)
        · skip
          simp only [decide_eq_true_eq] at h78
          have hil : i2 < n := by omega
          have hon8 : onR A n i2 ≤ 8 := mx_le (fun k => hT8 i2 k) n
          obtain ⟨vc, hvc⟩ : ∃ vc, vs[i2]? = some vc := ⟨vs[i2]'(by omega), List.getElem?_eq_getElem (by omega)⟩
          have hrc := hrow i2 vc hvc
          obtain ⟨Ac, cc2, rfl, _⟩ := id hrc
          simp only [List.length_map, List.length_range] at hrc hvc
          have hrcv : (vs.map fun v => [v])[i2]? = some [Value.slice Ac n cc2] := by rw [List.getElem?_map, hvc]; rfl
          refine G.region rfl (fun R hR => ?_)
          refine D.pure rfl rfl rfl rfl rfl rfl ?_
          refine D.done [(4, [], _), (5, [], _), (6, [], _), (7, [], _), (8, [], _), (9, [], _), (10, [], _), (14, [], _), (15, [], _)] ⟨rfl, rfl, rfl, rfl, rfl, rfl, rfl, rfl, rfl, trivial⟩ (hR _ _ _ rfl ?_); clear hR R
          refine G.region rfl (fun R hR => ?_)
          refine D.pure rfl rfl rfl rfl rfl rfl ?_
          refine D.done [(4, [], _), (5, [], _), (6, [], _), (7, [], _), (8, [], _), (9, [], _), (10, [], _), (14, [], _), (15, [], _), (16, [], _)] ⟨rfl, rfl, rfl, rfl, rfl, rfl, rfl, rfl, rfl, rfl, trivial⟩ (hR _ _ _ rfl ?_); clear hR R
          refine G.loop (fun fr C' L' μ => ∃ (k : Nat), (k ≤ n) ∧ fr = [(4, [], .slice Aa la ca), (5, [], .slice Ab lb cb), (6, [], .int .i64 0), (7, [], .slice Aw n cw), (8, [], .slice Ae n ce), (9, [], w2), (10, [], .int .i64 (mx (eaR A n) n : Nat)), (14, [], .int .i64 i2), (15, [], .int .i64 (mx (fun k => Jog.tab A 8 i2 k) k : Nat)), (16, [], .int .i64 k)] ∧ L' = [.arr w2 3 1 i2 (((List.range i2).map fun i0 => ((mx (eaR A n) n : Nat) : Int) - (onR A n i0 : Nat)).map intV)] ∧ μ = n - k) (fr' := [(4, [], _), (5, [], _), (6, [], _), (7, [], _), (8, [], _), (9, [], _), (10, [], _), (14, [], _), (15, [], _), (16, [], _)]) ⟨rfl, rfl, rfl, rfl, rfl, rfl, rfl, rfl, rfl, rfl, trivial⟩ ⟨0, Nat.zero_le _, rfl, rfl, rfl⟩ (fun fr C3' L3' m hle3 hI => ?_)
          obtain ⟨k, hk, rfl, rfl, rfl⟩ := hI
          refine G.region rfl (fun R hR => ?_)
          iterate 4 refine D.pure rfl rfl rfl rfl rfl rfl ?_
          refine D.done [(4, [], _), (5, [], _), (6, [], _), (7, [], _), (8, [], _), (9, [], _), (10, [], _), (14, [], _), (15, [], _), (16, [], _), (84, [], _)] ⟨rfl, rfl, rfl, rfl, rfl, rfl, rfl, rfl, rfl, rfl, rfl, trivial⟩ (hR _ _ _ rfl ?_); clear hR R
          refine G.cond rfl (fun h84 => ?_) (fun h84 => ?_)
          · skip
            simp only [decide_eq_true_eq] at h84
            have hkl : k < n := by omega
            have hrcell : (((List.range n).map (Jog.tab A 8 i2)).map encN)[k]? = some (encN (Jog.tab A 8 i2 k)) := by simp [hkl]
            refine G.region rfl (fun R hR => ?_)
            iterate 3 refine D.pure rfl rfl rfl rfl rfl rfl ?_
            refine D.index0 (hw.mono (by (repeat (first | exact Mem.le.refl _ | assumption | (apply Mem.le.trans; rotate_left; assumption))))) rfl rfl rfl rfl rfl rfl rfl rfl rfl rfl (by omega) hrcv (fun _ => rfl) (fun p90 hp90 => ?_)
            refine D.loadP0 hp90 rfl rfl rfl rfl rfl rfl rfl rfl ?_
            refine D.pure rfl rfl rfl rfl rfl rfl ?_
            refine D.index0 (hrc.mono (by (repeat (first | exact Mem.le.refl _ | assumption | (apply Mem.le.trans; rotate_left; assumption))))) rfl rfl rfl rfl rfl rfl rfl rfl rfl rfl (by omega) hrcell (fun _ => rfl) (fun p93 hp93 => ?_)
            refine D.loadP0 hp93 rfl rfl rfl rfl rfl rfl rfl rfl ?_
            refine D.max (((mx (fun k => Jog.tab A 8 i2 k) (k + 1) : Nat) : Int)) rfl rfl rfl rfl rfl rfl (by simp only [mx]; omega) rfl rfl ?_
            refine D.pure rfl rfl rfl rfl rfl rfl ?_
            refine D.done [(4, [], _), (5, [], _), (6, [], _), (7, [], _), (8, [], _), (9, [], _), (10, [], _), (14, [], _), (15, [], _), (16, [], _)] ⟨rfl, rfl, rfl, rfl, rfl, rfl, rfl, rfl, rfl, rfl, trivial⟩ (hR _ _ _ rfl ?_); clear hR R
            refine G.region rfl (fun R hR => ?_)
            refine D.pure rfl rfl rfl rfl rfl rfl ?_
            refine D.i64 _ rfl rfl rfl rfl rfl (by omega) (by omega) rfl rfl ?_
            refine D.pure rfl rfl rfl rfl rfl rfl ?_
            refine D.done [(4, [], _), (5, [], _), (6, [], _), (7, [], _), (8, [], _), (9, [], _), (10, [], _), (14, [], _), (15, [], _), (16, [], _)] ⟨rfl, rfl, rfl, rfl, rfl, rfl, rfl, rfl, rfl, rfl, trivial⟩ (hR _ _ _ rfl ?_); clear hR R
            refine G.again (m' := n - (k + 1)) (by omega) (by (repeat (first | exact Mem.le.refl _ | assumption | (apply Mem.le.trans; rotate_left; assumption)))) (fr' := [(4, [], _), (5, [], _), (6, [], _), (7, [], _), (8, [], _), (9, [], _), (10, [], _), (14, [], _), (15, [], _), (16, [], _)]) ⟨rfl, rfl, rfl, rfl, rfl, rfl, rfl, rfl, rfl, rfl, trivial⟩ ⟨k + 1, by omega, rfl, rfl, rfl⟩
          · skip
            simp only [decide_eq_false_iff_not] at h84
            have hkl : n = k := by omega
            subst hkl
            have hre : (((List.range n).map (eaR A n)).map encN)[i2]? = some (encN (eaR A n i2)) := by simp [hil]
            have hrk := rank_ok hac hbel (by omega) hil
            obtain ⟨wv, hwv⟩ : ∃ wv : Int, ((mx (eaR A n) n : Nat) : Int) - (onR A n i2 : Nat) = wv := ⟨_, rfl⟩
            have hwb : 0 ≤ wv ∧ wv ≤ 8 := by omega
            refine G.region rfl (fun R hR => ?_)
            iterate 3 refine D.pure rfl rfl rfl rfl rfl rfl ?_
            refine D.i64 (wv) rfl rfl rfl rfl (by rw [← hwv]; rfl) (by omega) (by omega) rfl rfl ?_
            refine D.buildSlice [encI wv] rfl rfl rfl rfl rfl rfl rfl rfl rfl rfl rfl rfl (fun _ => rfl) (fun p100 C100 hle100 hs100 => ?_)
            refine D.append (j := 0) rfl rfl rfl rfl rfl rfl rfl rfl rfl rfl rfl hs100 rfl (by simp only [List.length_singleton, maxLen]; omega) (by simp only [List.length_singleton]; omega) (fun _ => rfl) (fun v101 => ?_)
            refine D.pure rfl rfl rfl rfl rfl rfl ?_
            refine D.done [(4, [], _), (5, [], _), (6, [], _), (7, [], _), (8, [], _), (9, [], _), (10, [], _), (14, [], _)] ⟨rfl, rfl, rfl, rfl, rfl, rfl, rfl, rfl, trivial⟩ (hR _ _ _ rfl ?_); clear hR R
            refine G.eqL (L' := [.arr v101 3 1 (i2 + 1) (((List.range (i2 + 1)).map fun i0 => ((mx (eaR A n) n : Nat) : Int) - (onR A n i0 : Nat)).map intV)]) (by rw [List.range_succ]; simp [encI, hwv]) ?_
            refine G.rowForm 0 rfl (fun g0 cc hgc => ?_)
            subst hgc
            refine G.draw [0, 1, 2, 3, 4, 5, 6, 7, 8] [] rfl (by kernel_rfl) (fun R hB hR => ?_)
            iterate 2 refine D.pure rfl rfl rfl rfl rfl rfl ?_
            refine D.index0 (hse.mono (by (repeat (first | exact Mem.le.refl _ | assumption | (apply Mem.le.trans; rotate_left; assumption))))) rfl rfl rfl rfl rfl rfl rfl rfl rfl rfl (by omega) hre (fun _ => rfl) (fun p104 hp104 => ?_)
            refine D.loadP0 hp104 rfl rfl rfl rfl rfl rfl rfl rfl ?_
            iterate 2 refine D.pure rfl rfl rfl rfl rfl rfl ?_
            refine D.indexS (i2) rfl rfl rfl rfl rfl rfl rfl rfl rfl rfl (fun _ => ⟨by omega, by omega, (by simp)⟩) rfl rfl ?_
            refine D.loadArr (.head _) rfl rfl rfl rfl rfl rfl (fun _ => (by rw [ints_at (by simp)]; rfl)) rfl rfl ?_
            refine D.pure rfl rfl rfl rfl rfl rfl ?_
            refine D.done [(4, [], _), (5, [], _), (6, [], _), (7, [], _), (8, [], _), (9, [], _), (10, [], _), (14, [], _), (110, [], _)] ⟨rfl, rfl, rfl, rfl, rfl, rfl, rfl, rfl, rfl, trivial⟩ (hR _ _ _ rfl ?_); clear hR hB R
            refine G.cond rfl (fun h110 => ?_) (fun h110 => ?_)
            · skip
              exfalso
              have h1 : dAt ((List.range (i2 + 1)).map fun i0 => ((mx (eaR A n) n : Nat) : Int) - (onR A n i0 : Nat)) i2 = wv := by rw [← hwv]; exact dAt_get (by simp)
              rw [h1] at h110
              simp only [decide_eq_true_eq] at h110
              omega
            · skip
              refine G.region rfl (fun R hR => ?_)
              refine D.pure rfl rfl rfl rfl rfl rfl ?_
              refine D.i64 _ rfl rfl rfl rfl rfl (by omega) (by omega) rfl rfl ?_
              refine D.pure rfl rfl rfl rfl rfl rfl ?_
              refine D.done [(4, [], _), (5, [], _), (6, [], _), (7, [], _), (8, [], _), (9, [], _), (10, [], _), (14, [], _)] ⟨rfl, rfl, rfl, rfl, rfl, rfl, rfl, rfl, trivial⟩ (hR _ _ _ rfl ?_); clear hR R
              refine G.again (m' := n - (i2 + 1)) (by omega) (by (repeat (first | exact Mem.le.refl _ | assumption | (apply Mem.le.trans; rotate_left; assumption)))) (fr' := [(4, [], _), (5, [], _), (6, [], _), (7, [], _), (8, [], _), (9, [], _), (10, [], _), (14, [], _)]) ⟨rfl, rfl, rfl, rfl, rfl, rfl, rfl, rfl, trivial⟩ ⟨i2 + 1, _, by omega, rfl, rfl, rfl⟩
        · skip
          simp only [decide_eq_false_iff_not] at h78
          have hil : n = i2 := by omega
          subst hil
          refine G.eqL (L' := [.arr w2 3 1 n (((List.range n).map fun i0 => ((mx (eaR A n) n : Nat) : Int) - (onR A n i0 : Nat)).map encI).flatten]) (by rw [ints_flat]) ?_
          refine G.freezeArr 0 (((List.range n).map fun i0 => ((mx (eaR A n) n : Nat) : Int) - (onR A n i0 : Nat)).map encI) rfl rfl (by intro r hr; obtain ⟨y, _, rfl⟩ := List.mem_map.1 hr; rfl) (by simp) (fun Cg hg hsl => ?_)
          refine G.region rfl (fun R hR => ?_)
          iterate 5 refine D.pure rfl rfl rfl rfl rfl rfl ?_
          refine D.gives (fun _ => (sameInts_t _ _ _ ((List.range n).map (eaR A n)) (hsa.mono (by (repeat (first | exact Mem.le.refl _ | assumption | (apply Mem.le.trans; rotate_left; assumption))))) (hse.mono (by (repeat (first | exact Mem.le.refl _ | assumption | (apply Mem.le.trans; rotate_left; assumption))))) (by simp; omega))) rfl rfl rfl rfl rfl rfl rfl rfl rfl ?_
          refine D.pickAnd rfl rfl rfl rfl rfl rfl rfl rfl ?_
          iterate 3 refine D.pure rfl rfl rfl rfl rfl rfl ?_
          refine D.gives (fun _ => (sameInts_tI _ _ _ ((List.range n).map fun i0 => ((mx (eaR A n) n : Nat) : Int) - (onR A n i0 : Nat)) (hsb.mono (by (repeat (first | exact Mem.le.refl _ | assumption | (apply Mem.le.trans; rotate_left; assumption))))) (hsl.mono (by (repeat (first | exact Mem.le.refl _ | assumption | (apply Mem.le.trans; rotate_left; assumption))))) (by simp; omega))) rfl rfl rfl rfl rfl rfl rfl rfl rfl ?_
          refine D.pickAnd rfl rfl rfl rfl rfl rfl rfl rfl ?_
          refine D.pure rfl rfl rfl rfl rfl rfl ?_
          refine D.done [(2, [], _)] ⟨rfl, trivial⟩ (hR _ _ _ rfl ?_); clear hR R
          refine G.retN (G.dropAll (G.fin1 rfl rfl ?_))
          exact ⟨rfl, rfl⟩
end Go.Proofs.Ytddjibfmnkcalaa
namespace Go.Proofs.Ytddjibfmnkcalaa
open Go Go.Jog
set_option maxRecDepth 100000

theorem chain_next : ∀ {p : List Arc3} {u v i : Nat} {x y : Arc3}, Chain u p v → p[i]? = some x → p[i + 1]? = some y → x.up = y.lo
  | [], _, _, _, _, _, _, h, _ => by simp at h
  | a :: p, u, v, 0, x, y, hc, h1, h2 => by
    simp only [List.getElem?_cons_zero, Option.some.injEq] at h1
    subst h1
    cases p with
    | nil => simp at h2
    | cons b p =>
      simp at h2
      subst h2
      exact hc.2.1.symm
  | a :: p, u, v, i + 1, x, y, hc, h1, h2 => chain_next (i := i) hc.2 (by simpa using h1) (by simpa using h2)
theorem chain_last : ∀ {p : List Arc3} {u v : Nat} {x : Arc3}, Chain u p v → p[p.length - 1]? = some x → 0 < p.length → x.up = v
  | [a], u, v, x, hc, h1, _ => by simp at h1; subst h1; exact hc.2
  | a :: b :: p, u, v, x, hc, h1, _ => chain_last (p := b :: p) hc.2 (by simpa using h1) (by simp)
theorem cyc_next {A q : List Arc3} (h : Cyc A q) {i : Nat} {x y : Arc3} (hx : q[i]? = some x) (hy : q[(i + 1) % q.length]? = some y) : x.up = y.lo := by
  obtain ⟨a, q', rfl, hi, hc, _⟩ := h
  have hlt := (List.getElem?_eq_some_iff.1 hx).1
  rcases Nat.lt_or_ge (i + 1) (a :: q').length with h1 | h1
  · rw [Nat.mod_eq_of_lt h1] at hy
    exact chain_next hc hx hy
  · have e : i + 1 = (a :: q').length := by omega
    rw [e, Nat.mod_self] at hy
    simp only [List.getElem?_cons_zero, Option.some.injEq] at hy
    subst hy
    exact chain_last hc (by rw [show (a :: q').length - 1 = i by omega]; exact hx) (by simp)
theorem cyc_two {A q : List Arc3} (h : Cyc A q) (hs : ∀ a ∈ A, a.up ≠ a.lo) : 2 ≤ q.length := by
  obtain ⟨a, q', rfl, hi, hc, _⟩ := h
  cases q' with
  | nil => exact absurd hc.2 (hs a (hi a (by simp)))
  | cons b q' => simp
/-- The relations of a list of arcs. -/
def relsOf (l : List Rel) (q : List Arc3) : List Rel := q.map fun a => l.getD a.i ⟨0, [], []⟩
theorem relsOf_at {l : List Rel} {q : List Arc3} {i : Nat} {a : Arc3} {x : Rel} (h : q[i]? = some a) (hx : l[a.i]? = some x) : (relsOf l q)[i]? = some x := by
  rw [relsOf, List.getElem?_map, h]
  simp [List.getD_eq_getElem?_getD, hx]
theorem erase_step {α : Type} {l : List α} {k i : Nat} {x : α} (h : l[k]? = some x) : (l.take (k + 1)).eraseIdx i = (l.take k).eraseIdx i ++ (if k = i then [] else [x]) := by
  have hlt := (List.getElem?_eq_some_iff.1 h).1
  rw [List.take_add_one, h]
  simp only [Option.toList_some]
  rw [List.eraseIdx_append]
  have hl : (l.take k).length = k := by rw [List.length_take]; omega
  rw [hl]
  split
  · rename_i h1
    rw [if_neg (by omega)]
  · rename_i h1
    by_cases e : k = i
    · subst e
      rw [Nat.sub_self, if_pos rfl, List.append_nil, List.eraseIdx_of_length_le (l := l.take k) (by omega)]
      simp
    · rw [if_neg e, List.eraseIdx_of_length_le (l := l.take k) (by omega), List.eraseIdx_of_length_le (by simp; omega)]
theorem erase_map {α β : Type} {f : α → β} : ∀ {l : List α} {i : Nat}, (l.map f).eraseIdx i = (l.eraseIdx i).map f
  | [], _ => rfl
  | _ :: _, 0 => rfl
  | _ :: l, i + 1 => by simp only [List.map_cons, List.eraseIdx_cons_succ]; rw [erase_map]
theorem turn_free {l : List Rel} {q : List Arc3} {i : Nat} (h : LeastCyc (arcsOf l) q) (hi : i < q.length) (hl : l.length ≤ 100000) : ¬ Back (arcsOf ((relsOf l q).eraseIdx i)) := by
  intro hb
  have hin : In (arcsOf l) q := by obtain ⟨a, q', rfl, hi, _⟩ := h.1; exact hi
  have hB : Back (q.eraseIdx i) := by
    obtain ⟨j, w, h1, h2⟩ := hb
    refine ⟨j, _, h1, walk_map (φ := fun u => posS (unitsL l) (nameAt (unitsL ((relsOf l q).eraseIdx i)) u)) (fun a ha => ?_) h2⟩
    obtain ⟨x, hx, hk, h3, h4, h5, h6⟩ := arc_at ha
    rw [relsOf, erase_map] at hx
    rw [List.getElem?_map] at hx
    cases hb2 : (q.eraseIdx i)[a.i]? with
    | none => rw [hb2] at hx; cases hx
    | some b =>
      rw [hb2] at hx
      have hbm := List.mem_of_getElem? hb2
      have hbA := hin b (List.mem_of_mem_eraseIdx hbm)
      obtain ⟨y, h7, _, h8, h9, _, _⟩ := arc_at hbA
      have hxy : x = y := by
        simp only [Option.map_some, Option.some.injEq] at hx
        rw [← hx, List.getD_eq_getElem?_getD, h7]; rfl
      subst hxy
      refine ⟨b, hbm, ?_, ?_⟩
      · rw [h8, h3, nameAt_pos h5]
      · rw [h9, h4, nameAt_pos h6]
  have hix := (gok_of (l := l) hl).ix
  obtain ⟨k, w, h1, h2, h3⟩ := back_small (A := q.eraseIdx i) (fun a ha b hb e => hix.inj a (hin a (List.mem_of_mem_eraseIdx ha)) b (hin b (List.mem_of_mem_eraseIdx hb)) e) hB
  have h4 := h.2.1 k w h1 (h3.mono (fun a ha => hin a (List.mem_of_mem_eraseIdx ha)))
  rw [List.length_eraseIdx] at h2
  split at h2 <;> omega
theorem ord_made {C : Mem} {l : List Rel} {r : Value} (hM : Made l) (h : OrdRes C l r) : (Back (arcsOf l) ∧ r = .tuple #[nilV, .int .i64 27]) ∨ (¬ Back (arcsOf l) ∧ ∃ o v, TopoLeast (arcsOf l) (unitsL l).length o ∧ r = .tuple #[v, .int .i64 0] ∧ Sl C 1 v ((namesOfO l o).map encS)) := by
  rcases h with ⟨h, _⟩ | ⟨_, h, h2⟩ | ⟨_, o, v, h1, h2, h3⟩
  · exact absurd hM.err h
  · exact .inl ⟨h, h2⟩
  · refine .inr ⟨fun ⟨k, w, h4, h5⟩ => ?_, o, v, h1, h2, h3⟩
    have := (gok_of (l := l) (by have := hM.1; omega)).below
    exact h1.1.acyc this k w h4 h5

set_option maxHeartbeats 4000000 in
theorem sturns_fn (C : Mem) (v : Value) (ss : List Seen) (hv : Sl C 3 v (ss.map Seen.enc)) : Pur cx.P 4 [v] C fun u _ => u = .bool true := by
  obtain ⟨A0, c0, rfl, _⟩ := id hv
  simp only [List.length_map] at hv ⊢
  refine Fn.intro (by kernel_rfl) Try.func4 rfl 140 rfl rfl (fun w0 => ?_)
  refine G.region rfl (fun R hR => ?_)
  refine D.pure rfl rfl rfl rfl rfl rfl ?_
  refine D.done [(0, [], _)] ⟨rfl, trivial⟩ (hR _ _ _ rfl ?_); clear hR R
  refine G.region rfl (fun R hR => ?_)
  refine D.callP (known_fn _) rfl rfl rfl rfl rfl rfl rfl (fun _ => rfl) (fun v16 C16 hle16 hq16 => ?_)
  obtain rfl := hq16
  iterate 3 refine D.pure rfl rfl rfl rfl rfl rfl ?_
  refine D.gives (fun _ => (fits_fn _ _ _ _)) rfl rfl rfl rfl rfl rfl rfl rfl rfl ?_
  refine D.pure rfl rfl rfl rfl rfl rfl ?_
  refine D.pickOr rfl rfl rfl rfl rfl rfl rfl rfl ?_
  refine D.done [(0, [], _), (22, [], _)] ⟨rfl, rfl, trivial⟩ (hR _ _ _ rfl ?_); clear hR R
  refine G.cond rfl (fun h22 => ?_) (fun h22 => ?_)
  · skip
    refine G.region rfl (fun R hR => ?_)
    refine D.callP (known_fn _) rfl rfl rfl rfl rfl rfl rfl (fun _ => rfl) (fun v23 C23 hle23 hq23 => ?_)
    obtain rfl := hq23
    refine D.pure rfl rfl rfl rfl rfl rfl ?_
    refine D.done [(2, [], _)] ⟨rfl, trivial⟩ (hR _ _ _ rfl ?_); clear hR R
    refine G.retN (G.dropAll (G.fin1 rfl rfl ?_))
    exact ⟨rfl, rfl⟩
  · skip
    refine G.region rfl (fun R hR => ?_)
    refine D.pure rfl rfl rfl rfl rfl rfl ?_
    refine D.callP (make_fn _ _ ss (hv.mono (by (repeat (first | exact Mem.le.refl _ | assumption | (apply Mem.le.trans; rotate_left; assumption)))))) rfl rfl rfl rfl rfl rfl rfl (fun _ => rfl) (fun v25 C25 hle25 hq25 => ?_)
    obtain ⟨l, hl⟩ : ∃ l, makeL ss = l := ⟨_, rfl⟩
    have hM : Made l := by rw [← hl]; exact made_makeL ss
    rw [hl] at hq25
    obtain ⟨Al, cl, rfl, hlc, _⟩ := id hq25
    simp only [List.length_map] at hq25 hlc
    have hl8 := hM.1
    simp only [List.length_map]
    refine D.pure rfl rfl rfl rfl rfl rfl ?_
    refine D.done [(3, [], _)] ⟨rfl, trivial⟩ (hR _ _ _ rfl ?_); clear hR R
    refine G.region rfl (fun R hR => ?_)
    refine D.pure rfl rfl rfl rfl rfl rfl ?_
    refine D.callP (cycle_fn _ _ l (hq25.mono (by (repeat (first | exact Mem.le.refl _ | assumption | (apply Mem.le.trans; rotate_left; assumption))))) (by omega) hM.short) rfl rfl rfl rfl rfl rfl rfl (fun _ => rfl) (fun v28 C28 hle28 hq28 => ?_)
    obtain ⟨Ac, cc, fc, r0, rfl, hr0, hc0⟩ := cyc_made hM hq28
    iterate 7 refine D.pure rfl rfl rfl rfl rfl rfl ?_
    refine D.done [(3, [], _), (4, [], _), (5, [], _), (6, [], _)] ⟨rfl, rfl, rfl, rfl, trivial⟩ (hR _ _ _ rfl ?_); clear hR R
    refine G.region rfl (fun R hR => ?_)
    refine D.pure rfl rfl rfl rfl rfl rfl ?_
    refine D.callP (order_fn _ _ l (hq25.mono (by (repeat (first | exact Mem.le.refl _ | assumption | (apply Mem.le.trans; rotate_left; assumption))))) (by omega) hM.short) rfl rfl rfl rfl rfl rfl rfl (fun _ => rfl) (fun v34 C34 hle34 hq34 => ?_)
    have hord := ord_made hM hq34
    obtain ⟨vo, eo, hvo⟩ : ∃ vo, ∃ eo : Int, v34 = .tuple #[vo, .int .i64 eo] := by
      rcases hord with ⟨_, h⟩ | ⟨_, o, v, _, h, _⟩
      · exact ⟨_, _, h⟩
      · exact ⟨_, _, h⟩
    subst hvo
    iterate 5 refine D.pure rfl rfl rfl rfl rfl rfl ?_
    refine D.done [(3, [], _), (4, [], _), (5, [], _), (6, [], _), (8, [], _)] ⟨rfl, rfl, rfl, rfl, rfl, trivial⟩ (hR _ _ _ rfl ?_); clear hR R
    refine G.region rfl (fun R hR => ?_)
    iterate 5 refine D.pure rfl rfl rfl rfl rfl rfl ?_
    refine D.pickOr rfl rfl rfl rfl rfl rfl rfl rfl ?_
    refine D.done [(3, [], _), (4, [], _), (6, [], _), (8, [], _), (42, [], _)] ⟨rfl, rfl, rfl, rfl, rfl, trivial⟩ (hR _ _ _ rfl ?_); clear hR R
    refine G.cond rfl (fun h42 => ?_) (fun h42 => ?_)
    · skip
      have h42' : fc = false := by simpa using h42
      have hnb : ¬ Back (arcsOf l) := by
        rcases hc0 with ⟨_, _, h⟩ | ⟨h, _⟩
        · exact h
        · rw [h] at h42'; cases h42'
      obtain rfl : eo = 0 := by
        rcases hord with ⟨h, _⟩ | ⟨_, o, v, _, h, _⟩
        · exact absurd h hnb
        · cases h; rfl
      refine G.region rfl (fun R hR => ?_)
      iterate 5 refine D.pure rfl rfl rfl rfl rfl rfl ?_
      refine D.pickAnd rfl rfl rfl rfl rfl rfl rfl rfl ?_
      refine D.pure rfl rfl rfl rfl rfl rfl ?_
      refine D.done [(2, [], _)] ⟨rfl, trivial⟩ (hR _ _ _ rfl ?_); clear hR R
      refine G.retN (G.dropAll (G.fin1 rfl rfl ?_))
      exact ⟨rfl, rfl⟩
    · skip
      have h42' : fc = true := by simpa using h42
      obtain ⟨hbk, q, hq, rfl⟩ : Back (arcsOf l) ∧ ∃ q, LeastCyc (arcsOf l) q ∧ r0 = nums q := by
        rcases hc0 with ⟨h, _⟩ | ⟨_, h1, h2⟩
        · rw [h] at h42'; cases h42'
        · exact ⟨h1, h2⟩
      obtain rfl : eo = 27 := by
        rcases hord with ⟨_, h⟩ | ⟨h, _⟩
        · cases h; rfl
        · exact absurd hbk h
      have hnl : (nums q).length = q.length := by simp [nums]
      rw [hnl] at hr0 ⊢
      have hq2 := cyc_two hq.1 hM.self
      have hqi : In (arcsOf l) q := by obtain ⟨a, q', rfl, hi, _⟩ := hq.1; exact hi
      have hq8 : q.length ≤ 8 := by
        obtain ⟨k, w, h5, h6, h7⟩ := back_small (fun a ha b hb => (gok_of (l := l) (by omega)).ix.inj a ha b hb) hbk
        have h8 := hq.2.1 k w h5 h7
        have h9 := hM.arcs8
        omega
      have hel : ∀ (i : Nat) (a : Arc3), q[i]? = some a → ((nums q).map encN)[i]? = some (encN a.i) := fun i a h => by rw [List.getElem?_map, nums, List.getElem?_map, h]; rfl
      refine G.region rfl (fun R hR => ?_)
      iterate 6 refine D.pure rfl rfl rfl rfl rfl rfl ?_
      refine D.pickOr rfl rfl rfl rfl rfl rfl rfl rfl ?_
      refine D.done [(3, [], _), (4, [], _), (55, [], _)] ⟨rfl, rfl, rfl, trivial⟩ (hR _ _ _ rfl ?_); clear hR R
      refine G.cond rfl (fun h55 => ?_) (fun h55 => ?_)
      · skip
        exfalso
        simp at h55
        omega
      · skip
        refine G.region rfl (fun R hR => ?_)
        refine D.pure rfl rfl rfl rfl rfl rfl ?_
        refine D.done [(3, [], _), (4, [], _), (9, [], _)] ⟨rfl, rfl, rfl, trivial⟩ (hR _ _ _ rfl ?_); clear hR R
        refine G.loop (fun fr C' L' μ => ∃ (i : Nat), (i ≤ q.length) ∧ fr = [(3, [], .slice Al l.length cl), (4, [], .slice Ac q.length cc), (9, [], .int .i64 i)] ∧ L' = [] ∧ μ = q.length - i) (fr' := [(3, [], _), (4, [], _), (9, [], _)]) ⟨rfl, rfl, rfl, trivial⟩ ⟨0, Nat.zero_le _, rfl, rfl, rfl⟩ (fun fr C0' L0' m hle0 hI => ?_)
        obtain ⟨i, hi, rfl, rfl, rfl⟩ := hI
        refine G.region rfl (fun R hR => ?_)
        iterate 4 refine D.pure rfl rfl rfl rfl rfl rfl ?_
        refine D.done [(3, [], _), (4, [], _), (9, [], _), (59, [], _)] ⟨rfl, rfl, rfl, rfl, trivial⟩ (hR _ _ _ rfl ?_); clear hR R
        refine G.cond rfl (fun h59 => ?_) (fun h59 => ?_)
        · skip
          simp only [decide_eq_true_eq] at h59
          have hil : i < q.length := by omega
          obtain ⟨a, ha⟩ : ∃ a, q[i]? = some a := ⟨q[i], List.getElem?_eq_getElem hil⟩
          obtain ⟨nx, hnx⟩ : ∃ nx, (i + 1) % q.length = nx := ⟨_, rfl⟩
          have hnxl : nx < q.length := by rw [← hnx]; exact Nat.mod_lt _ (by omega)
          obtain ⟨b, hb⟩ : ∃ b, q[nx]? = some b := ⟨q[nx], List.getElem?_eq_getElem hnxl⟩
          have hab := cyc_next hq.1 ha (by rw [hnx]; exact hb)
          obtain ⟨xa, hxa, _, _, hxau, _, hxau2⟩ := arc_at (hqi a (List.mem_of_getElem? ha))
          obtain ⟨xb, hxb, _, hxbl, _, hxbl2, _⟩ := arc_at (hqi b (List.mem_of_getElem? hb))
          have hnames : xa.upper = xb.lower := posS_inj hxau2 hxbl2 (by rw [← hxau, ← hxbl]; exact hab)
          have hral : a.i < l.length := (List.getElem?_eq_some_iff.1 hxa).1
          have hrbl : b.i < l.length := (List.getElem?_eq_some_iff.1 hxb).1
          have hra : (l.map Rel.enc)[a.i]? = some xa.enc := by rw [List.getElem?_map, hxa]; rfl
          have hrb : (l.map Rel.enc)[b.i]? = some xb.enc := by rw [List.getElem?_map, hxb]; rfl
          have hai := hel i a ha
          have hbi := hel nx b hb
          have hnx2 : ((i : Int) + 1) % (q.length : Int) = (nx : Int) := by rw [← hnx]; rfl
          refine G.region rfl (fun R hR => ?_)
          iterate 2 refine D.pure rfl rfl rfl rfl rfl rfl ?_
          refine D.i64 _ rfl rfl rfl rfl rfl (by omega) (by omega) rfl rfl ?_
          iterate 2 refine D.pure rfl rfl rfl rfl rfl rfl ?_
          refine D.rem rfl rfl rfl rfl rfl rfl (by omega) (by omega) rfl rfl ?_
          rw [hnx2]
          refine D.index0 (hr0.mono (by (repeat (first | exact Mem.le.refl _ | assumption | (apply Mem.le.trans; rotate_left; assumption))))) rfl rfl rfl rfl rfl rfl rfl rfl rfl rfl (by omega) hbi (fun _ => rfl) (fun p68 hp68 => ?_)
          refine D.loadP0 hp68 rfl rfl rfl rfl rfl rfl rfl rfl ?_
          refine D.pure rfl rfl rfl rfl rfl rfl ?_
          refine D.done [(3, [], _), (4, [], _), (9, [], _), (10, [], _)] ⟨rfl, rfl, rfl, rfl, trivial⟩ (hR _ _ _ rfl ?_); clear hR R
          refine G.draw [0, 1, 2, 3, 4, 5, 6, 7, 8, 9, 10, 11, 12, 13, 14, 15, 16, 17, 18, 19, 20, 21, 22, 23, 24, 25, 26, 27, 28, 29, 30, 31, 32, 33, 34, 35, 36, 37, 38, 39] [] rfl (by kernel_rfl) (fun R hB hR => ?_)
          iterate 2 refine D.pure rfl rfl rfl rfl rfl rfl ?_
          refine D.index0 (hr0.mono (by (repeat (first | exact Mem.le.refl _ | assumption | (apply Mem.le.trans; rotate_left; assumption))))) rfl rfl rfl rfl rfl rfl rfl rfl rfl rfl (by omega) hai (fun _ => rfl) (fun p72 hp72 => ?_)
          refine D.loadP0 hp72 rfl rfl rfl rfl rfl rfl rfl rfl ?_
          iterate 4 refine D.pure rfl rfl rfl rfl rfl rfl ?_
          refine D.index rfl rfl rfl rfl rfl rfl rfl rfl rfl rfl (fun hg => ⟨(hr0.mono (by (repeat (first | exact Mem.le.refl _ | assumption | (apply Mem.le.trans; rotate_left; assumption))))), by omega, hai⟩) (fun _ => rfl) rfl (fun p78 hp78 => ?_)
          refine D.loadP rfl rfl rfl rfl rfl rfl hp78 rfl rfl rfl ?_
          iterate 3 refine D.pure rfl rfl rfl rfl rfl rfl ?_
          refine D.pickOr rfl rfl rfl rfl rfl rfl rfl rfl ?_
          iterate 3 refine D.pure rfl rfl rfl rfl rfl rfl ?_
          refine D.pickOr rfl rfl rfl rfl rfl rfl rfl rfl ?_
          iterate 5 refine D.pure rfl rfl rfl rfl rfl rfl ?_
          refine D.pickOr rfl rfl rfl rfl rfl rfl rfl rfl ?_
          iterate 4 refine D.pure rfl rfl rfl rfl rfl rfl ?_
          refine D.index rfl rfl rfl rfl rfl rfl rfl rfl rfl rfl (fun hg => ⟨(hr0.mono (by (repeat (first | exact Mem.le.refl _ | assumption | (apply Mem.le.trans; rotate_left; assumption))))), by omega, hai⟩) (fun _ => rfl) rfl (fun p98 hp98 => ?_)
          refine D.loadP rfl rfl rfl rfl rfl rfl hp98 rfl rfl rfl ?_
          refine D.index rfl rfl rfl rfl rfl rfl rfl rfl rfl rfl (fun hg => ⟨(hq25.mono (by (repeat (first | exact Mem.le.refl _ | assumption | (apply Mem.le.trans; rotate_left; assumption))))), by omega, hra⟩) (fun _ => rfl) rfl (fun p100 hp100 => ?_)
          refine D.fieldP rfl rfl rfl rfl rfl rfl rfl rfl rfl rfl hp100 (fun _ => rfl) rfl (fun p101 hp101 => ?_)
          refine D.loadP rfl rfl rfl rfl rfl rfl hp101 rfl rfl rfl ?_
          iterate 2 refine D.pure rfl rfl rfl rfl rfl rfl ?_
          refine D.index rfl rfl rfl rfl rfl rfl rfl rfl rfl rfl (fun hg => ⟨(hq25.mono (by (repeat (first | exact Mem.le.refl _ | assumption | (apply Mem.le.trans; rotate_left; assumption))))), by omega, hrb⟩) (fun _ => rfl) rfl (fun p105 hp105 => ?_)
          refine D.fieldP rfl rfl rfl rfl rfl rfl rfl rfl rfl rfl hp105 (fun _ => rfl) rfl (fun p106 hp106 => ?_)
          refine D.loadP rfl rfl rfl rfl rfl rfl hp106 rfl rfl rfl ?_
          refine D.pure rfl rfl rfl rfl rfl rfl ?_
          refine D.pickOr rfl rfl rfl rfl rfl rfl rfl rfl ?_
          refine D.done [(3, [], _), (4, [], _), (9, [], _), (109, [], _)] ⟨rfl, rfl, rfl, rfl, trivial⟩ (hR _ _ _ rfl ?_); clear hR hB R
          refine G.cond rfl (fun h109 => ?_) (fun h109 => ?_)
          · skip
            exfalso
            rw [hnames] at h109
            simp at h109
            omega
          · skip
            refine G.region rfl (fun R hR => ?_)
            refine D.pure rfl rfl rfl rfl rfl rfl ?_
            refine D.done [(3, [], _), (4, [], _), (9, [], _), (11, [], _)] ⟨rfl, rfl, rfl, rfl, trivial⟩ (hR _ _ _ rfl ?_); clear hR R
            refine G.region rfl (fun R hR => ?_)
            refine D.pure rfl rfl rfl rfl rfl rfl ?_
            refine D.done [(3, [], _), (4, [], _), (9, [], _), (11, [], _), (12, [], _)] ⟨rfl, rfl, rfl, rfl, rfl, trivial⟩ (hR _ _ _ rfl ?_); clear hR R
            refine G.nilArr 41 3 ?_
            have hrl : ∀ (k : Nat) (a : Arc3), q[k]? = some a → ∃ x, l[a.i]? = some x ∧ (relsOf l q)[k]? = some x := fun k a h => by
              obtain ⟨x, h1, _⟩ := arc_at (hqi a (List.mem_of_getElem? h))
              exact ⟨x, h1, relsOf_at h h1⟩
            have hrll : (relsOf l q).length = q.length := by simp [relsOf]
            refine G.loop (fun fr C' L' μ => ∃ (k : Nat) (w : Value), (k ≤ q.length) ∧ fr = [(3, [], .slice Al l.length cl), (4, [], .slice Ac q.length cc), (9, [], .int .i64 i), (11, [], w), (12, [], .int .i64 k)] ∧ L' = [.arr w 41 3 (((relsOf l q).take k).eraseIdx i).length ((((relsOf l q).take k).eraseIdx i).map Rel.enc).flatten] ∧ μ = q.length - k) (fr' := [(3, [], _), (4, [], _), (9, [], _), (11, [], _), (12, [], _)]) ⟨rfl, rfl, rfl, rfl, rfl, trivial⟩ ⟨0, _, Nat.zero_le _, rfl, rfl, rfl⟩ (fun fr C1' L1' m hle1 hI => ?_)
            obtain ⟨k, w, hk, rfl, rfl, rfl⟩ := hI
            refine G.region rfl (fun R hR => ?_)
            iterate 4 refine D.pure rfl rfl rfl rfl rfl rfl ?_
            refine D.done [(3, [], _), (4, [], _), (9, [], _), (11, [], _), (12, [], _), (113, [], _)] ⟨rfl, rfl, rfl, rfl, rfl, rfl, trivial⟩ (hR _ _ _ rfl ?_); clear hR R
            refine G.cond rfl (fun h113 => ?_) (fun h113 => ?_)
            · skip
              simp only [decide_eq_true_eq] at h113
              have hkl : k < q.length := by omega
              obtain ⟨ak, hak⟩ : ∃ ak, q[k]? = some ak := ⟨q[k], List.getElem?_eq_getElem hkl⟩
              obtain ⟨xk, hxk, hrk⟩ := hrl k ak hak
              have hakl : ak.i < l.length := (List.getElem?_eq_some_iff.1 hxk).1
              have hrxk : (l.map Rel.enc)[ak.i]? = some xk.enc := by rw [List.getElem?_map, hxk]; rfl
              have haki := hel k ak hak
              have hst := erase_step (i := i) hrk
              have hlen8 : (((relsOf l q).take k).eraseIdx i).length ≤ 8 := by
                have : (((relsOf l q).take k).eraseIdx i).length ≤ ((relsOf l q).take k).length := (List.eraseIdx_sublist _ _).length_le
                rw [List.length_take] at this
                omega
              refine G.region rfl (fun R hR => ?_)
              iterate 3 refine D.pure rfl rfl rfl rfl rfl rfl ?_
              refine D.done [(3, [], _), (4, [], _), (9, [], _), (11, [], _), (12, [], _), (118, [], _)] ⟨rfl, rfl, rfl, rfl, rfl, rfl, trivial⟩ (hR _ _ _ rfl ?_); clear hR R
              refine G.cond rfl (fun h118 => ?_) (fun h118 => ?_)
              · skip
                have h118' : k ≠ i := by
                  intro e; subst e; simp at h118
                refine G.region rfl (fun R hR => ?_)
                iterate 4 refine D.pure rfl rfl rfl rfl rfl rfl ?_
                refine D.index0 (hr0.mono (by (repeat (first | exact Mem.le.refl _ | assumption | (apply Mem.le.trans; rotate_left; assumption))))) rfl rfl rfl rfl rfl rfl rfl rfl rfl rfl (by omega) haki (fun _ => rfl) (fun p123 hp123 => ?_)
                refine D.loadP0 hp123 rfl rfl rfl rfl rfl rfl rfl rfl ?_
                refine D.index0 (hq25.mono (by (repeat (first | exact Mem.le.refl _ | assumption | (apply Mem.le.trans; rotate_left; assumption))))) rfl rfl rfl rfl rfl rfl rfl rfl rfl rfl (by omega) hrxk (fun _ => rfl) (fun p125 hp125 => ?_)
                refine D.loadP0 hp125 rfl rfl rfl rfl rfl rfl rfl rfl ?_
                refine D.buildSlice [xk.enc] rfl rfl rfl rfl rfl rfl rfl rfl rfl rfl rfl rfl (fun _ => rfl) (fun p127 C127 hle127 hs127 => ?_)
                refine D.append (j := 0) rfl rfl rfl rfl rfl rfl rfl rfl rfl rfl rfl hs127 rfl (by simp only [List.length_singleton, maxLen]; omega) (by simp only [List.length_singleton]; omega) (fun _ => rfl) (fun v128 => ?_)
                refine D.pure rfl rfl rfl rfl rfl rfl ?_
                refine D.done [(3, [], _), (4, [], _), (9, [], _), (11, [], _), (12, [], _)] ⟨rfl, rfl, rfl, rfl, rfl, trivial⟩ (hR _ _ _ rfl ?_); clear hR R
                refine G.region rfl (fun R hR => ?_)
                refine D.pure rfl rfl rfl rfl rfl rfl ?_
                refine D.i64 _ rfl rfl rfl rfl rfl (by omega) (by omega) rfl rfl ?_
                refine D.pure rfl rfl rfl rfl rfl rfl ?_
                refine D.done [(3, [], _), (4, [], _), (9, [], _), (11, [], _), (12, [], _)] ⟨rfl, rfl, rfl, rfl, rfl, trivial⟩ (hR _ _ _ rfl ?_); clear hR R
                refine G.eqL (L' := [.arr v128 41 3 (((relsOf l q).take (k + 1)).eraseIdx i).length ((((relsOf l q).take (k + 1)).eraseIdx i).map Rel.enc).flatten]) (by rw [hst, if_neg h118']; simp) ?_
                refine G.again (m' := q.length - (k + 1)) (by omega) (by (repeat (first | exact Mem.le.refl _ | assumption | (apply Mem.le.trans; rotate_left; assumption)))) (fr' := [(3, [], _), (4, [], _), (9, [], _), (11, [], _), (12, [], _)]) ⟨rfl, rfl, rfl, rfl, rfl, trivial⟩ ⟨k + 1, v128, by omega, rfl, rfl, rfl⟩
              · skip
                have h118' : k = i := by
                  have : ((k : Int) != i) = false := by simpa using h118
                  have h2 : (k : Int) = i := by simpa using this
                  omega
                refine G.region rfl (fun R hR => ?_)
                refine D.pure rfl rfl rfl rfl rfl rfl ?_
                refine D.i64 _ rfl rfl rfl rfl rfl (by omega) (by omega) rfl rfl ?_
                refine D.pure rfl rfl rfl rfl rfl rfl ?_
                refine D.done [(3, [], _), (4, [], _), (9, [], _), (11, [], _), (12, [], _)] ⟨rfl, rfl, rfl, rfl, rfl, trivial⟩ (hR _ _ _ rfl ?_); clear hR R
                refine G.eqL (L' := [.arr w 41 3 (((relsOf l q).take (k + 1)).eraseIdx i).length ((((relsOf l q).take (k + 1)).eraseIdx i).map Rel.enc).flatten]) (by rw [hst, if_pos h118', List.append_nil]) ?_
                refine G.again (m' := q.length - (k + 1)) (by omega) (by (repeat (first | exact Mem.le.refl _ | assumption | (apply Mem.le.trans; rotate_left; assumption)))) (fr' := [(3, [], _), (4, [], _), (9, [], _), (11, [], _), (12, [], _)]) ⟨rfl, rfl, rfl, rfl, rfl, trivial⟩ ⟨k + 1, w, by omega, rfl, rfl, rfl⟩
            · skip
              simp only [decide_eq_false_iff_not] at h113
              have hkl : k = q.length := by omega
              rw [hkl, List.take_of_length_le (by omega)]
              refine G.freezeArr 0 (((relsOf l q).eraseIdx i).map Rel.enc) rfl rfl (by intro r hr; obtain ⟨y, _, rfl⟩ := List.mem_map.1 hr; rfl) (by simp) (fun Cf hf hsd => ?_)
              have hMr : Made ((relsOf l q).eraseIdx i) := hM.sub (by rw [List.length_eraseIdx]; split <;> omega) (fun x hx => by
                have h1 := List.mem_of_mem_eraseIdx hx
                obtain ⟨k2, hk2⟩ := List.getElem?_of_mem h1
                have hk3 : k2 < q.length := by have := (List.getElem?_eq_some_iff.1 hk2).1; omega
                obtain ⟨y, h2, h3⟩ := hrl k2 q[k2] (List.getElem?_eq_getElem hk3)
                rw [hk2] at h3
                cases h3
                exact List.mem_of_getElem? h2)
              refine G.region rfl (fun R hR => ?_)
              refine D.pure rfl rfl rfl rfl rfl rfl ?_
              refine D.callP (cycle_fn _ _ ((relsOf l q).eraseIdx i) hsd (by have := hMr.1; omega) hMr.short) rfl rfl rfl rfl rfl rfl rfl (fun _ => rfl) (fun v131 C131 hle131 hq131 => ?_)
              obtain ⟨Ad, cd, fd, r2, rfl, _, hd0⟩ := cyc_made hMr hq131
              have hfd : fd = false := by
                rcases hd0 with ⟨h, _⟩ | ⟨_, h, _⟩
                · exact h
                · exact absurd h (turn_free hq hil (by omega))
              subst hfd
              iterate 7 refine D.pure rfl rfl rfl rfl rfl rfl ?_
              refine D.done [(3, [], _), (4, [], _), (9, [], _), (14, [], _), (15, [], _)] ⟨rfl, rfl, rfl, rfl, rfl, trivial⟩ (hR _ _ _ rfl ?_); clear hR R
              refine G.region rfl (fun R hR => ?_)
              iterate 4 refine D.pure rfl rfl rfl rfl rfl rfl ?_
              refine D.pickOr rfl rfl rfl rfl rfl rfl rfl rfl ?_
              refine D.done [(3, [], _), (4, [], _), (9, [], _), (139, [], _)] ⟨rfl, rfl, rfl, rfl, trivial⟩ (hR _ _ _ rfl ?_); clear hR R
              refine G.cond rfl (fun h139 => ?_) (fun h139 => ?_)
              · skip
                exfalso
                simp at h139
              · skip
                refine G.region rfl (fun R hR => ?_)
                refine D.pure rfl rfl rfl rfl rfl rfl ?_
                refine D.i64 _ rfl rfl rfl rfl rfl (by omega) (by omega) rfl rfl ?_
                refine D.pure rfl rfl rfl rfl rfl rfl ?_
                refine D.done [(3, [], _), (4, [], _), (9, [], _)] ⟨rfl, rfl, rfl, trivial⟩ (hR _ _ _ rfl ?_); clear hR R
                refine G.again (m' := q.length - (i + 1)) (by omega) (by (repeat (first | exact Mem.le.refl _ | assumption | (apply Mem.le.trans; rotate_left; assumption)))) (fr' := [(3, [], _), (4, [], _), (9, [], _)]) ⟨rfl, rfl, rfl, trivial⟩ ⟨i + 1, by omega, rfl, rfl, rfl⟩
        · skip
          refine G.region rfl (fun R hR => ?_)
          refine D.pure rfl rfl rfl rfl rfl rfl ?_
          refine D.done [(2, [], _)] ⟨rfl, trivial⟩ (hR _ _ _ rfl ?_); clear hR R
          refine G.retN (G.dropAll (G.fin1 rfl rfl ?_))
          exact ⟨rfl, rfl⟩
end Go.Proofs.Ytddjibfmnkcalaa
namespace Go.Proofs.Ytddjibfmnkcalaa
open Go Go.Jog
set_option maxRecDepth 100000

theorem cat_at2 {α : Type} {f : Nat → List α} {i n : Nat} {pre : List α} {x : α} (h : i < n) (he : pre ++ [x] <+: f i) : (cat f n)[(cat f i).length + pre.length]? = some x := by
  obtain ⟨post, h2⟩ := he
  exact cat_at h (by rw [← h2]; simp; rfl)
theorem clo_at {t : Nat → Nat → Bool} {n i k : Nat} (hi : i < n) (hk : k < n) (ht : t i k = true) : (cloL t n n)[(cloL t n i).length + (cloRow t i k).length]? = some (i, k) := by
  refine cat_at2 (f := fun i => cloRow t i n) hi ?_
  have h1 : cloRow t i (k + 1) = cloRow t i k ++ [(i, k)] := by unfold cloRow; rw [cat_succ, oneIf_true ht]
  rw [← h1]
  exact cat_prefix (by omega)
theorem clo_made {C : Mem} {l : List Rel} {r : Value} (hM : Made l) (h : CloRes C l r) : ∃ v, r = .tuple #[v, .int .i64 0] ∧ Sl C 2 v ((cloL (fun i k => decide (0 < Jog.tab (arcsOf l) 8 i k)) (unitsL l).length (unitsL l).length).map (pairE (unitsL l))) := by
  rcases h with ⟨h, _⟩ | ⟨_, t, v, h1, h2, h3⟩
  · exact absurd hM.err h
  · have : t = fun i k => decide (0 < Jog.tab (arcsOf l) 8 i k) := by
      funext i k
      rw [Bool.eq_iff_iff, h1, reach_tab hM.arcs8, decide_eq_true_iff]
    exact ⟨v, h2, this ▸ h3⟩
/-- The law's own test: a longer way, or an earlier arc between the same two. -/
def impC (A : List Arc3) (a : Arc3) : Bool := decide (1 < Jog.tab A 8 a.lo a.up) || A.any fun b => decide (b.lo = a.lo ∧ b.up = a.up ∧ b.i < a.i)
theorem implied_iff {A : List Arc3} {n : Nat} (hac : Acyc A) (hb : Below n A) (hn : n ≤ 8) {a : Arc3} : Implied A a ↔ impC A a = true := by
  simp only [impC, Bool.or_eq_true, decide_eq_true_eq, List.any_eq_true, Implied, ImpBy, mem_nexts]
  constructor
  · rintro ⟨b, ⟨h1, h2⟩, ⟨h3, h4⟩ | ⟨h3, m, h4, h5⟩⟩
    · exact .inr ⟨b, h1, h2, h3, h4⟩
    · left
      have hw : Walk A (m + 1) a.lo a.up := Walk.succ.2 ⟨b, h1, h2, h5⟩
      have hs := acyc_short hac hb hw
      rcases tab_long A 8 (Nat.le_refl _) a.lo a.up with ⟨_, h6⟩ | ⟨_, _, _, h6⟩
      · exact absurd hw (h6 _ (by omega) (by omega))
      · have := h6 _ (by omega) hw
        omega
  · rintro (h | ⟨b, h1, h2, h3, h4⟩)
    · rcases tab_long A 8 (Nat.le_refl _) a.lo a.up with ⟨h6, _⟩ | ⟨_, _, h6, _⟩
      · omega
      · obtain ⟨m, hm⟩ : ∃ m, Jog.tab A 8 a.lo a.up = m + 2 := ⟨Jog.tab A 8 a.lo a.up - 2, by omega⟩
        rw [hm] at h6
        obtain ⟨b, h7, h8, h9⟩ := Walk.succ.1 h6
        refine ⟨b, ⟨h7, h8⟩, .inr ⟨fun e => ?_, m + 1, by omega, h9⟩⟩
        rw [e] at h9
        exact hac _ _ (by omega) h9
    · exact ⟨b, ⟨h1, h2⟩, .inl ⟨h3, h4⟩⟩
theorem red_made {C : Mem} {l : List Rel} {r : Value} (hM : Made l) (h : RedRes C l r) : (Back (arcsOf l) ∧ r = .tuple #[nilV, .int .i64 27]) ∨
    (¬ Back (arcsOf l) ∧ ∃ v, r = .tuple #[v, .int .i64 0] ∧ Sl C 1 v ((nums ((arcsOf l).filter fun a => !impC (arcsOf l) a)).map encN)) := by
  rcases h with ⟨h, _⟩ | ⟨_, h, h2⟩ | ⟨_, hnb, q, v, ⟨h1, h2⟩, h3, h4⟩
  · exact absurd hM.err h
  · exact .inl ⟨h, h2⟩
  · refine .inr ⟨hnb, v, h3, ?_⟩
    have hok := gok_of (l := l) (by have := hM.1; omega)
    have hac : Acyc (arcsOf l) := fun k u h5 h6 => hnb ⟨k, u, h5, h6⟩
    have e : q = (arcsOf l).filter fun a => !impC (arcsOf l) a := by
      have := sublist_filter (P := fun a => impC (arcsOf l) a = false) hok.ix.nodup h1 (fun a ha => by
        rw [h2 a ha, implied_iff hac hok.below (by have := hM.units; omega)]; simp)
      rw [this]
      congr 1
      funext a
      cases impC (arcsOf l) a <;> rfl
    rw [← e]; exact h4
def wantL (l : List Rel) (i : Nat) : List Nat := nums ((cat (arcAt (unitsL l) l) i).filter fun a => !impC (arcsOf l) a)
def Want (l : List Rel) (x : Rel) (k : Nat) : Prop := x.kind = 4 ∨ 1 < Jog.tab (arcsOf l) 8 (posS (unitsL l) x.lower) (posS (unitsL l) x.upper) ∨ ∃ j y, j < k ∧ l[j]? = some y ∧ y.kind ≠ 4 ∧ y.upper = x.upper ∧ y.lower = x.lower
theorem want_step {l : List Rel} {i : Nat} {x : Rel} {b : Bool} (hx : l[i]? = some x) (hb : b = true ↔ Want l x i) : wantL l (i + 1) = wantL l i ++ (if b then [] else [i]) := by
  have hm := mem_units (List.mem_of_getElem? hx)
  have e : arcAt (unitsL l) l i = oneIf (!(x.kind == 4)) ⟨i, posS (unitsL l) x.lower, posS (unitsL l) x.upper⟩ := by unfold arcAt; rw [hx]
  unfold wantL
  rw [cat_succ, e, List.filter_append, nums, nums, List.map_append]
  congr 1
  by_cases hk : x.kind = 4
  · rw [hb.2 (.inl hk)]
    simp [hk, oneIf]
  · have hq : impC (arcsOf l) ⟨i, posS (unitsL l) x.lower, posS (unitsL l) x.upper⟩ = b := by
      rw [Bool.eq_iff_iff, hb]
      simp only [impC, Bool.or_eq_true, decide_eq_true_eq, List.any_eq_true]
      constructor
      · rintro (h | ⟨a, h1, h2, h3, h4⟩)
        · exact .inr (.inl h)
        · obtain ⟨y, h5, h6, h7, h8, h9, h10⟩ := arc_at h1
          exact .inr (.inr ⟨a.i, y, h4, h5, h6, posS_inj h10 hm.2 (by rw [← h8]; exact h3), posS_inj h9 hm.1 (by rw [← h7]; exact h2)⟩)
      · rintro (h | h | ⟨j, y, h1, h2, h3, h4, h5⟩)
        · exact absurd h hk
        · exact .inl h
        · refine .inr ⟨⟨j, posS (unitsL l) y.lower, posS (unitsL l) y.upper⟩, mem_arcs3.2 ⟨y, h2, h3, rfl⟩, by rw [h5], by rw [h4], h1⟩
    have hk2 : (!(x.kind == 4)) = true := by simp [hk]
    rw [hk2, oneIf_true rfl]
    cases b <;> simp [hq]
theorem want_next {l : List Rel} {x y : Rel} {k : Nat} {b b' : Bool} (hy : l[k]? = some y) (hb : b = true ↔ Want l x k) (hb' : b' = true ↔ b = true ∨ y.kind ≠ 4 ∧ y.upper = x.upper ∧ y.lower = x.lower) : b' = true ↔ Want l x (k + 1) := by
  rw [hb', hb]
  unfold Want
  constructor
  · rintro ((h | h | ⟨j, z, h1, h2⟩) | h)
    · exact .inl h
    · exact .inr (.inl h)
    · exact .inr (.inr ⟨j, z, by omega, h2⟩)
    · exact .inr (.inr ⟨k, y, by omega, hy, h⟩)
  · rintro (h | h | ⟨j, z, h1, h2, h3⟩)
    · exact .inl (.inl h)
    · exact .inl (.inr (.inl h))
    · rcases Nat.lt_or_ge j k with h4 | h4
      · exact .inl (.inr (.inr ⟨j, z, h4, h2, h3⟩))
      · have : j = k := by omega
        subst this
        rw [hy] at h2
        cases h2
        exact .inr h3
theorem wantL_len (l : List Rel) (i : Nat) : (wantL l i).length ≤ i := by
  have h1 := arcAt_len (unitsL l) l i
  have h2 := List.length_filter_le (fun a => !impC (arcsOf l) a) (cat (arcAt (unitsL l) l) i)
  unfold wantL nums
  rw [List.length_map]
  omega

set_option maxHeartbeats 4000000 in
theorem spairs_fn (C : Mem) (v : Value) (ss : List Seen) (hv : Sl C 3 v (ss.map Seen.enc)) : Pur cx.P 7 [v] C fun u _ => u = .bool true := by
  obtain ⟨A0, c0, rfl, _⟩ := id hv
  simp only [List.length_map] at hv ⊢
  refine Fn.intro (by kernel_rfl) Try.func7 rfl 186 rfl rfl (fun w0 => ?_)
  refine G.region rfl (fun R hR => ?_)
  refine D.pure rfl rfl rfl rfl rfl rfl ?_
  refine D.done [(0, [], _)] ⟨rfl, trivial⟩ (hR _ _ _ rfl ?_); clear hR R
  refine G.region rfl (fun R hR => ?_)
  refine D.callP (known_fn _) rfl rfl rfl rfl rfl rfl rfl (fun _ => rfl) (fun v17 C17 hle17 hq17 => ?_)
  obtain rfl := hq17
  iterate 3 refine D.pure rfl rfl rfl rfl rfl rfl ?_
  refine D.gives (fun _ => (fits_fn _ _ _ _)) rfl rfl rfl rfl rfl rfl rfl rfl rfl ?_
  refine D.pure rfl rfl rfl rfl rfl rfl ?_
  refine D.pickOr rfl rfl rfl rfl rfl rfl rfl rfl ?_
  refine D.done [(0, [], _), (23, [], _)] ⟨rfl, rfl, trivial⟩ (hR _ _ _ rfl ?_); clear hR R
  refine G.cond rfl (fun h23 => ?_) (fun h23 => ?_)
  · skip
    refine G.region rfl (fun R hR => ?_)
    refine D.callP (known_fn _) rfl rfl rfl rfl rfl rfl rfl (fun _ => rfl) (fun v24 C24 hle24 hq24 => ?_)
    obtain rfl := hq24
    refine D.pure rfl rfl rfl rfl rfl rfl ?_
    refine D.done [(2, [], _)] ⟨rfl, trivial⟩ (hR _ _ _ rfl ?_); clear hR R
    refine G.retN (G.dropAll (G.fin1 rfl rfl ?_))
    exact ⟨rfl, rfl⟩
  · skip
    refine G.region rfl (fun R hR => ?_)
    refine D.pure rfl rfl rfl rfl rfl rfl ?_
    refine D.callP (make_fn _ _ ss (hv.mono (by (repeat (first | exact Mem.le.refl _ | assumption | (apply Mem.le.trans; rotate_left; assumption)))))) rfl rfl rfl rfl rfl rfl rfl (fun _ => rfl) (fun v26 C26 hle26 hq26 => ?_)
    obtain ⟨l, hl⟩ : ∃ l, makeL ss = l := ⟨_, rfl⟩
    have hM : Made l := by rw [← hl]; exact made_makeL ss
    rw [hl] at hq26
    obtain ⟨Al, cl, rfl, hlc, _⟩ := id hq26
    simp only [List.length_map] at hq26 hlc
    have hl8 := hM.1
    simp only [List.length_map]
    have hN6 := hM.units
    obtain ⟨n, hn⟩ : ∃ n, (unitsL l).length = n := ⟨_, rfl⟩
    obtain ⟨T, hT⟩ : ∃ T, Jog.tab (arcsOf l) 8 = T := ⟨_, rfl⟩
    obtain ⟨t, ht⟩ : ∃ t : Nat → Nat → Bool, (fun i k => decide (0 < T i k)) = t := ⟨_, rfl⟩
    rw [hn] at hN6
    refine D.pure rfl rfl rfl rfl rfl rfl ?_
    refine D.done [(3, [], _)] ⟨rfl, trivial⟩ (hR _ _ _ rfl ?_); clear hR R
    refine G.region rfl (fun R hR => ?_)
    refine D.pure rfl rfl rfl rfl rfl rfl ?_
    refine D.callP (closure_spec _ _ l (hq26.mono (by (repeat (first | exact Mem.le.refl _ | assumption | (apply Mem.le.trans; rotate_left; assumption))))) (by omega) hM.short) rfl rfl rfl rfl rfl rfl rfl (fun _ => rfl) (fun v29 C29 hle29 hq29 => ?_)
    obtain ⟨vp, rfl, hp⟩ := clo_made hM hq29
    rw [hn, hT, ht] at hp
    obtain ⟨Ap, cp, rfl, hpc, _⟩ := id hp
    simp only [List.length_map] at hp hpc ⊢
    have hpl : (cloL t n n).length ≤ 36 := Nat.le_trans (cloL_len t n n) (Nat.mul_le_mul hN6 hN6)
    iterate 5 refine D.pure rfl rfl rfl rfl rfl rfl ?_
    refine D.done [(3, [], _), (4, [], _), (5, [], _)] ⟨rfl, rfl, rfl, trivial⟩ (hR _ _ _ rfl ?_); clear hR R
    refine G.region rfl (fun R hR => ?_)
    refine D.pure rfl rfl rfl rfl rfl rfl ?_
    refine D.callP (reduction_fn _ _ l (hq26.mono (by (repeat (first | exact Mem.le.refl _ | assumption | (apply Mem.le.trans; rotate_left; assumption))))) (by omega) hM.short) rfl rfl rfl rfl rfl rfl rfl (fun _ => rfl) (fun v34 C34 hle34 hq34 => ?_)
    have hred := red_made hM hq34
    obtain ⟨Ar, lr, cr, e, rfl⟩ : ∃ Ar lr cr, ∃ e : Int, v34 = .tuple #[.slice Ar lr cr, .int .i64 e] := by
      rcases hred with ⟨_, h⟩ | ⟨_, v, h, h1⟩
      · exact ⟨_, _, _, _, h⟩
      · obtain ⟨A1, c1, rfl, _⟩ := id h1
        exact ⟨_, _, _, _, h⟩
    iterate 5 refine D.pure rfl rfl rfl rfl rfl rfl ?_
    refine D.done [(3, [], _), (4, [], _), (5, [], _), (6, [], _), (7, [], _)] ⟨rfl, rfl, rfl, rfl, rfl, trivial⟩ (hR _ _ _ rfl ?_); clear hR R
    refine G.region rfl (fun R hR => ?_)
    refine D.pure rfl rfl rfl rfl rfl rfl ?_
    refine D.callP (lunits_fn _ _ l (hq26.mono (by (repeat (first | exact Mem.le.refl _ | assumption | (apply Mem.le.trans; rotate_left; assumption))))) (by omega)) rfl rfl rfl rfl rfl rfl rfl (fun _ => rfl) (fun v38 C38 hle38 hq38 => ?_)
    obtain ⟨An, cn, rfl, _⟩ := id hq38
    simp only [List.length_map, hn] at hq38 ⊢
    refine D.pure rfl rfl rfl rfl rfl rfl ?_
    refine D.callP (reach_fn _ _ l (hq26.mono (by (repeat (first | exact Mem.le.refl _ | assumption | (apply Mem.le.trans; rotate_left; assumption))))) (by omega)) rfl rfl rfl rfl rfl rfl rfl (fun _ => rfl) (fun v40 C40 hle40 hq40 => ?_)
    rw [hn, hT] at hq40
    obtain ⟨vs, hvl, hw, hrow⟩ := hq40
    obtain ⟨Aw, cw, rfl, _⟩ := id hw
    simp only [List.length_map, hvl] at hw ⊢
    iterate 2 refine D.pure rfl rfl rfl rfl rfl rfl ?_
    refine D.done [(3, [], _), (4, [], _), (5, [], _), (6, [], _), (7, [], _), (8, [], _), (9, [], _)] ⟨rfl, rfl, rfl, rfl, rfl, rfl, rfl, trivial⟩ (hR _ _ _ rfl ?_); clear hR R
    refine G.region rfl (fun R hR => ?_)
    refine D.pure rfl rfl rfl rfl rfl rfl ?_
    refine D.done [(3, [], _), (4, [], _), (5, [], _), (6, [], _), (7, [], _), (8, [], _), (9, [], _), (10, [], _)] ⟨rfl, rfl, rfl, rfl, rfl, rfl, rfl, rfl, trivial⟩ (hR _ _ _ rfl ?_); clear hR R
    refine G.region rfl (fun R hR => ?_)
    refine D.pure rfl rfl rfl rfl rfl rfl ?_
    refine D.done [(3, [], _), (4, [], _), (5, [], _), (6, [], _), (7, [], _), (8, [], _), (9, [], _), (10, [], _), (11, [], _)] ⟨rfl, rfl, rfl, rfl, rfl, rfl, rfl, rfl, rfl, trivial⟩ (hR _ _ _ rfl ?_); clear hR R
    refine G.loop (fun fr C' L' μ => ∃ (i : Nat), (i ≤ n) ∧ fr = [(3, [], .slice Al l.length cl), (4, [], .slice Ap (cloL t n n).length cp), (5, [], .int .i64 0), (6, [], .slice Ar lr cr), (7, [], .int .i64 e), (8, [], .slice An n cn), (9, [], .slice Aw n cw), (10, [], .int .i64 ((cloL t n i).length : Nat)), (11, [], .int .i64 i)] ∧ L' = [] ∧ μ = n - i) (fr' := [(3, [], _), (4, [], _), (5, [], _), (6, [], _), (7, [], _), (8, [], _), (9, [], _), (10, [], _), (11, [], _)]) ⟨rfl, rfl, rfl, rfl, rfl, rfl, rfl, rfl, rfl, trivial⟩ ⟨0, Nat.zero_le _, rfl, rfl, rfl⟩ (fun fr C0' L0' m hle0 hI => ?_)
    obtain ⟨i, hi, rfl, rfl, rfl⟩ := hI
    refine G.region rfl (fun R hR => ?_)
    iterate 4 refine D.pure rfl rfl rfl rfl rfl rfl ?_
    refine D.done [(3, [], _), (4, [], _), (5, [], _), (6, [], _), (7, [], _), (8, [], _), (9, [], _), (10, [], _), (11, [], _), (44, [], _)] ⟨rfl, rfl, rfl, rfl, rfl, rfl, rfl, rfl, rfl, rfl, trivial⟩ (hR _ _ _ rfl ?_); clear hR R
    refine G.cond rfl (fun h44 => ?_) (fun h44 => ?_)
    · skip
      simp only [decide_eq_true_eq] at h44
      have hil : i < n := by omega
      obtain ⟨vc, hvc⟩ : ∃ vc, vs[i]? = some vc := ⟨vs[i]'(by omega), List.getElem?_eq_getElem (by omega)⟩
      have hrc := hrow i vc hvc
      obtain ⟨Ac, cc2, rfl, _⟩ := id hrc
      simp only [List.length_map, List.length_range] at hrc hvc
      have hrcv : (vs.map fun v => [v])[i]? = some [Value.slice Ac n cc2] := by rw [List.getElem?_map, hvc]; rfl
      have hni : ((unitsL l).map encS)[i]? = some [strV (nameAt (unitsL l) i)] := by rw [List.getElem?_map, nameAt_get (by omega)]; rfl
      refine G.region rfl (fun R hR => ?_)
      refine D.pure rfl rfl rfl rfl rfl rfl ?_
      refine D.done [(3, [], _), (4, [], _), (5, [], _), (6, [], _), (7, [], _), (8, [], _), (9, [], _), (10, [], _), (11, [], _), (12, [], _)] ⟨rfl, rfl, rfl, rfl, rfl, rfl, rfl, rfl, rfl, rfl, trivial⟩ (hR _ _ _ rfl ?_); clear hR R
      refine G.loop (fun fr C' L' μ => ∃ (k : Nat), (k ≤ n) ∧ fr = [(3, [], .slice Al l.length cl), (4, [], .slice Ap (cloL t n n).length cp), (5, [], .int .i64 0), (6, [], .slice Ar lr cr), (7, [], .int .i64 e), (8, [], .slice An n cn), (9, [], .slice Aw n cw), (10, [], .int .i64 ((cloL t n i).length + (cloRow t i k).length : Nat)), (11, [], .int .i64 i), (12, [], .int .i64 k)] ∧ L' = [] ∧ μ = n - k) (fr' := [(3, [], _), (4, [], _), (5, [], _), (6, [], _), (7, [], _), (8, [], _), (9, [], _), (10, [], _), (11, [], _), (12, [], _)]) ⟨rfl, rfl, rfl, rfl, rfl, rfl, rfl, rfl, rfl, rfl, trivial⟩ ⟨0, Nat.zero_le _, rfl, rfl, rfl⟩ (fun fr C1' L1' m hle1 hI => ?_)
      obtain ⟨k, hk, rfl, rfl, rfl⟩ := hI
      refine G.region rfl (fun R hR => ?_)
      iterate 4 refine D.pure rfl rfl rfl rfl rfl rfl ?_
      refine D.done [(3, [], _), (4, [], _), (5, [], _), (6, [], _), (7, [], _), (8, [], _), (9, [], _), (10, [], _), (11, [], _), (12, [], _), (50, [], _)] ⟨rfl, rfl, rfl, rfl, rfl, rfl, rfl, rfl, rfl, rfl, rfl, trivial⟩ (hR _ _ _ rfl ?_); clear hR R
      refine G.cond rfl (fun h50 => ?_) (fun h50 => ?_)
      · skip
        simp only [decide_eq_true_eq] at h50
        have hkl : k < n := by omega
        have hnk : ((unitsL l).map encS)[k]? = some [strV (nameAt (unitsL l) k)] := by rw [List.getElem?_map, nameAt_get (by omega)]; rfl
        have hrcell : (((List.range n).map (T i)).map encN)[k]? = some (encN (T i k)) := by simp [hkl]
        refine G.region rfl (fun R hR => ?_)
        iterate 2 refine D.pure rfl rfl rfl rfl rfl rfl ?_
        refine D.index0 (hw.mono (by (repeat (first | exact Mem.le.refl _ | assumption | (apply Mem.le.trans; rotate_left; assumption))))) rfl rfl rfl rfl rfl rfl rfl rfl rfl rfl (by omega) hrcv (fun _ => rfl) (fun p55 hp55 => ?_)
        refine D.loadP0 hp55 rfl rfl rfl rfl rfl rfl rfl rfl ?_
        refine D.pure rfl rfl rfl rfl rfl rfl ?_
        refine D.index0 (hrc.mono (by (repeat (first | exact Mem.le.refl _ | assumption | (apply Mem.le.trans; rotate_left; assumption))))) rfl rfl rfl rfl rfl rfl rfl rfl rfl rfl (by omega) hrcell (fun _ => rfl) (fun p58 hp58 => ?_)
        refine D.loadP0 hp58 rfl rfl rfl rfl rfl rfl rfl rfl ?_
        refine D.pure rfl rfl rfl rfl rfl rfl ?_
        refine D.done [(3, [], _), (4, [], _), (5, [], _), (6, [], _), (7, [], _), (8, [], _), (9, [], _), (10, [], _), (11, [], _), (12, [], _), (60, [], _)] ⟨rfl, rfl, rfl, rfl, rfl, rfl, rfl, rfl, rfl, rfl, rfl, trivial⟩ (hR _ _ _ rfl ?_); clear hR R
        refine G.cond rfl (fun h60 => ?_) (fun h60 => ?_)
        · skip
          have h60' : t i k = true := by rw [← ht]; simpa using h60
          have hat := clo_at hil hkl h60'
          have hlt : (cloL t n i).length + (cloRow t i k).length < (cloL t n n).length := (List.getElem?_eq_some_iff.1 hat).1
          have hpe : ((cloL t n n).map (pairE (unitsL l)))[(cloL t n i).length + (cloRow t i k).length]? = some (pairE (unitsL l) (i, k)) := by rw [List.getElem?_map, hat]; rfl
          have hcr : cloRow t i (k + 1) = cloRow t i k ++ [(i, k)] := by unfold cloRow; rw [cat_succ, oneIf_true h60']
          refine G.draw [0, 1, 2, 3, 4, 5, 6, 7, 8, 9, 10, 11, 12, 13, 14, 15, 16, 17, 18, 19] [] rfl (by kernel_rfl) (fun R hB hR => ?_)
          iterate 7 refine D.pure rfl rfl rfl rfl rfl rfl ?_
          refine D.index rfl rfl rfl rfl rfl rfl rfl rfl rfl rfl (fun hg => ⟨(hp.mono (by (repeat (first | exact Mem.le.refl _ | assumption | (apply Mem.le.trans; rotate_left; assumption))))), by omega, hpe⟩) (fun _ => rfl) rfl (fun p68 hp68 => ?_)
          refine D.loadP rfl rfl rfl rfl rfl rfl hp68 rfl rfl rfl ?_
          iterate 2 refine D.pure rfl rfl rfl rfl rfl rfl ?_
          refine D.index rfl rfl rfl rfl rfl rfl rfl rfl rfl rfl (fun hg => ⟨(hq38.mono (by (repeat (first | exact Mem.le.refl _ | assumption | (apply Mem.le.trans; rotate_left; assumption))))), by omega, hni⟩) (fun _ => rfl) rfl (fun p72 hp72 => ?_)
          refine D.loadP rfl rfl rfl rfl rfl rfl hp72 rfl rfl rfl ?_
          iterate 2 refine D.pure rfl rfl rfl rfl rfl rfl ?_
          refine D.index rfl rfl rfl rfl rfl rfl rfl rfl rfl rfl (fun hg => ⟨(hq38.mono (by (repeat (first | exact Mem.le.refl _ | assumption | (apply Mem.le.trans; rotate_left; assumption))))), by omega, hnk⟩) (fun _ => rfl) rfl (fun p76 hp76 => ?_)
          refine D.loadP rfl rfl rfl rfl rfl rfl hp76 rfl rfl rfl ?_
          refine D.build (pairE (unitsL l) (i, k)) rfl rfl rfl rfl rfl rfl rfl rfl ?_
          refine D.neAgg false (by kernel_rfl) rfl rfl rfl rfl rfl rfl rfl rfl (fun _ => (by simp)) rfl rfl ?_
          refine D.pickOr rfl rfl rfl rfl rfl rfl rfl rfl ?_
          refine D.done [(3, [], _), (4, [], _), (5, [], _), (6, [], _), (7, [], _), (8, [], _), (9, [], _), (10, [], _), (11, [], _), (12, [], _), (80, [], _)] ⟨rfl, rfl, rfl, rfl, rfl, rfl, rfl, rfl, rfl, rfl, rfl, trivial⟩ (hR _ _ _ rfl ?_); clear hR hB R
          refine G.cond rfl (fun h80 => ?_) (fun h80 => ?_)
          · skip
            exfalso
            simp at h80
            omega
          · skip
            refine G.region rfl (fun R hR => ?_)
            refine D.pure rfl rfl rfl rfl rfl rfl ?_
            refine D.i64 _ rfl rfl rfl rfl rfl (by omega) (by omega) rfl rfl ?_
            refine D.pure rfl rfl rfl rfl rfl rfl ?_
            refine D.done [(3, [], _), (4, [], _), (5, [], _), (6, [], _), (7, [], _), (8, [], _), (9, [], _), (10, [], _), (11, [], _), (12, [], _)] ⟨rfl, rfl, rfl, rfl, rfl, rfl, rfl, rfl, rfl, rfl, trivial⟩ (hR _ _ _ rfl ?_); clear hR R
            refine G.region rfl (fun R hR => ?_)
            refine D.pure rfl rfl rfl rfl rfl rfl ?_
            refine D.i64 _ rfl rfl rfl rfl rfl (by omega) (by omega) rfl rfl ?_
            refine D.pure rfl rfl rfl rfl rfl rfl ?_
            refine D.done [(3, [], _), (4, [], _), (5, [], _), (6, [], _), (7, [], _), (8, [], _), (9, [], _), (10, [], _), (11, [], _), (12, [], _)] ⟨rfl, rfl, rfl, rfl, rfl, rfl, rfl, rfl, rfl, rfl, trivial⟩ (hR _ _ _ rfl ?_); clear hR R
            rw [show (((cloL t n i).length + (cloRow t i k).length : Nat) : Int) + 1 = (((cloL t n i).length + (cloRow t i (k + 1)).length : Nat) : Int) by rw [hcr]; simp; omega]
            refine G.again (m' := n - (k + 1)) (by omega) (by (repeat (first | exact Mem.le.refl _ | assumption | (apply Mem.le.trans; rotate_left; assumption)))) (fr' := [(3, [], _), (4, [], _), (5, [], _), (6, [], _), (7, [], _), (8, [], _), (9, [], _), (10, [], _), (11, [], _), (12, [], _)]) ⟨rfl, rfl, rfl, rfl, rfl, rfl, rfl, rfl, rfl, rfl, trivial⟩ ⟨k + 1, by omega, rfl, rfl, rfl⟩
        · skip
          have h60' : t i k = false := by rw [← ht]; simpa using h60
          have hcr : cloRow t i (k + 1) = cloRow t i k := by unfold cloRow; rw [cat_succ, oneIf_false h60', List.append_nil]
          refine G.region rfl (fun R hR => ?_)
          refine D.pure rfl rfl rfl rfl rfl rfl ?_
          refine D.i64 _ rfl rfl rfl rfl rfl (by omega) (by omega) rfl rfl ?_
          refine D.pure rfl rfl rfl rfl rfl rfl ?_
          refine D.done [(3, [], _), (4, [], _), (5, [], _), (6, [], _), (7, [], _), (8, [], _), (9, [], _), (10, [], _), (11, [], _), (12, [], _)] ⟨rfl, rfl, rfl, rfl, rfl, rfl, rfl, rfl, rfl, rfl, trivial⟩ (hR _ _ _ rfl ?_); clear hR R
          rw [← hcr]
          refine G.again (m' := n - (k + 1)) (by omega) (by (repeat (first | exact Mem.le.refl _ | assumption | (apply Mem.le.trans; rotate_left; assumption)))) (fr' := [(3, [], _), (4, [], _), (5, [], _), (6, [], _), (7, [], _), (8, [], _), (9, [], _), (10, [], _), (11, [], _), (12, [], _)]) ⟨rfl, rfl, rfl, rfl, rfl, rfl, rfl, rfl, rfl, rfl, trivial⟩ ⟨k + 1, by omega, rfl, rfl, rfl⟩
      · skip
        simp only [decide_eq_false_iff_not] at h50
        have hkl : n = k := by omega
        subst hkl
        rw [show (cloL t n i).length + (cloRow t i n).length = (cloL t n (i + 1)).length by rw [cloL, cloL, cat_succ, List.length_append]]
        refine G.region rfl (fun R hR => ?_)
        refine D.pure rfl rfl rfl rfl rfl rfl ?_
        refine D.i64 _ rfl rfl rfl rfl rfl (by omega) (by omega) rfl rfl ?_
        refine D.pure rfl rfl rfl rfl rfl rfl ?_
        refine D.done [(3, [], _), (4, [], _), (5, [], _), (6, [], _), (7, [], _), (8, [], _), (9, [], _), (10, [], _), (11, [], _)] ⟨rfl, rfl, rfl, rfl, rfl, rfl, rfl, rfl, rfl, trivial⟩ (hR _ _ _ rfl ?_); clear hR R
        refine G.again (m' := n - (i + 1)) (by omega) (by (repeat (first | exact Mem.le.refl _ | assumption | (apply Mem.le.trans; rotate_left; assumption)))) (fr' := [(3, [], _), (4, [], _), (5, [], _), (6, [], _), (7, [], _), (8, [], _), (9, [], _), (10, [], _), (11, [], _)]) ⟨rfl, rfl, rfl, rfl, rfl, rfl, rfl, rfl, rfl, trivial⟩ ⟨i + 1, by omega, rfl, rfl, rfl⟩
    · skip
      simp only [decide_eq_false_iff_not] at h44
      have hil : n = i := by omega
      subst hil
      refine G.region rfl (fun R hR => ?_)
      iterate 7 refine D.pure rfl rfl rfl rfl rfl rfl ?_
      refine D.pickOr rfl rfl rfl rfl rfl rfl rfl rfl ?_
      refine D.done [(3, [], _), (6, [], _), (7, [], _), (8, [], _), (9, [], _), (90, [], _)] ⟨rfl, rfl, rfl, rfl, rfl, rfl, trivial⟩ (hR _ _ _ rfl ?_); clear hR R
      refine G.cond rfl (fun h90 => ?_) (fun h90 => ?_)
      · skip
        exfalso
        simp at h90
      · skip
        refine G.region rfl (fun R hR => ?_)
        refine D.pure rfl rfl rfl rfl rfl rfl ?_
        refine D.callP (cyclic_fn _ _ l (hq26.mono (by (repeat (first | exact Mem.le.refl _ | assumption | (apply Mem.le.trans; rotate_left; assumption))))) hl8) rfl rfl rfl rfl rfl rfl rfl (fun _ => rfl) (fun v92 C92 hle92 hq92 => ?_)
        obtain ⟨bc, rfl, hbc⟩ := hq92
        refine D.done [(3, [], _), (6, [], _), (7, [], _), (8, [], _), (9, [], _), (92, [], _)] ⟨rfl, rfl, rfl, rfl, rfl, rfl, trivial⟩ (hR _ _ _ rfl ?_); clear hR R
        refine G.cond rfl (fun h92 => ?_) (fun h92 => ?_)
        · skip
          have hBk : Back (arcsOf l) := hbc.1 (by simpa using h92)
          obtain ⟨rfl, rfl⟩ : lr = 0 ∧ e = 27 := by
            rcases hred with ⟨_, h⟩ | ⟨h, _⟩
            · cases h; exact ⟨rfl, rfl⟩
            · exact absurd hBk h
          refine G.region rfl (fun R hR => ?_)
          iterate 6 refine D.pure rfl rfl rfl rfl rfl rfl ?_
          refine D.pickAnd rfl rfl rfl rfl rfl rfl rfl rfl ?_
          refine D.pure rfl rfl rfl rfl rfl rfl ?_
          refine D.done [(2, [], _)] ⟨rfl, trivial⟩ (hR _ _ _ rfl ?_); clear hR R
          refine G.retN (G.dropAll (G.fin1 rfl rfl ?_))
          exact ⟨rfl, rfl⟩
        · skip
          have hnB : ¬ Back (arcsOf l) := fun h => by have := hbc.2 h; rw [this] at h92; cases h92
          obtain ⟨rfl, hr⟩ : e = 0 ∧ Sl C34 1 (.slice Ar lr cr) ((nums ((arcsOf l).filter fun a => !impC (arcsOf l) a)).map encN) := by
            rcases hred with ⟨h, _⟩ | ⟨_, v, h, h1⟩
            · exact absurd h hnB
            · cases h; exact ⟨rfl, h1⟩
          refine G.region rfl (fun R hR => ?_)
          refine D.pure rfl rfl rfl rfl rfl rfl ?_
          refine D.done [(3, [], _), (6, [], _), (7, [], _), (8, [], _), (9, [], _), (13, [], _)] ⟨rfl, rfl, rfl, rfl, rfl, rfl, trivial⟩ (hR _ _ _ rfl ?_); clear hR R
          refine G.region rfl (fun R hR => ?_)
          refine D.pure rfl rfl rfl rfl rfl rfl ?_
          refine D.done [(3, [], _), (6, [], _), (7, [], _), (8, [], _), (9, [], _), (13, [], _), (14, [], _)] ⟨rfl, rfl, rfl, rfl, rfl, rfl, rfl, trivial⟩ (hR _ _ _ rfl ?_); clear hR R
          refine G.nilArr 3 1 ?_
          refine G.loop (fun fr C' L' μ => ∃ (i : Nat) (w : Value), (i ≤ l.length) ∧ fr = [(3, [], .slice Al l.length cl), (6, [], .slice Ar lr cr), (7, [], .int .i64 0), (8, [], .slice An n cn), (9, [], .slice Aw n cw), (13, [], w), (14, [], .int .i64 i)] ∧ L' = [.arr w 3 1 (wantL l i).length ((wantL l i).map intN)] ∧ μ = l.length - i) (fr' := [(3, [], _), (6, [], _), (7, [], _), (8, [], _), (9, [], _), (13, [], _), (14, [], _)]) ⟨rfl, rfl, rfl, rfl, rfl, rfl, rfl, trivial⟩ ⟨0, _, Nat.zero_le _, rfl, rfl, rfl⟩ (fun fr C2' L2' m hle2 hI => ?_)
          obtain ⟨i, w, hi, rfl, rfl, rfl⟩ := hI
          refine G.region rfl (fun R hR => ?_)
          iterate 4 refine D.pure rfl rfl rfl rfl rfl rfl ?_
          refine D.done [(3, [], _), (6, [], _), (7, [], _), (8, [], _), (9, [], _), (13, [], _), (14, [], _), (103, [], _)] ⟨rfl, rfl, rfl, rfl, rfl, rfl, rfl, rfl, trivial⟩ (hR _ _ _ rfl ?_); clear hR R
          refine G.cond rfl (fun h103 => ?_) (fun h103 => ?_)
          · skip
            simp only [decide_eq_true_eq] at h103
            have hil : i < l.length := by omega
            obtain ⟨x, hx⟩ : ∃ x, l[i]? = some x := ⟨l[i], List.getElem?_eq_getElem hil⟩
            have hmu := mem_units (List.mem_of_getElem? hx)
            have hrx : (l.map Rel.enc)[i]? = some x.enc := by rw [List.getElem?_map, hx]; rfl
            obtain ⟨pl, hpl2⟩ : ∃ pl, posS (unitsL l) x.lower = pl := ⟨_, rfl⟩
            obtain ⟨pb, hpb⟩ : ∃ pb, posS (unitsL l) x.upper = pb := ⟨_, rfl⟩
            have hpl3 : pl < n := by rw [← hpl2, ← hn]; exact posS_lt hmu.1
            have hpb3 : pb < n := by rw [← hpb, ← hn]; exact posS_lt hmu.2
            obtain ⟨vc, hvc⟩ : ∃ vc, vs[pl]? = some vc := ⟨vs[pl]'(by omega), List.getElem?_eq_getElem (by omega)⟩
            have hrc := hrow pl vc hvc
            obtain ⟨Ac, cc2, rfl, _⟩ := id hrc
            simp only [List.length_map, List.length_range] at hrc hvc
            have hrcv : (vs.map fun v => [v])[pl]? = some [Value.slice Ac n cc2] := by rw [List.getElem?_map, hvc]; rfl
            have hrcell : (((List.range n).map (T pl)).map encN)[pb]? = some (encN (T pl pb)) := by simp [hpb3]
            have hlw := wantL_len l i
            refine G.draw [0, 1, 2, 3, 4, 5, 6, 7, 8, 9, 10, 11, 12, 13, 14, 15, 16, 17, 18, 19, 20, 21, 22, 23, 24, 25, 26, 27, 28] [(4, 1)] rfl (by kernel_rfl) (fun R hB hR => ?_)
            iterate 2 refine D.pure rfl rfl rfl rfl rfl rfl ?_
            refine D.index0 (hq26.mono (by (repeat (first | exact Mem.le.refl _ | assumption | (apply Mem.le.trans; rotate_left; assumption))))) rfl rfl rfl rfl rfl rfl rfl rfl rfl rfl (by omega) hrx (fun _ => rfl) (fun p108 hp108 => ?_)
            refine D.loadP0 hp108 rfl rfl rfl rfl rfl rfl rfl rfl ?_
            refine D.gives (fun _ => (larc_fn _ x)) rfl rfl rfl rfl rfl rfl rfl rfl rfl ?_
            iterate 6 refine D.pure rfl rfl rfl rfl rfl rfl ?_
            refine D.index rfl rfl rfl rfl rfl rfl rfl rfl rfl rfl (fun hg => ⟨(hq26.mono (by (repeat (first | exact Mem.le.refl _ | assumption | (apply Mem.le.trans; rotate_left; assumption))))), by omega, hrx⟩) (fun _ => rfl) rfl (fun p117 hp117 => ?_)
            refine D.fieldP rfl rfl rfl rfl rfl rfl rfl rfl rfl rfl hp117 (fun _ => rfl) rfl (fun p118 hp118 => ?_)
            refine D.loadP rfl rfl rfl rfl rfl rfl hp118 rfl rfl rfl ?_
            refine D.gives (fun _ => (lindex_pos _ _ (unitsL l) x.lower (hq38.mono (by (repeat (first | exact Mem.le.refl _ | assumption | (apply Mem.le.trans; rotate_left; assumption))))) (by omega) hmu.1 hpl2)) rfl rfl rfl rfl rfl rfl rfl rfl rfl ?_
            refine D.index rfl rfl rfl rfl rfl rfl rfl rfl rfl rfl (fun hg => ⟨hw.mono (by (repeat (first | exact Mem.le.refl _ | assumption | (apply Mem.le.trans; rotate_left; assumption)))), by omega, by rw [Int.toNat_natCast]; exact hrcv⟩) (fun _ => rfl) rfl (fun p121 hp121 => ?_)
            refine D.loadP rfl rfl rfl rfl rfl rfl hp121 rfl rfl rfl ?_
            iterate 3 refine D.pure rfl rfl rfl rfl rfl rfl ?_
            refine D.index rfl rfl rfl rfl rfl rfl rfl rfl rfl rfl (fun hg => ⟨(hq26.mono (by (repeat (first | exact Mem.le.refl _ | assumption | (apply Mem.le.trans; rotate_left; assumption))))), by omega, hrx⟩) (fun _ => rfl) rfl (fun p126 hp126 => ?_)
            refine D.fieldP rfl rfl rfl rfl rfl rfl rfl rfl rfl rfl hp126 (fun _ => rfl) rfl (fun p127 hp127 => ?_)
            refine D.loadP rfl rfl rfl rfl rfl rfl hp127 rfl rfl rfl ?_
            refine D.gives (fun _ => (lindex_pos _ _ (unitsL l) x.upper (hq38.mono (by (repeat (first | exact Mem.le.refl _ | assumption | (apply Mem.le.trans; rotate_left; assumption))))) (by omega) hmu.2 hpb)) rfl rfl rfl rfl rfl rfl rfl rfl rfl ?_
            refine D.index rfl rfl rfl rfl rfl rfl rfl rfl rfl rfl (fun hg => ⟨hrc.mono (by (repeat (first | exact Mem.le.refl _ | assumption | (apply Mem.le.trans; rotate_left; assumption)))), by omega, by rw [Int.toNat_natCast]; exact hrcell⟩) (fun _ => rfl) rfl (fun p130 hp130 => ?_)
            refine D.loadP rfl rfl rfl rfl rfl rfl hp130 rfl rfl rfl ?_
            refine D.pure rfl rfl rfl rfl rfl rfl ?_
            refine D.pickOr rfl rfl rfl rfl rfl rfl rfl rfl ?_
            refine D.pure rfl rfl rfl rfl rfl rfl ?_
            refine D.done [(3, [], _), (6, [], _), (7, [], _), (8, [], _), (9, [], _), (13, [], _), (14, [], _), (15, [], _)] ⟨rfl, rfl, rfl, rfl, rfl, rfl, rfl, rfl, trivial⟩ (hR _ _ _ rfl ?_); clear hR hB R
            refine G.region rfl (fun R hR => ?_)
            refine D.pure rfl rfl rfl rfl rfl rfl ?_
            refine D.done [(3, [], _), (6, [], _), (7, [], _), (8, [], _), (9, [], _), (13, [], _), (14, [], _), (15, [], _), (16, [], _)] ⟨rfl, rfl, rfl, rfl, rfl, rfl, rfl, rfl, rfl, trivial⟩ (hR _ _ _ rfl ?_); clear hR R
            refine G.loop (fun fr C' L' μ => ∃ (k : Nat) (bb : Bool), (k ≤ i ∧ (bb = true ↔ Want l x k)) ∧ fr = [(3, [], .slice Al l.length cl), (6, [], .slice Ar lr cr), (7, [], .int .i64 0), (8, [], .slice An n cn), (9, [], .slice Aw n cw), (13, [], w), (14, [], .int .i64 i), (15, [], .bool bb), (16, [], .int .i64 k)] ∧ L' = [.arr w 3 1 (wantL l i).length ((wantL l i).map intN)] ∧ μ = i - k) (fr' := [(3, [], _), (6, [], _), (7, [], _), (8, [], _), (9, [], _), (13, [], _), (14, [], _), (15, [], _), (16, [], _)]) ⟨rfl, rfl, rfl, rfl, rfl, rfl, rfl, rfl, rfl, trivial⟩ ⟨0, _, ⟨Nat.zero_le _, by unfold Want; rw [hT, hpl2, hpb]; simp [show (1 < (T pl pb : Int)) ↔ 1 < T pl pb by omega]⟩, rfl, rfl, rfl⟩ (fun fr C3' L3' m hle3 hI => ?_)
            obtain ⟨k, bb, ⟨hk, hbb⟩, rfl, rfl, rfl⟩ := hI
            refine G.region rfl (fun R hR => ?_)
            iterate 3 refine D.pure rfl rfl rfl rfl rfl rfl ?_
            refine D.done [(3, [], _), (6, [], _), (7, [], _), (8, [], _), (9, [], _), (13, [], _), (14, [], _), (15, [], _), (16, [], _), (136, [], _)] ⟨rfl, rfl, rfl, rfl, rfl, rfl, rfl, rfl, rfl, rfl, trivial⟩ (hR _ _ _ rfl ?_); clear hR R
            refine G.cond rfl (fun h136 => ?_) (fun h136 => ?_)
            · skip
              simp only [decide_eq_true_eq] at h136
              have hkl : k < l.length := by omega
              obtain ⟨y, hy⟩ : ∃ y, l[k]? = some y := ⟨l[k], List.getElem?_eq_getElem hkl⟩
              have hry : (l.map Rel.enc)[k]? = some y.enc := by rw [List.getElem?_map, hy]; rfl
              refine G.draw [0, 1, 2, 3, 4, 5, 6, 7, 8, 9, 10, 11, 12, 13, 14, 15, 16, 17, 18, 19, 20, 21, 22, 23, 24, 25, 26, 27, 28, 29, 30, 31, 32, 33, 34] [] rfl (by kernel_rfl) (fun R hB hR => ?_)
              iterate 4 refine D.pure rfl rfl rfl rfl rfl rfl ?_
              refine D.index rfl rfl rfl rfl rfl rfl rfl rfl rfl rfl (fun hg => ⟨(hq26.mono (by (repeat (first | exact Mem.le.refl _ | assumption | (apply Mem.le.trans; rotate_left; assumption))))), by omega, hry⟩) (fun _ => rfl) rfl (fun p143 hp143 => ?_)
              refine D.loadP rfl rfl rfl rfl rfl rfl hp143 rfl rfl rfl ?_
              refine D.gives (fun _ => (larc_fn _ y)) rfl rfl rfl rfl rfl rfl rfl rfl rfl ?_
              iterate 3 refine D.pure rfl rfl rfl rfl rfl rfl ?_
              refine D.index rfl rfl rfl rfl rfl rfl rfl rfl rfl rfl (fun hg => ⟨(hq26.mono (by (repeat (first | exact Mem.le.refl _ | assumption | (apply Mem.le.trans; rotate_left; assumption))))), by omega, hry⟩) (fun _ => rfl) rfl (fun p149 hp149 => ?_)
              refine D.fieldP rfl rfl rfl rfl rfl rfl rfl rfl rfl rfl hp149 (fun _ => rfl) rfl (fun p150 hp150 => ?_)
              refine D.loadP rfl rfl rfl rfl rfl rfl hp150 rfl rfl rfl ?_
              iterate 2 refine D.pure rfl rfl rfl rfl rfl rfl ?_
              refine D.index rfl rfl rfl rfl rfl rfl rfl rfl rfl rfl (fun hg => ⟨(hq26.mono (by (repeat (first | exact Mem.le.refl _ | assumption | (apply Mem.le.trans; rotate_left; assumption))))), by omega, hrx⟩) (fun _ => rfl) rfl (fun p154 hp154 => ?_)
              refine D.fieldP rfl rfl rfl rfl rfl rfl rfl rfl rfl rfl hp154 (fun _ => rfl) rfl (fun p155 hp155 => ?_)
              refine D.loadP rfl rfl rfl rfl rfl rfl hp155 rfl rfl rfl ?_
              refine D.pure rfl rfl rfl rfl rfl rfl ?_
              refine D.pickAnd rfl rfl rfl rfl rfl rfl rfl rfl ?_
              iterate 3 refine D.pure rfl rfl rfl rfl rfl rfl ?_
              refine D.index rfl rfl rfl rfl rfl rfl rfl rfl rfl rfl (fun hg => ⟨(hq26.mono (by (repeat (first | exact Mem.le.refl _ | assumption | (apply Mem.le.trans; rotate_left; assumption))))), by omega, hry⟩) (fun _ => rfl) rfl (fun p162 hp162 => ?_)
              refine D.fieldP rfl rfl rfl rfl rfl rfl rfl rfl rfl rfl hp162 (fun _ => rfl) rfl (fun p163 hp163 => ?_)
              refine D.loadP rfl rfl rfl rfl rfl rfl hp163 rfl rfl rfl ?_
              iterate 2 refine D.pure rfl rfl rfl rfl rfl rfl ?_
              refine D.index rfl rfl rfl rfl rfl rfl rfl rfl rfl rfl (fun hg => ⟨(hq26.mono (by (repeat (first | exact Mem.le.refl _ | assumption | (apply Mem.le.trans; rotate_left; assumption))))), by omega, hrx⟩) (fun _ => rfl) rfl (fun p167 hp167 => ?_)
              refine D.fieldP rfl rfl rfl rfl rfl rfl rfl rfl rfl rfl hp167 (fun _ => rfl) rfl (fun p168 hp168 => ?_)
              refine D.loadP rfl rfl rfl rfl rfl rfl hp168 rfl rfl rfl ?_
              refine D.pure rfl rfl rfl rfl rfl rfl ?_
              refine D.pickAnd rfl rfl rfl rfl rfl rfl rfl rfl ?_
              refine D.pickOr rfl rfl rfl rfl rfl rfl rfl rfl ?_
              refine D.pure rfl rfl rfl rfl rfl rfl ?_
              refine D.done [(3, [], _), (6, [], _), (7, [], _), (8, [], _), (9, [], _), (13, [], _), (14, [], _), (15, [], _), (16, [], _)] ⟨rfl, rfl, rfl, rfl, rfl, rfl, rfl, rfl, rfl, trivial⟩ (hR _ _ _ rfl ?_); clear hR hB R
              refine G.region rfl (fun R hR => ?_)
              refine D.pure rfl rfl rfl rfl rfl rfl ?_
              refine D.i64 _ rfl rfl rfl rfl rfl (by omega) (by omega) rfl rfl ?_
              refine D.pure rfl rfl rfl rfl rfl rfl ?_
              refine D.done [(3, [], _), (6, [], _), (7, [], _), (8, [], _), (9, [], _), (13, [], _), (14, [], _), (15, [], _), (16, [], _)] ⟨rfl, rfl, rfl, rfl, rfl, rfl, rfl, rfl, rfl, trivial⟩ (hR _ _ _ rfl ?_); clear hR R
              refine G.again (m' := i - (k + 1)) (by omega) (by (repeat (first | exact Mem.le.refl _ | assumption | (apply Mem.le.trans; rotate_left; assumption)))) (fr' := [(3, [], _), (6, [], _), (7, [], _), (8, [], _), (9, [], _), (13, [], _), (14, [], _), (15, [], _), (16, [], _)]) ⟨rfl, rfl, rfl, rfl, rfl, rfl, rfl, rfl, rfl, trivial⟩ ⟨k + 1, _, ⟨by omega, want_next hy hbb (by simp [and_assoc])⟩, rfl, rfl, rfl⟩
            · skip
              simp only [decide_eq_false_iff_not] at h136
              have hkl : i = k := by omega
              subst hkl
              have hst := want_step hx hbb
              refine G.region rfl (fun R hR => ?_)
              iterate 2 refine D.pure rfl rfl rfl rfl rfl rfl ?_
              refine D.done [(3, [], _), (6, [], _), (7, [], _), (8, [], _), (9, [], _), (13, [], _), (14, [], _), (174, [], _)] ⟨rfl, rfl, rfl, rfl, rfl, rfl, rfl, rfl, trivial⟩ (hR _ _ _ rfl ?_); clear hR R
              refine G.cond rfl (fun h174 => ?_) (fun h174 => ?_)
              · skip
                have h174' : bb = false := by simpa using h174
                rw [h174'] at hst
                refine G.region rfl (fun R hR => ?_)
                iterate 2 refine D.pure rfl rfl rfl rfl rfl rfl ?_
                refine D.buildSlice [encN i] rfl rfl rfl rfl rfl rfl rfl rfl rfl rfl rfl rfl (fun _ => rfl) (fun p177 C177 hle177 hs177 => ?_)
                refine D.append (j := 0) rfl rfl rfl rfl rfl rfl rfl rfl rfl rfl rfl hs177 rfl (by simp only [List.length_singleton, maxLen]; omega) (by simp only [List.length_singleton]; omega) (fun _ => rfl) (fun v178 => ?_)
                refine D.pure rfl rfl rfl rfl rfl rfl ?_
                refine D.done [(3, [], _), (6, [], _), (7, [], _), (8, [], _), (9, [], _), (13, [], _), (14, [], _)] ⟨rfl, rfl, rfl, rfl, rfl, rfl, rfl, trivial⟩ (hR _ _ _ rfl ?_); clear hR R
                refine G.region rfl (fun R hR => ?_)
                refine D.pure rfl rfl rfl rfl rfl rfl ?_
                refine D.i64 _ rfl rfl rfl rfl rfl (by omega) (by omega) rfl rfl ?_
                refine D.pure rfl rfl rfl rfl rfl rfl ?_
                refine D.done [(3, [], _), (6, [], _), (7, [], _), (8, [], _), (9, [], _), (13, [], _), (14, [], _)] ⟨rfl, rfl, rfl, rfl, rfl, rfl, rfl, trivial⟩ (hR _ _ _ rfl ?_); clear hR R
                refine G.eqL (L' := [.arr v178 3 1 (wantL l (i + 1)).length ((wantL l (i + 1)).map intN)]) (by rw [hst]; simp [encN, intN]) ?_
                refine G.again (m' := l.length - (i + 1)) (by omega) (by (repeat (first | exact Mem.le.refl _ | assumption | (apply Mem.le.trans; rotate_left; assumption)))) (fr' := [(3, [], _), (6, [], _), (7, [], _), (8, [], _), (9, [], _), (13, [], _), (14, [], _)]) ⟨rfl, rfl, rfl, rfl, rfl, rfl, rfl, trivial⟩ ⟨i + 1, v178, by omega, rfl, rfl, rfl⟩
              · skip
                have h174' : bb = true := by simpa using h174
                rw [h174'] at hst
                refine G.region rfl (fun R hR => ?_)
                refine D.pure rfl rfl rfl rfl rfl rfl ?_
                refine D.i64 _ rfl rfl rfl rfl rfl (by omega) (by omega) rfl rfl ?_
                refine D.pure rfl rfl rfl rfl rfl rfl ?_
                refine D.done [(3, [], _), (6, [], _), (7, [], _), (8, [], _), (9, [], _), (13, [], _), (14, [], _)] ⟨rfl, rfl, rfl, rfl, rfl, rfl, rfl, trivial⟩ (hR _ _ _ rfl ?_); clear hR R
                refine G.eqL (L' := [.arr w 3 1 (wantL l (i + 1)).length ((wantL l (i + 1)).map intN)]) (by rw [hst]; simp) ?_
                refine G.again (m' := l.length - (i + 1)) (by omega) (by (repeat (first | exact Mem.le.refl _ | assumption | (apply Mem.le.trans; rotate_left; assumption)))) (fr' := [(3, [], _), (6, [], _), (7, [], _), (8, [], _), (9, [], _), (13, [], _), (14, [], _)]) ⟨rfl, rfl, rfl, rfl, rfl, rfl, rfl, trivial⟩ ⟨i + 1, w, by omega, rfl, rfl, rfl⟩
          · skip
            simp only [decide_eq_false_iff_not] at h103
            have hil : i = l.length := by omega
            subst hil
            refine G.eqL (L' := [.arr w 3 1 (wantL l l.length).length ((wantL l l.length).map encN).flatten]) (by rw [nats_flat]) ?_
            refine G.freezeArr 0 ((wantL l l.length).map encN) rfl rfl (by intro r hr; obtain ⟨y, _, rfl⟩ := List.mem_map.1 hr; rfl) (by simp) (fun Cg hg hsl => ?_)
            refine G.region rfl (fun R hR => ?_)
            iterate 5 refine D.pure rfl rfl rfl rfl rfl rfl ?_
            refine D.gives (fun _ => (sameInts_t _ _ _ (wantL l l.length) (hr.mono (by (repeat (first | exact Mem.le.refl _ | assumption | (apply Mem.le.trans; rotate_left; assumption))))) (hsl.mono (by (repeat (first | exact Mem.le.refl _ | assumption | (apply Mem.le.trans; rotate_left; assumption))))) (by have := wantL_len l l.length; omega))) rfl rfl rfl rfl rfl rfl rfl rfl rfl ?_
            refine D.pickAnd rfl rfl rfl rfl rfl rfl rfl rfl ?_
            refine D.pure rfl rfl rfl rfl rfl rfl ?_
            refine D.done [(2, [], _)] ⟨rfl, trivial⟩ (hR _ _ _ rfl ?_); clear hR R
            refine G.retN (G.dropAll (G.fin1 rfl rfl ?_))
            exact ⟨rfl, rfl⟩
end Go.Proofs.Ytddjibfmnkcalaa
namespace Go.Proofs.Ytddjibfmnkcalaa
open Go Go.Jog
set_option maxRecDepth 100000

theorem posS_le : ∀ {N : List Str} {s : Str} {k : Nat}, N[k]? = some s → posS N s ≤ k
  | [], _, _, h => by simp at h
  | x :: N, s, 0, h => by simp at h; simp [posS, h]
  | x :: N, s, k + 1, h => by
    have := posS_le (N := N) (s := s) (k := k) (by simpa using h)
    unfold posS
    split <;> omega
theorem idx_early {N : List Str} {s : Str} {i : Nat} (h : N[i]? = some s) : idxS N s < (i : Int) ↔ s ∈ N.take i := by
  rw [idxS_pos (List.mem_of_getElem? h)]
  constructor
  · intro hlt
    rcases Classical.em (s ∈ N.take i) with h2 | h2
    · exact h2
    · have := posS_take h h2
      omega
  · intro h2
    obtain ⟨j, h3⟩ := List.getElem?_of_mem h2
    have hj : j < i := by have := (List.getElem?_eq_some_iff.1 h3).1; rw [List.length_take] at this; omega
    rw [List.getElem?_take, if_pos hj] at h3
    have := posS_le h3
    omega
theorem take_nodup {N : List Str} {s : Str} {i : Nat} (h : N[i]? = some s) : (N.take (i + 1)).Nodup ↔ (N.take i).Nodup ∧ s ∉ N.take i := by
  have e : N.take (i + 1) = N.take i ++ [s] := by rw [List.take_add_one, h]; rfl
  rw [e]
  constructor
  · intro h2
    rw [List.nodup_append] at h2
    exact ⟨h2.1, fun hm => h2.2.2 s hm s (by simp) rfl⟩
  · exact fun ⟨h2, h3⟩ => nodup_snoc h2 h3
def MissTo (N o : List Str) (i : Nat) : Prop := ∃ k s, k < i ∧ N[k]? = some s ∧ s ∉ o
theorem miss_next {N o : List Str} {s : Str} {i : Nat} {b b' : Bool} (h : N[i]? = some s) (hb : b = true ↔ MissTo N o i) (hb' : b' = true ↔ b = true ∨ s ∉ o) : b' = true ↔ MissTo N o (i + 1) := by
  rw [hb', hb]
  constructor
  · rintro (⟨k, t, h1, h2⟩ | h1)
    · exact ⟨k, t, by omega, h2⟩
    · exact ⟨i, s, by omega, h, h1⟩
  · rintro ⟨k, t, h1, h2, h3⟩
    rcases Nat.lt_or_ge k i with h4 | h4
    · exact .inl ⟨k, t, h4, h2, h3⟩
    · have : k = i := by omega
      subst this
      rw [h] at h2
      cases h2
      exact .inr h3
theorem idx_lt0 {o : List Str} {s : Str} : idxS o s < 0 ↔ s ∉ o := by
  unfold idxS
  split
  · rename_i h
    exact ⟨fun h2 => by omega, fun h2 => absurd h h2⟩
  · rename_i h
    exact ⟨fun _ => h, fun _ => by omega⟩
theorem bad_iff {l : List Rel} {o : List Str} {x : Rel} (hM : Made l) (hx : x ∈ l) (ha : ∀ s ∈ unitsL l, s ∈ o) : Bad o x ↔ x.kind ≠ 4 ∧ idxS o x.upper < idxS o x.lower := by
  have hm := mem_units hx
  have h1 := ha _ hm.1
  have h2 := ha _ hm.2
  unfold Bad
  rw [idxS_pos h1, idxS_pos h2, posZ, posZ, if_pos h1, if_pos h2]
  refine and_congr_right (fun _ => ⟨fun h => ?_, fun h => by omega⟩)
  have : posS o x.upper ≠ posS o x.lower := fun e => by
    have e2 := posS_inj h2 h1 e
    obtain ⟨_, _, i, j, h3, h4, h5, h6, h7⟩ := hM.2 x hx
    rw [h6, h7] at e2
    exact h5 (nameI_inj i h3 j h4 e2)
  omega

set_option maxHeartbeats 4000000 in
theorem skeeps_fn (C : Mem) (v vo : Value) (ss : List Seen) (o : List Str) (hv : Sl C 3 v (ss.map Seen.enc)) (hvo : Sl C 1 vo (o.map encS)) : Pur cx.P 8 [v, vo] C fun u _ => u = .bool true := by
  obtain ⟨A0, c0, rfl, _⟩ := id hv
  obtain ⟨Ao, co, rfl, _, hom, _⟩ := id hvo
  simp only [List.length_map] at hv hvo ⊢
  refine Fn.intro (by kernel_rfl) Try.func8 rfl 139 rfl rfl (fun w0 => ?_)
  refine G.region rfl (fun R hR => ?_)
  refine D.pure rfl rfl rfl rfl rfl rfl ?_
  refine D.done [(0, [], _), (1, [], _)] ⟨rfl, rfl, trivial⟩ (hR _ _ _ rfl ?_); clear hR R
  refine G.region rfl (fun R hR => ?_)
  refine D.callP (known_fn _) rfl rfl rfl rfl rfl rfl rfl (fun _ => rfl) (fun v15 C15 hle15 hq15 => ?_)
  obtain rfl := hq15
  iterate 3 refine D.pure rfl rfl rfl rfl rfl rfl ?_
  refine D.gives (fun _ => (fits_fn _ _ _ _)) rfl rfl rfl rfl rfl rfl rfl rfl rfl ?_
  refine D.pure rfl rfl rfl rfl rfl rfl ?_
  refine D.pickOr rfl rfl rfl rfl rfl rfl rfl rfl ?_
  iterate 4 refine D.pure rfl rfl rfl rfl rfl rfl ?_
  refine D.pickOr rfl rfl rfl rfl rfl rfl rfl rfl ?_
  refine D.done [(0, [], _), (1, [], _), (26, [], _)] ⟨rfl, rfl, rfl, trivial⟩ (hR _ _ _ rfl ?_); clear hR R
  refine G.cond rfl (fun h26 => ?_) (fun h26 => ?_)
  · skip
    refine G.region rfl (fun R hR => ?_)
    refine D.callP (known_fn _) rfl rfl rfl rfl rfl rfl rfl (fun _ => rfl) (fun v27 C27 hle27 hq27 => ?_)
    obtain rfl := hq27
    refine D.pure rfl rfl rfl rfl rfl rfl ?_
    refine D.done [(4, [], _)] ⟨rfl, trivial⟩ (hR _ _ _ rfl ?_); clear hR R
    refine G.retN (G.dropAll (G.fin1 rfl rfl ?_))
    exact ⟨rfl, rfl⟩
  · skip
    have hol : o.length ≤ 8 := by simp at h26; omega
    refine G.region rfl (fun R hR => ?_)
    refine D.pure rfl rfl rfl rfl rfl rfl ?_
    refine D.done [(0, [], _), (1, [], _), (5, [], _)] ⟨rfl, rfl, rfl, trivial⟩ (hR _ _ _ rfl ?_); clear hR R
    refine G.loop (fun fr C' L' μ => ∃ (i : Nat), (i ≤ o.length) ∧ fr = [(0, [], .slice A0 ss.length c0), (1, [], .slice Ao o.length co), (5, [], .int .i64 i)] ∧ L' = [] ∧ μ = o.length - i) (fr' := [(0, [], _), (1, [], _), (5, [], _)]) ⟨rfl, rfl, rfl, trivial⟩ ⟨0, Nat.zero_le _, rfl, rfl, rfl⟩ (fun fr C0' L0' m hle0 hI => ?_)
    obtain ⟨i, hi, rfl, rfl, rfl⟩ := hI
    refine G.region rfl (fun R hR => ?_)
    iterate 4 refine D.pure rfl rfl rfl rfl rfl rfl ?_
    refine D.done [(0, [], _), (1, [], _), (5, [], _), (31, [], _)] ⟨rfl, rfl, rfl, rfl, trivial⟩ (hR _ _ _ rfl ?_); clear hR R
    refine G.cond rfl (fun h31 => ?_) (fun h31 => ?_)
    · skip
      simp only [decide_eq_true_eq] at h31
      have hil : i < o.length := by omega
      obtain ⟨s, hs⟩ : ∃ s, o[i]? = some s := ⟨o[i], List.getElem?_eq_getElem hil⟩
      have hrs : (o.map encS)[i]? = some (encS s) := by rw [List.getElem?_map, hs]; rfl
      refine G.region rfl (fun R hR => ?_)
      iterate 2 refine D.pure rfl rfl rfl rfl rfl rfl ?_
      refine D.index0 (hvo.mono (by (repeat (first | exact Mem.le.refl _ | assumption | (apply Mem.le.trans; rotate_left; assumption))))) rfl rfl rfl rfl rfl rfl rfl rfl rfl rfl (by omega) hrs (fun _ => rfl) (fun p36 hp36 => ?_)
      refine D.loadP0 hp36 rfl rfl rfl rfl rfl rfl rfl rfl ?_
      iterate 2 refine D.pure rfl rfl rfl rfl rfl rfl ?_
      refine D.done [(0, [], _), (1, [], _), (5, [], _), (39, [], _)] ⟨rfl, rfl, rfl, rfl, trivial⟩ (hR _ _ _ rfl ?_); clear hR R
      refine G.cond rfl (fun h39 => ?_) (fun h39 => ?_)
      · skip
        refine G.region rfl (fun R hR => ?_)
        refine D.pure rfl rfl rfl rfl rfl rfl ?_
        refine D.done [(4, [], _)] ⟨rfl, trivial⟩ (hR _ _ _ rfl ?_); clear hR R
        refine G.retN (G.dropAll (G.fin1 rfl rfl ?_))
        exact ⟨rfl, rfl⟩
      · skip
        refine G.region rfl (fun R hR => ?_)
        refine D.pure rfl rfl rfl rfl rfl rfl ?_
        refine D.i64 _ rfl rfl rfl rfl rfl (by omega) (by omega) rfl rfl ?_
        refine D.pure rfl rfl rfl rfl rfl rfl ?_
        refine D.done [(0, [], _), (1, [], _), (5, [], _)] ⟨rfl, rfl, rfl, trivial⟩ (hR _ _ _ rfl ?_); clear hR R
        refine G.again (m' := o.length - (i + 1)) (by omega) (by (repeat (first | exact Mem.le.refl _ | assumption | (apply Mem.le.trans; rotate_left; assumption)))) (fr' := [(0, [], _), (1, [], _), (5, [], _)]) ⟨rfl, rfl, rfl, trivial⟩ ⟨i + 1, by omega, rfl, rfl, rfl⟩
    · skip
      simp only [decide_eq_false_iff_not] at h31
      refine G.region rfl (fun R hR => ?_)
      refine D.pure rfl rfl rfl rfl rfl rfl ?_
      refine D.callP (make_fn _ _ ss (hv.mono (by (repeat (first | exact Mem.le.refl _ | assumption | (apply Mem.le.trans; rotate_left; assumption)))))) rfl rfl rfl rfl rfl rfl rfl (fun _ => rfl) (fun v41 C41 hle41 hq41 => ?_)
      obtain ⟨l, hl⟩ : ∃ l, makeL ss = l := ⟨_, rfl⟩
      have hM : Made l := by rw [← hl]; exact made_makeL ss
      rw [hl] at hq41
      obtain ⟨Al, cl, rfl, hlc, _⟩ := id hq41
      simp only [List.length_map] at hq41 hlc
      have hl8 := hM.1
      simp only [List.length_map]
      have hN6 := hM.units
      obtain ⟨n, hn⟩ : ∃ n, (unitsL l).length = n := ⟨_, rfl⟩
      rw [hn] at hN6
      refine D.pure rfl rfl rfl rfl rfl rfl ?_
      refine D.done [(1, [], _), (6, [], _)] ⟨rfl, rfl, trivial⟩ (hR _ _ _ rfl ?_); clear hR R
      refine G.region rfl (fun R hR => ?_)
      iterate 2 refine D.pure rfl rfl rfl rfl rfl rfl ?_
      refine D.callP (keeps_fn _ _ _ l o (hq41.mono (by (repeat (first | exact Mem.le.refl _ | assumption | (apply Mem.le.trans; rotate_left; assumption))))) (by omega) hM.short (hvo.mono (by (repeat (first | exact Mem.le.refl _ | assumption | (apply Mem.le.trans; rotate_left; assumption))))) (by omega)) rfl rfl rfl rfl rfl rfl rfl (fun _ => rfl) (fun v45 C45 hle45 hq45 => ?_)
      have hkr := hq45
      obtain ⟨f, a, e, rfl⟩ : ∃ (f : Int) (a : Bool) (e : Int), v45 = .tuple #[.int .i64 f, .bool a, .int .i64 e] := by
        rcases hkr with ⟨h, _⟩ | ⟨_, _, h⟩ | ⟨_, _, _, h⟩ | ⟨_, _, _, i, x, _, _, _, h⟩ | ⟨_, _, _, _, h⟩
        · exact absurd hM.err h
        all_goals exact ⟨_, _, _, h⟩
      iterate 7 refine D.pure rfl rfl rfl rfl rfl rfl ?_
      refine D.done [(1, [], _), (6, [], _), (7, [], _), (8, [], _), (9, [], _)] ⟨rfl, rfl, rfl, rfl, rfl, trivial⟩ (hR _ _ _ rfl ?_); clear hR R
      refine G.region rfl (fun R hR => ?_)
      refine D.pure rfl rfl rfl rfl rfl rfl ?_
      refine D.done [(1, [], _), (6, [], _), (7, [], _), (8, [], _), (9, [], _), (10, [], _)] ⟨rfl, rfl, rfl, rfl, rfl, rfl, trivial⟩ (hR _ _ _ rfl ?_); clear hR R
      refine G.region rfl (fun R hR => ?_)
      refine D.pure rfl rfl rfl rfl rfl rfl ?_
      refine D.callP (lunits_fn _ _ l (hq41.mono (by (repeat (first | exact Mem.le.refl _ | assumption | (apply Mem.le.trans; rotate_left; assumption))))) (by omega)) rfl rfl rfl rfl rfl rfl rfl (fun _ => rfl) (fun v50 C50 hle50 hq50 => ?_)
      obtain ⟨An, cn, rfl, _⟩ := id hq50
      simp only [List.length_map, hn] at hq50 ⊢
      refine D.pure rfl rfl rfl rfl rfl rfl ?_
      refine D.done [(1, [], _), (6, [], _), (7, [], _), (8, [], _), (9, [], _), (10, [], _), (11, [], _)] ⟨rfl, rfl, rfl, rfl, rfl, rfl, rfl, trivial⟩ (hR _ _ _ rfl ?_); clear hR R
      refine G.region rfl (fun R hR => ?_)
      refine D.pure rfl rfl rfl rfl rfl rfl ?_
      refine D.done [(1, [], _), (6, [], _), (7, [], _), (8, [], _), (9, [], _), (10, [], _), (11, [], _), (12, [], _)] ⟨rfl, rfl, rfl, rfl, rfl, rfl, rfl, rfl, trivial⟩ (hR _ _ _ rfl ?_); clear hR R
      refine G.loop (fun fr C' L' μ => ∃ (i : Nat) (b : Bool), (i ≤ n ∧ (b = true ↔ MissTo (unitsL l) o i)) ∧ fr = [(1, [], .slice Ao o.length co), (6, [], .slice Al l.length cl), (7, [], .int .i64 f), (8, [], .bool a), (9, [], .int .i64 e), (10, [], .int .i64 (if b then 10 else 0)), (11, [], .slice An n cn), (12, [], .int .i64 i)] ∧ L' = [] ∧ μ = n - i) (fr' := [(1, [], _), (6, [], _), (7, [], _), (8, [], _), (9, [], _), (10, [], _), (11, [], _), (12, [], _)]) ⟨rfl, rfl, rfl, rfl, rfl, rfl, rfl, rfl, trivial⟩ ⟨0, false, ⟨Nat.zero_le _, by simp [MissTo]⟩, rfl, rfl, rfl⟩ (fun fr C1' L1' m hle1 hI => ?_)
      obtain ⟨i, b, ⟨hi, hb⟩, rfl, rfl, rfl⟩ := hI
      refine G.region rfl (fun R hR => ?_)
      iterate 4 refine D.pure rfl rfl rfl rfl rfl rfl ?_
      refine D.done [(1, [], _), (6, [], _), (7, [], _), (8, [], _), (9, [], _), (10, [], _), (11, [], _), (12, [], _), (54, [], _)] ⟨rfl, rfl, rfl, rfl, rfl, rfl, rfl, rfl, rfl, trivial⟩ (hR _ _ _ rfl ?_); clear hR R
      refine G.cond rfl (fun h54 => ?_) (fun h54 => ?_)
      · skip
        simp only [decide_eq_true_eq] at h54
        have hil : i < n := by omega
        obtain ⟨s, hs⟩ : ∃ s, (unitsL l)[i]? = some s := ⟨(unitsL l)[i]'(by omega), List.getElem?_eq_getElem (by omega)⟩
        have hrs : ((unitsL l).map encS)[i]? = some (encS s) := by rw [List.getElem?_map, hs]; rfl
        refine G.region rfl (fun R hR => ?_)
        iterate 3 refine D.pure rfl rfl rfl rfl rfl rfl ?_
        refine D.index0 (hq50.mono (by (repeat (first | exact Mem.le.refl _ | assumption | (apply Mem.le.trans; rotate_left; assumption))))) rfl rfl rfl rfl rfl rfl rfl rfl rfl rfl (by omega) hrs (fun _ => rfl) (fun p60 hp60 => ?_)
        refine D.loadP0 hp60 rfl rfl rfl rfl rfl rfl rfl rfl ?_
        refine D.gives2 (lindex_fn _ _ _ s (hvo.mono (by (repeat (first | exact Mem.le.refl _ | assumption | (apply Mem.le.trans; rotate_left; assumption))))) (by omega)) rfl rfl rfl rfl rfl rfl rfl (fun _ => rfl) ?_
        refine D.pure rfl rfl rfl rfl rfl rfl ?_
        refine D.done [(1, [], _), (6, [], _), (7, [], _), (8, [], _), (9, [], _), (10, [], _), (11, [], _), (12, [], _), (63, [], _)] ⟨rfl, rfl, rfl, rfl, rfl, rfl, rfl, rfl, rfl, trivial⟩ (hR _ _ _ rfl ?_); clear hR R
        refine G.cond rfl (fun h63 => ?_) (fun h63 => ?_)
        · skip
          have h63' : s ∉ o := idx_lt0.1 (by simpa using h63)
          refine G.region rfl (fun R hR => ?_)
          refine D.pure rfl rfl rfl rfl rfl rfl ?_
          refine D.done [(1, [], _), (6, [], _), (7, [], _), (8, [], _), (9, [], _), (10, [], _), (11, [], _), (12, [], _)] ⟨rfl, rfl, rfl, rfl, rfl, rfl, rfl, rfl, trivial⟩ (hR _ _ _ rfl ?_); clear hR R
          refine G.region rfl (fun R hR => ?_)
          refine D.pure rfl rfl rfl rfl rfl rfl ?_
          refine D.i64 _ rfl rfl rfl rfl rfl (by omega) (by omega) rfl rfl ?_
          refine D.pure rfl rfl rfl rfl rfl rfl ?_
          refine D.done [(1, [], _), (6, [], _), (7, [], _), (8, [], _), (9, [], _), (10, [], _), (11, [], _), (12, [], _)] ⟨rfl, rfl, rfl, rfl, rfl, rfl, rfl, rfl, trivial⟩ (hR _ _ _ rfl ?_); clear hR R
          refine G.again (m' := n - (i + 1)) (by omega) (by (repeat (first | exact Mem.le.refl _ | assumption | (apply Mem.le.trans; rotate_left; assumption)))) (fr' := [(1, [], _), (6, [], _), (7, [], _), (8, [], _), (9, [], _), (10, [], _), (11, [], _), (12, [], _)]) ⟨rfl, rfl, rfl, rfl, rfl, rfl, rfl, rfl, trivial⟩ ⟨i + 1, true, ⟨by omega, miss_next hs hb (by simp [h63'])⟩, rfl, rfl, rfl⟩
        · skip
          have h63' : ¬ s ∉ o := fun h => by have := idx_lt0.2 h; simp at h63; omega
          refine G.region rfl (fun R hR => ?_)
          refine D.pure rfl rfl rfl rfl rfl rfl ?_
          refine D.i64 _ rfl rfl rfl rfl rfl (by omega) (by omega) rfl rfl ?_
          refine D.pure rfl rfl rfl rfl rfl rfl ?_
          refine D.done [(1, [], _), (6, [], _), (7, [], _), (8, [], _), (9, [], _), (10, [], _), (11, [], _), (12, [], _)] ⟨rfl, rfl, rfl, rfl, rfl, rfl, rfl, rfl, trivial⟩ (hR _ _ _ rfl ?_); clear hR R
          refine G.again (m' := n - (i + 1)) (by omega) (by (repeat (first | exact Mem.le.refl _ | assumption | (apply Mem.le.trans; rotate_left; assumption)))) (fr' := [(1, [], _), (6, [], _), (7, [], _), (8, [], _), (9, [], _), (10, [], _), (11, [], _), (12, [], _)]) ⟨rfl, rfl, rfl, rfl, rfl, rfl, rfl, rfl, trivial⟩ ⟨i + 1, b, ⟨by omega, miss_next hs hb (by simp [h63'])⟩, rfl, rfl, rfl⟩
      · skip
        simp only [decide_eq_false_iff_not] at h54
        have hil : n = i := by omega
        subst hil
        have hbb : b = true ↔ ∃ s ∈ unitsL l, s ∉ o := by
          rw [hb]
          constructor
          · rintro ⟨k, s, _, h2, h3⟩; exact ⟨s, List.mem_of_getElem? h2, h3⟩
          · rintro ⟨s, h1, h2⟩
            obtain ⟨k, h3⟩ := List.getElem?_of_mem h1
            exact ⟨k, s, by rw [← hn]; exact (List.getElem?_eq_some_iff.1 h3).1, h3, h2⟩
        obtain ⟨w0', hw0⟩ : ∃ w0' : Int, (if b then 10 else 0) = w0' := ⟨_, rfl⟩
        refine G.region rfl (fun R hR => ?_)
        refine D.pure rfl rfl rfl rfl rfl rfl ?_
        refine D.done [(1, [], _), (6, [], _), (7, [], _), (8, [], _), (9, [], _), (10, [], _), (13, [], _)] ⟨rfl, rfl, rfl, rfl, rfl, rfl, rfl, trivial⟩ (hR _ _ _ rfl ?_); clear hR R
        refine G.loop (fun fr C' L' μ => ∃ (i : Nat) (w : Int), (i ≤ o.length ∧ ((¬ (o.take i).Nodup ∧ w = 9) ∨ ((o.take i).Nodup ∧ w = if b then 10 else 0))) ∧ fr = [(1, [], .slice Ao o.length co), (6, [], .slice Al l.length cl), (7, [], .int .i64 f), (8, [], .bool a), (9, [], .int .i64 e), (10, [], .int .i64 w), (13, [], .int .i64 i)] ∧ L' = [] ∧ μ = o.length - i) (fr' := [(1, [], _), (6, [], _), (7, [], _), (8, [], _), (9, [], _), (10, [], _), (13, [], _)]) ⟨rfl, rfl, rfl, rfl, rfl, rfl, rfl, trivial⟩ ⟨0, _, ⟨Nat.zero_le _, .inr ⟨by simp, rfl⟩⟩, rfl, rfl, rfl⟩ (fun fr C2' L2' m hle2 hI => ?_)
        obtain ⟨i, w, ⟨hi, hw⟩, rfl, rfl, rfl⟩ := hI
        refine G.region rfl (fun R hR => ?_)
        iterate 4 refine D.pure rfl rfl rfl rfl rfl rfl ?_
        refine D.done [(1, [], _), (6, [], _), (7, [], _), (8, [], _), (9, [], _), (10, [], _), (13, [], _), (67, [], _)] ⟨rfl, rfl, rfl, rfl, rfl, rfl, rfl, rfl, trivial⟩ (hR _ _ _ rfl ?_); clear hR R
        refine G.cond rfl (fun h67 => ?_) (fun h67 => ?_)
        · skip
          simp only [decide_eq_true_eq] at h67
          have hil : i < o.length := by omega
          obtain ⟨s, hs⟩ : ∃ s, o[i]? = some s := ⟨o[i], List.getElem?_eq_getElem hil⟩
          have hrs : (o.map encS)[i]? = some (encS s) := by rw [List.getElem?_map, hs]; rfl
          have htn := take_nodup hs
          refine G.region rfl (fun R hR => ?_)
          iterate 3 refine D.pure rfl rfl rfl rfl rfl rfl ?_
          refine D.index0 (hvo.mono (by (repeat (first | exact Mem.le.refl _ | assumption | (apply Mem.le.trans; rotate_left; assumption))))) rfl rfl rfl rfl rfl rfl rfl rfl rfl rfl (by omega) hrs (fun _ => rfl) (fun p73 hp73 => ?_)
          refine D.loadP0 hp73 rfl rfl rfl rfl rfl rfl rfl rfl ?_
          refine D.gives2 (lindex_fn _ _ _ s (hvo.mono (by (repeat (first | exact Mem.le.refl _ | assumption | (apply Mem.le.trans; rotate_left; assumption))))) (by omega)) rfl rfl rfl rfl rfl rfl rfl (fun _ => rfl) ?_
          iterate 2 refine D.pure rfl rfl rfl rfl rfl rfl ?_
          refine D.done [(1, [], _), (6, [], _), (7, [], _), (8, [], _), (9, [], _), (10, [], _), (13, [], _), (77, [], _)] ⟨rfl, rfl, rfl, rfl, rfl, rfl, rfl, rfl, trivial⟩ (hR _ _ _ rfl ?_); clear hR R
          refine G.cond rfl (fun h77 => ?_) (fun h77 => ?_)
          · skip
            have h77' : s ∈ o.take i := (idx_early hs).1 (by simpa using h77)
            refine G.region rfl (fun R hR => ?_)
            refine D.pure rfl rfl rfl rfl rfl rfl ?_
            refine D.done [(1, [], _), (6, [], _), (7, [], _), (8, [], _), (9, [], _), (10, [], _), (13, [], _)] ⟨rfl, rfl, rfl, rfl, rfl, rfl, rfl, trivial⟩ (hR _ _ _ rfl ?_); clear hR R
            refine G.region rfl (fun R hR => ?_)
            refine D.pure rfl rfl rfl rfl rfl rfl ?_
            refine D.i64 _ rfl rfl rfl rfl rfl (by omega) (by omega) rfl rfl ?_
            refine D.pure rfl rfl rfl rfl rfl rfl ?_
            refine D.done [(1, [], _), (6, [], _), (7, [], _), (8, [], _), (9, [], _), (10, [], _), (13, [], _)] ⟨rfl, rfl, rfl, rfl, rfl, rfl, rfl, trivial⟩ (hR _ _ _ rfl ?_); clear hR R
            refine G.again (m' := o.length - (i + 1)) (by omega) (by (repeat (first | exact Mem.le.refl _ | assumption | (apply Mem.le.trans; rotate_left; assumption)))) (fr' := [(1, [], _), (6, [], _), (7, [], _), (8, [], _), (9, [], _), (10, [], _), (13, [], _)]) ⟨rfl, rfl, rfl, rfl, rfl, rfl, rfl, trivial⟩ ⟨i + 1, 9, ⟨by omega, .inl ⟨fun h => (htn.1 h).2 h77', rfl⟩⟩, rfl, rfl, rfl⟩
          · skip
            have h77' : s ∉ o.take i := fun h => by have := (idx_early hs).2 h; simp at h77; omega
            refine G.region rfl (fun R hR => ?_)
            refine D.pure rfl rfl rfl rfl rfl rfl ?_
            refine D.i64 _ rfl rfl rfl rfl rfl (by omega) (by omega) rfl rfl ?_
            refine D.pure rfl rfl rfl rfl rfl rfl ?_
            refine D.done [(1, [], _), (6, [], _), (7, [], _), (8, [], _), (9, [], _), (10, [], _), (13, [], _)] ⟨rfl, rfl, rfl, rfl, rfl, rfl, rfl, trivial⟩ (hR _ _ _ rfl ?_); clear hR R
            refine G.again (m' := o.length - (i + 1)) (by omega) (by (repeat (first | exact Mem.le.refl _ | assumption | (apply Mem.le.trans; rotate_left; assumption)))) (fr' := [(1, [], _), (6, [], _), (7, [], _), (8, [], _), (9, [], _), (10, [], _), (13, [], _)]) ⟨rfl, rfl, rfl, rfl, rfl, rfl, rfl, trivial⟩ ⟨i + 1, w, ⟨by omega, hw.elim (fun h => .inl ⟨fun h2 => h.1 (htn.1 h2).1, h.2⟩) (fun h => .inr ⟨htn.2 ⟨h.1, h77'⟩, h.2⟩)⟩, rfl, rfl, rfl⟩
        · skip
          simp only [decide_eq_false_iff_not] at h67
          have hil : i = o.length := by omega
          subst hil
          rw [List.take_length] at hw
          refine G.region rfl (fun R hR => ?_)
          iterate 2 refine D.pure rfl rfl rfl rfl rfl rfl ?_
          refine D.done [(1, [], _), (6, [], _), (7, [], _), (8, [], _), (9, [], _), (10, [], _), (79, [], _)] ⟨rfl, rfl, rfl, rfl, rfl, rfl, rfl, trivial⟩ (hR _ _ _ rfl ?_); clear hR R
          refine G.cond rfl (fun h79 => ?_) (fun h79 => ?_)
          · skip
            have h79' : w ≠ 0 := by simpa using h79
            refine G.region rfl (fun R hR => ?_)
            iterate 5 refine D.pure rfl rfl rfl rfl rfl rfl ?_
            refine D.pickAnd rfl rfl rfl rfl rfl rfl rfl rfl ?_
            iterate 4 refine D.pure rfl rfl rfl rfl rfl rfl ?_
            refine D.pickAnd rfl rfl rfl rfl rfl rfl rfl rfl ?_
            refine D.pure rfl rfl rfl rfl rfl rfl ?_
            refine D.done [(4, [], _)] ⟨rfl, trivial⟩ (hR _ _ _ rfl ?_); clear hR R
            refine G.retN (G.dropAll (G.fin1 rfl rfl ?_))
            refine ⟨rfl, ?_⟩
            have : f = 0 ∧ a = false ∧ e = w := by
              rcases hkr with ⟨h, _⟩ | ⟨_, h1, h⟩ | ⟨_, h1, h2, h⟩ | ⟨_, h1, h2, i, x, _, _, _, h⟩ | ⟨_, h1, h2, _, h⟩
              · exact absurd hM.err h
              · cases h
                rcases hw with ⟨_, h3⟩ | ⟨h3, _⟩
                · exact ⟨rfl, rfl, h3.symm⟩
                · exact absurd h3 h1
              · cases h
                rcases hw with ⟨h3, _⟩ | ⟨_, h3⟩
                · exact absurd h1 h3
                · rw [if_pos (hbb.2 h2)] at h3
                  exact ⟨rfl, rfl, h3.symm⟩
              all_goals
                exfalso
                rcases hw with ⟨h3, _⟩ | ⟨_, h3⟩
                · exact h3 h1
                · rw [if_neg (fun h4 => by obtain ⟨s, h5, h6⟩ := hbb.1 h4; exact h6 (h2 s h5))] at h3
                  exact h79' h3
            obtain ⟨rfl, rfl, rfl⟩ := this
            simp
          · skip
            have h79' : w = 0 := by simpa using h79
            subst h79'
            obtain ⟨hnd, hall⟩ : o.Nodup ∧ ∀ s ∈ unitsL l, s ∈ o := by
              rcases hw with ⟨_, h3⟩ | ⟨h1, h3⟩
              · cases h3
              · refine ⟨h1, fun s hs => ?_⟩
                rcases Classical.em (s ∈ o) with h4 | h4
                · exact h4
                · rw [if_pos (hbb.2 ⟨s, hs, h4⟩)] at h3
                  cases h3
            have hk2 : (∃ i x, l[i]? = some x ∧ Bad o x ∧ (∀ y ∈ l.take i, ¬ Bad o y) ∧ f = i ∧ a = false ∧ e = 0) ∨ ((∀ y ∈ l, ¬ Bad o y) ∧ f = 0 ∧ a = true ∧ e = 0) := by
              rcases hkr with ⟨h, _⟩ | ⟨_, h1, h⟩ | ⟨_, h1, ⟨s, h2, h3⟩, h⟩ | ⟨_, h1, h2, i, x, h3, h4, h5, h⟩ | ⟨_, h1, h2, h3, h⟩
              · exact absurd hM.err h
              · exact absurd hnd h1
              · exact absurd (hall s h2) h3
              · cases h; exact .inl ⟨i, x, h3, h4, h5, rfl, rfl, rfl⟩
              · cases h; exact .inr ⟨h3, rfl, rfl, rfl⟩
            refine G.region rfl (fun R hR => ?_)
            refine D.pure rfl rfl rfl rfl rfl rfl ?_
            refine D.done [(1, [], _), (6, [], _), (7, [], _), (8, [], _), (9, [], _), (14, [], _)] ⟨rfl, rfl, rfl, rfl, rfl, rfl, trivial⟩ (hR _ _ _ rfl ?_); clear hR R
            refine G.loop (fun fr C' L' μ => ∃ (i : Nat), (i ≤ l.length ∧ ∀ y ∈ l.take i, ¬ Bad o y) ∧ fr = [(1, [], .slice Ao o.length co), (6, [], .slice Al l.length cl), (7, [], .int .i64 f), (8, [], .bool a), (9, [], .int .i64 e), (14, [], .int .i64 i)] ∧ L' = [] ∧ μ = l.length - i) (fr' := [(1, [], _), (6, [], _), (7, [], _), (8, [], _), (9, [], _), (14, [], _)]) ⟨rfl, rfl, rfl, rfl, rfl, rfl, trivial⟩ ⟨0, ⟨Nat.zero_le _, by simp⟩, rfl, rfl, rfl⟩ (fun fr C3' L3' m hle3 hI => ?_)
            obtain ⟨i, ⟨hi, hno⟩, rfl, rfl, rfl⟩ := hI
            refine G.region rfl (fun R hR => ?_)
            iterate 4 refine D.pure rfl rfl rfl rfl rfl rfl ?_
            refine D.done [(1, [], _), (6, [], _), (7, [], _), (8, [], _), (9, [], _), (14, [], _), (94, [], _)] ⟨rfl, rfl, rfl, rfl, rfl, rfl, rfl, trivial⟩ (hR _ _ _ rfl ?_); clear hR R
            refine G.cond rfl (fun h94 => ?_) (fun h94 => ?_)
            · skip
              simp only [decide_eq_true_eq] at h94
              have hil : i < l.length := by omega
              obtain ⟨x, hx⟩ : ∃ x, l[i]? = some x := ⟨l[i], List.getElem?_eq_getElem hil⟩
              have hrx : (l.map Rel.enc)[i]? = some x.enc := by rw [List.getElem?_map, hx]; rfl
              have hbx := bad_iff (o := o) hM (List.mem_of_getElem? hx) hall
              refine G.draw [0, 1, 2, 3, 4, 5, 6, 7, 8, 9, 10, 11, 12, 13, 14, 15, 16, 17, 18, 19, 20, 21] [(4, 1)] rfl (by kernel_rfl) (fun R hB hR => ?_)
              iterate 2 refine D.pure rfl rfl rfl rfl rfl rfl ?_
              refine D.index0 (hq41.mono (by (repeat (first | exact Mem.le.refl _ | assumption | (apply Mem.le.trans; rotate_left; assumption))))) rfl rfl rfl rfl rfl rfl rfl rfl rfl rfl (by omega) hrx (fun _ => rfl) (fun p99 hp99 => ?_)
              refine D.loadP0 hp99 rfl rfl rfl rfl rfl rfl rfl rfl ?_
              refine D.gives (fun _ => (larc_fn _ x)) rfl rfl rfl rfl rfl rfl rfl rfl rfl ?_
              iterate 4 refine D.pure rfl rfl rfl rfl rfl rfl ?_
              refine D.index rfl rfl rfl rfl rfl rfl rfl rfl rfl rfl (fun hg => ⟨(hq41.mono (by (repeat (first | exact Mem.le.refl _ | assumption | (apply Mem.le.trans; rotate_left; assumption))))), by omega, hrx⟩) (fun _ => rfl) rfl (fun p106 hp106 => ?_)
              refine D.fieldP rfl rfl rfl rfl rfl rfl rfl rfl rfl rfl hp106 (fun _ => rfl) rfl (fun p107 hp107 => ?_)
              refine D.loadP rfl rfl rfl rfl rfl rfl hp107 rfl rfl rfl ?_
              refine D.gives (fun _ => (lindex_fn _ _ _ x.upper (hvo.mono (by (repeat (first | exact Mem.le.refl _ | assumption | (apply Mem.le.trans; rotate_left; assumption))))) (by omega))) rfl rfl rfl rfl rfl rfl rfl rfl rfl ?_
              iterate 3 refine D.pure rfl rfl rfl rfl rfl rfl ?_
              refine D.index rfl rfl rfl rfl rfl rfl rfl rfl rfl rfl (fun hg => ⟨(hq41.mono (by (repeat (first | exact Mem.le.refl _ | assumption | (apply Mem.le.trans; rotate_left; assumption))))), by omega, hrx⟩) (fun _ => rfl) rfl (fun p113 hp113 => ?_)
              refine D.fieldP rfl rfl rfl rfl rfl rfl rfl rfl rfl rfl hp113 (fun _ => rfl) rfl (fun p114 hp114 => ?_)
              refine D.loadP rfl rfl rfl rfl rfl rfl hp114 rfl rfl rfl ?_
              refine D.gives (fun _ => (lindex_fn _ _ _ x.lower (hvo.mono (by (repeat (first | exact Mem.le.refl _ | assumption | (apply Mem.le.trans; rotate_left; assumption))))) (by omega))) rfl rfl rfl rfl rfl rfl rfl rfl rfl ?_
              refine D.pure rfl rfl rfl rfl rfl rfl ?_
              refine D.pickAnd rfl rfl rfl rfl rfl rfl rfl rfl ?_
              refine D.done [(1, [], _), (6, [], _), (7, [], _), (8, [], _), (9, [], _), (14, [], _), (118, [], _)] ⟨rfl, rfl, rfl, rfl, rfl, rfl, rfl, trivial⟩ (hR _ _ _ rfl ?_); clear hR hB R
              refine G.cond rfl (fun h118 => ?_) (fun h118 => ?_)
              · skip
                have h118' : Bad o x := hbx.2 (by simpa using h118)
                refine G.region rfl (fun R hR => ?_)
                iterate 6 refine D.pure rfl rfl rfl rfl rfl rfl ?_
                refine D.pickAnd rfl rfl rfl rfl rfl rfl rfl rfl ?_
                iterate 3 refine D.pure rfl rfl rfl rfl rfl rfl ?_
                refine D.pickAnd rfl rfl rfl rfl rfl rfl rfl rfl ?_
                refine D.pure rfl rfl rfl rfl rfl rfl ?_
                refine D.done [(4, [], _)] ⟨rfl, trivial⟩ (hR _ _ _ rfl ?_); clear hR R
                refine G.retN (G.dropAll (G.fin1 rfl rfl ?_))
                refine ⟨rfl, ?_⟩
                have : f = i ∧ a = false ∧ e = 0 := by
                  rcases hk2 with ⟨j, y, h1, h2, h3, h4⟩ | ⟨h1, _⟩
                  · have : j = i := by
                      rcases Nat.lt_trichotomy j i with h | h | h
                      · exact absurd h2 (hno y (List.mem_of_getElem? (i := j) (by rw [List.getElem?_take, if_pos h]; exact h1)))
                      · exact h
                      · exact absurd h118' (h3 x (List.mem_of_getElem? (i := i) (by rw [List.getElem?_take, if_pos h]; exact hx)))
                    subst this
                    exact h4
                  · exact absurd h118' (h1 x (List.mem_of_getElem? hx))
                obtain ⟨rfl, rfl, rfl⟩ := this
                simp
              · skip
                have h118' : ¬ Bad o x := fun h => by have := hbx.1 h; simp [this.1, this.2] at h118
                refine G.region rfl (fun R hR => ?_)
                refine D.pure rfl rfl rfl rfl rfl rfl ?_
                refine D.i64 _ rfl rfl rfl rfl rfl (by omega) (by omega) rfl rfl ?_
                refine D.pure rfl rfl rfl rfl rfl rfl ?_
                refine D.done [(1, [], _), (6, [], _), (7, [], _), (8, [], _), (9, [], _), (14, [], _)] ⟨rfl, rfl, rfl, rfl, rfl, rfl, trivial⟩ (hR _ _ _ rfl ?_); clear hR R
                refine G.again (m' := l.length - (i + 1)) (by omega) (by (repeat (first | exact Mem.le.refl _ | assumption | (apply Mem.le.trans; rotate_left; assumption)))) (fr' := [(1, [], _), (6, [], _), (7, [], _), (8, [], _), (9, [], _), (14, [], _)]) ⟨rfl, rfl, rfl, rfl, rfl, rfl, trivial⟩ ⟨i + 1, ⟨by omega, fun y hy => by
                  rw [show l.take (i + 1) = l.take i ++ [x] by rw [List.take_add_one, hx]; rfl, List.mem_append] at hy
                  rcases hy with h | h
                  · exact hno y h
                  · simp only [List.mem_singleton] at h; subst h; exact h118'⟩, rfl, rfl, rfl⟩
            · skip
              simp only [decide_eq_false_iff_not] at h94
              have hil : i = l.length := by omega
              subst hil
              rw [List.take_length] at hno
              refine G.region rfl (fun R hR => ?_)
              iterate 5 refine D.pure rfl rfl rfl rfl rfl rfl ?_
              refine D.pickAnd rfl rfl rfl rfl rfl rfl rfl rfl ?_
              iterate 2 refine D.pure rfl rfl rfl rfl rfl rfl ?_
              refine D.pickAnd rfl rfl rfl rfl rfl rfl rfl rfl ?_
              refine D.pure rfl rfl rfl rfl rfl rfl ?_
              refine D.done [(4, [], _)] ⟨rfl, trivial⟩ (hR _ _ _ rfl ?_); clear hR R
              refine G.retN (G.dropAll (G.fin1 rfl rfl ?_))
              refine ⟨rfl, ?_⟩
              have : f = 0 ∧ a = true ∧ e = 0 := by
                rcases hk2 with ⟨j, y, h1, h2, h3, h4⟩ | ⟨_, h⟩
                · exact absurd h2 (hno y (List.mem_of_getElem? h1))
                · exact h
              obtain ⟨rfl, rfl, rfl⟩ := this
              simp
end Go.Proofs.Ytddjibfmnkcalaa
namespace Go.Proofs.Ytddjibfmnkcalaa
open Go Go.Jog Go.ChangeShapes Go.WideShapes Go.ChangeAt Go.RowKit
set_option maxRecDepth 100000

namespace lawSuccessionKeeps
theorem laid_met (os : Os) (args : Array Value) : laidMetH Try.prog Rows.successionKeepsRow.laid ((laidWorld os).forCall (fun _ _ => 0) ⟨#[], args, []⟩).memory :=
  laidMet_of_run' 8 (by kernel_rfl) (by kernel_rfl)
theorem contract (H : Type) (enc : TypeId × Value → H) (W : World) (base : Nat) (args : Array Value) (ds gs : List (DataW H)) (before : List MemPlace)
    (hval : ∀ (j : Nat) t v, Try.f8.params[j]? = some t → args[j]? = some v → Value.okWide Try.prog W .any base t v)
    (hW : DataW.Whole enc Try.prog Try.f8.params.toList Rows.successionKeepsSpec.vars false W args.toList ds gs before) (hsh : W.ShapedOpen Try.prog) :
    Calls Try.prog 8 args W fun e W' => ∃ v, e = .returned v ∧ Rows.successionKeepsSpec.post enc Try.prog Try.f8 false true false false W args v W' := by
  have hW' := hW
  obtain ⟨p, q, hA0, hV, rfl, hfz, hnd⟩ := hW
  have hA : DataW.TrodAll enc Try.prog W 0 (fun _ => true) true Try.f8.params.toList args.toList ds p := hA0
  rw [Try.params8] at hA hval
  obtain ⟨v0, vs0, d0, ds0, p0, q0, hargs0, rfl, rfl, h0, r0⟩ := trodAll_cons hA
  obtain ⟨v1, vs1, d1, ds1, p1, q1, hargs1, rfl, rfl, h1, r1⟩ := trodAll_cons r0
  obtain ⟨rfl, rfl, rfl⟩ := trodAll_nil r1
  obtain rfl : args = #[v0, v1] := by cases args; simp_all
  obtain ⟨rfl, rfl⟩ := trodVars_none hV
  obtain ⟨a0, len0, cap0, rfl⟩ := okWide_slice Try.underlying22 (hval 0 22 v0 rfl rfl)
  obtain ⟨l0, hl0⟩ : ∃ l : List Seen, Sl (memOf W) 3 (.slice a0 len0 cap0) (l.map Seen.enc) := by
    obtain ⟨n, hn⟩ := (id h0)
    exact seens_of hn
  obtain ⟨a1, len1, cap1, rfl⟩ := okWide_slice Try.underlying37 (hval 1 37 v1 rfl rfl)
  obtain ⟨l1, hl1⟩ : ∃ l : List Str, Sl (memOf W) 1 (.slice a1 len1 cap1) (l.map encS) := by
    obtain ⟨n, hn⟩ := (id h1)
    exact strs_of hn
  simp only [List.append_nil] at hW'
  have hlt0 : ∀ x ∈ p0, x.block < W.heap.size := fun x hx => hW'.lt x (by simp [hx])
  have hlt1 : ∀ x ∈ p1, x.block < W.heap.size := fun x hx => hW'.lt x (by simp [hx])
  have main := gives_below (gives_of (skeeps_fn (memOf W) _ _ l0 l1 hl0 hl1))
  refine Calls.mono main fun e W' ⟨he, hb⟩ => ?_
  subst he
  refine ⟨_, rfl, post_of_below (pa := p0 ++ (p1 ++ ([]))) (pv := []) hW' (fun _ _ _ => trodAll_cons_mk (shut_bool Try.underlying4 _) trodAll_mk0) (fun sp hsp => ?_) (fun _ _ => rfl) (by simp) hb (ok_one (by kernel_rfl) rfl (okWide_bool_mk Try.underlying4 _))⟩
  exact trodAll_cons_mk (WideElems.Trod_stays laidOut' (by kernel_rfl) (of_decide_eq_true (by kernel_rfl)) h0 (fun x hx => hb.same (hlt0 x hx)) (fun x hx => hsp x (by simp [hx]))) (trodAll_cons_mk (WideElems.Trod_stays laidOut' (by kernel_rfl) (of_decide_eq_true (by kernel_rfl)) h1 (fun x hx => hb.same (hlt1 x hx)) (fun x hx => hsp x (by simp [hx]))) (trodAll_mk0))

theorem reads (os : Os) {H : Type} (enc : TypeId × Value → H) : ∃ places, DataW.whole enc Try.prog ((laidWorld os).forCall (fun _ _ => 0) ⟨#[], #[.slice none 0 0, .slice none 0 0], []⟩).memory Try.f8.params.toList Rows.successionKeepsSpec.vars false (#[.slice none 0 0, .slice none 0 0] : Array Value).toList 8 = some ([.nil, .nil], [], places) :=
  ⟨[], by kernel_rfl⟩

theorem lifted (os : Os) (started : os.Started) (H : Type) (enc : TypeId × Value → H) (F : Stop.Interp) :
    ReturnsInHanded {} Try.checked os 8 .any ((OpenSpec.ofChange Rows.successionKeepsSpec).preRow enc Try.prog Try.f8 Rows.successionKeepsRow.domain false Rows.successionKeepsRow.laid) (((OpenSpec.ofChange Rows.successionKeepsSpec).at F).post enc Try.prog Try.f8 false true false false) := by
  obtain ⟨places, hx⟩ := reads os enc
  refine returnsInHanded_of_row (C := Try.checked) (s := OpenSpec.ofChange Rows.successionKeepsSpec) own started (by kernel_rfl) Try.func8
    (witness_row_at (enc := enc) (C := Try.checked) false (laidWorld os) #[.slice none 0 0, .slice none 0 0] rfl (by kernel_rfl) (by kernel_rfl) (by kernel_rfl)
      (OpenSpec.preRow_of_cond 8 hx (by kernel_rfl) (fun k hk => by cases hk) (by kernel_rfl) (laid_met os _))) ?_
  intro W base args ds gs before hval hW _ _ _ hL hsh _
  exact contract H enc W base args ds gs before hval hW hsh

theorem said : Rows.SuccessionKeepsSaid :=
  OpenClaim.holds_of_cond 8 Try.f8 rfl rfl rfl rfl rfl rfl rfl ⟨rfl, rfl, rfl, rfl, rfl⟩ rfl rfl rfl rfl rfl (by kernel_rfl) Try.func8 (by kernel_rfl)
    (of_decide_eq_true (by kernel_rfl)) (by unfold Func.isWrapper; first | (rw [if_pos (by decide +kernel)]; kernel_rfl) | (rw [if_neg (by decide +kernel)]; exact ⟨rfl, rfl⟩))
    (fun os started H enc _ F => by rw [OpenClaim.pre_eq_preRow]; exact lifted os started H enc F)

end lawSuccessionKeeps

/-- FOR ANY DESCRIPTIONS AND ANY LIST OF NAMES SuccessionKeeps ANSWERS true, and leaves them as they were. -/
theorem successionKeeps_said : Rows.SuccessionKeepsSaid := lawSuccessionKeeps.said
#print axioms successionKeeps_said
end Go.Proofs.Ytddjibfmnkcalaa
