/- Laws that the proofs of this seat share, part 10. -/
import Derived.Test.YtcghlfepfcagbaaGreatG9
import Derived.Test.YtcghlfepfcagbaaGreatShelf
import Derived.Test.YtcghlfepfcagbaaGreatRows
import Derived.Lib.LaidTab
import Derived.Carry
import Derived.Deep.Strs
namespace Go.Proofs.YtcghlfepfcagbaaGreat
open Go Go.Jog
set_option maxRecDepth 100000

theorem pathsL_len {l : List Rel} (hl : l.length ≤ 8) (s t : Str) {n : Nat} (hn : n ≤ 8) : (pathsL l s t n).length ≤ 16777216 := by
  have h1 := List.length_filter_le (fun x => decide (endL l s x = t)) (simpL l s n)
  have h2 := simpL_len hl s n
  have h3 : (8 : Nat) ^ n ≤ 16777216 := Nat.le_trans (Nat.pow_le_pow_right (by decide) hn) (by decide)
  unfold pathsL; omega
theorem throughL_len {l : List Rel} (hl : l.length ≤ 8) (i : Nat) {n : Nat} (hn : n ≤ 8) : (throughL l i n).length ≤ 16777216 := by
  unfold throughL
  split
  · exact Nat.le_trans (List.length_filter_le _ _) (pathsL_len hl _ _ hn)
  · simp
set_option maxHeartbeats 2000000 in
theorem lthrough_fn (C : Mem) (v : Value) (l : List Rel) (i n : Nat) (hv : Sl C 3 v (l.map Rel.enc)) (hl : l.length ≤ 8) (hi : i < l.length) (hn1 : 1 ≤ n) (hn : n ≤ 8) :
    Pur cx.P 26 [v, .int .i64 i, .int .i64 n] C fun r C' => LL C' r (throughL l i n) := by
  obtain ⟨A, c, rfl, _⟩ := id hv
  simp only [List.length_map] at hv ⊢
  obtain ⟨x, hx⟩ : ∃ x, l[i]? = some x := ⟨l[i], List.getElem?_eq_getElem hi⟩
  have hrx : (l.map Rel.enc)[i]? = some x.enc := by rw [List.getElem?_map, hx]; rfl
  have hlx : lowOf l i = x.lower := by unfold lowOf; rw [hx]
  refine Fn.intro (by kernel_rfl) Tryz.func26 rfl 45 rfl rfl (fun w0 => ?_)
  refine G.region rfl (fun R hR => ?_)
  refine D.pure rfl rfl rfl rfl rfl rfl ?_
  refine D.done [(0, [], _), (1, [], _), (2, [], _)] ⟨rfl, rfl, rfl, trivial⟩ (hR _ _ _ rfl ?_); clear hR R
  refine G.region rfl (fun R hR => ?_)
  refine D.pure rfl rfl rfl rfl rfl rfl ?_
  refine D.done [(0, [], _), (1, [], _), (2, [], _), (7, [], _)] ⟨rfl, rfl, rfl, rfl, trivial⟩ (hR _ _ _ rfl ?_); clear hR R
  refine G.region rfl (fun R hR => ?_)
  iterate 2 refine D.pure rfl rfl rfl rfl rfl rfl ?_
  refine D.index0 (hv.mono (by (repeat (first | exact Mem.le.refl _ | assumption | (apply Mem.le.trans; rotate_left; assumption))))) rfl rfl rfl rfl rfl rfl rfl rfl rfl rfl (by omega) hrx (fun _ => rfl) (fun p12 hp12 => ?_)
  refine D.loadP0 hp12 rfl rfl rfl rfl rfl rfl rfl rfl ?_
  refine D.gives2 (arc_fn _ x) rfl rfl rfl rfl rfl rfl rfl (fun _ => rfl) ?_
  refine D.pure rfl rfl rfl rfl rfl rfl ?_
  refine D.done [(0, [], _), (1, [], _), (2, [], _), (7, [], _), (15, [], _)] ⟨rfl, rfl, rfl, rfl, rfl, trivial⟩ (hR _ _ _ rfl ?_); clear hR R
  refine G.cond rfl (fun h15 => ?_) (fun h15 => ?_)
  · skip
    have h15' : arcB l i = false := by rw [arcB_at hx]; simpa using h15
    refine G.region rfl (fun R hR => ?_)
    refine D.pure rfl rfl rfl rfl rfl rfl ?_
    refine D.done [(6, [], _)] ⟨rfl, trivial⟩ (hR _ _ _ rfl ?_); clear hR R
    refine G.retN (G.dropAll (G.fin1 rfl rfl ?_))
    exact ⟨rfl, by unfold throughL; rw [if_neg (by rw [h15']; simp)]; exact LL.nil _⟩
  · skip
    have h15' : arcB l i = true := by rw [arcB_at hx]; simpa using h15
    have hth : throughL l i n = (pathsL l x.lower x.lower n).filter (headB i) := by unfold throughL; rw [if_pos h15', hlx]
    refine G.draw [0, 1, 2, 3, 4, 5, 6, 7, 8, 9, 10, 11, 14, 12, 13] [] rfl (by kernel_rfl) (fun R hB hR => ?_)
    iterate 3 refine D.pure rfl rfl rfl rfl rfl rfl ?_
    refine D.index0 (hv.mono (by (repeat (first | exact Mem.le.refl _ | assumption | (apply Mem.le.trans; rotate_left; assumption))))) rfl rfl rfl rfl rfl rfl rfl rfl rfl rfl (by omega) hrx (fun _ => rfl) (fun p19 hp19 => ?_)
    refine D.fieldP0 hp19 rfl rfl rfl rfl rfl rfl rfl rfl rfl rfl (fun _ => rfl) (fun p20 hp20 => ?_)
    refine D.loadP0 hp20 rfl rfl rfl rfl rfl rfl rfl rfl ?_
    iterate 2 refine D.pure rfl rfl rfl rfl rfl rfl ?_
    refine D.index0 (hv.mono (by (repeat (first | exact Mem.le.refl _ | assumption | (apply Mem.le.trans; rotate_left; assumption))))) rfl rfl rfl rfl rfl rfl rfl rfl rfl rfl (by omega) hrx (fun _ => rfl) (fun p24 hp24 => ?_)
    refine D.fieldP0 hp24 rfl rfl rfl rfl rfl rfl rfl rfl rfl rfl (fun _ => rfl) (fun p25 hp25 => ?_)
    refine D.loadP0 hp25 rfl rfl rfl rfl rfl rfl rfl rfl ?_
    iterate 2 refine D.pure rfl rfl rfl rfl rfl rfl ?_
    refine D.callP (paths_fn _ _ l x.lower x.lower n (hv.mono (by (repeat (first | exact Mem.le.refl _ | assumption | (apply Mem.le.trans; rotate_left; assumption))))) hl hn) rfl rfl rfl rfl rfl rfl rfl (fun _ => rfl) (fun v28 C28 hle28 hq28 => ?_)
    obtain ⟨ov, hs28, ho28⟩ := hq28
    obtain ⟨A28, c28, hqe, _⟩ := id hs28
    have hol := ho28.1
    rw [List.length_map, hol] at hqe
    subst hqe
    refine D.pure rfl rfl rfl rfl rfl rfl ?_
    have hpl := pathsL_len hl x.lower x.lower hn
    obtain ⟨O, hO⟩ : ∃ O, pathsL l x.lower x.lower n = O := ⟨_, rfl⟩
    rw [hO] at hol hpl hth ho28 hs28 ⊢
    refine D.done [(1, [], _), (7, [], _), (28, [], _), (29, [], _), (30, [], _)] ⟨rfl, rfl, rfl, rfl, rfl, trivial⟩ (hR _ _ _ rfl ?_); clear hR hB R
    refine G.nilArr 31 1 ?_
    refine G.loop (fun fr C' L' μ => ∃ (j : Nat) (w : Value) (ov2 : List Value), (j ≤ O.length ∧ OutN C' ov2 ((O.take j).filter (headB i))) ∧ fr = [(1, [], .int .i64 i), (7, [], w), (28, [], .slice A28 O.length c28), (29, [], .int .i64 O.length), (30, [], .int .i64 j)] ∧ L' = [.arr w 31 1 ov2.length ov2] ∧ μ = O.length - j) (fr' := [(1, [], _), (7, [], _), (28, [], _), (29, [], _), (30, [], _)]) ⟨rfl, rfl, rfl, rfl, rfl, trivial⟩ ⟨0, _, [], ⟨Nat.zero_le _, rfl, fun j v o h => by simp at h⟩, rfl, rfl, rfl⟩ (fun fr C0' L0' m hle0 hI => ?_)
    obtain ⟨j, w, ov2, ⟨hj, hov2⟩, rfl, rfl, rfl⟩ := hI
    refine G.region rfl (fun R hR => ?_)
    refine D.pure rfl rfl rfl rfl rfl rfl ?_
    refine D.done [(1, [], _), (7, [], _), (28, [], _), (29, [], _), (30, [], _), (31, [], _)] ⟨rfl, rfl, rfl, rfl, rfl, rfl, trivial⟩ (hR _ _ _ rfl ?_); clear hR R
    refine G.cond rfl (fun h31 => ?_) (fun h31 => ?_)
    · skip
      have hjl : j < O.length := by simpa using h31
      obtain ⟨y, hy⟩ : ∃ y, O[j]? = some y := ⟨O[j], List.getElem?_eq_getElem hjl⟩
      obtain ⟨Ay, cy, hovy, hry, hsy⟩ := ho28.at hy
      have hyn := (mem_paths.1 (show y ∈ pathsL l x.lower x.lower n by rw [hO]; exact List.mem_of_getElem? hy)).1
      obtain ⟨y0, hy0⟩ : ∃ y0, y[0]? = some y0 := ⟨y[0]'(by omega), List.getElem?_eq_getElem (by omega)⟩
      have hr0 : (y.map encN)[0]? = some (encN y0) := by rw [List.getElem?_map, hy0]; rfl
      have hhb : headB i y = (y0 == i) := by
        unfold headB
        cases y with
        | nil => simp at hy0
        | cons a y => simp at hy0; subst hy0; rfl
      have htf := take_filter (headB i) hy
      have hfl := List.length_filter_le (headB i) (O.take j)
      have htl : (O.take j).length ≤ O.length := by rw [List.length_take]; omega
      have hov2l := hov2.1
      refine G.region rfl (fun R hR => ?_)
      refine D.index0 (hs28.mono (by (repeat (first | exact Mem.le.refl _ | assumption | (apply Mem.le.trans; rotate_left; assumption))))) rfl rfl rfl rfl rfl rfl rfl rfl rfl rfl (by omega) hry (fun _ => rfl) (fun p32 hp32 => ?_)
      refine D.loadP0 hp32 rfl rfl rfl rfl rfl rfl rfl rfl ?_
      refine D.pure rfl rfl rfl rfl rfl rfl ?_
      refine D.done [(1, [], _), (7, [], _), (9, [], _), (28, [], _), (29, [], _), (30, [], _)] ⟨rfl, rfl, rfl, rfl, rfl, rfl, trivial⟩ (hR _ _ _ rfl ?_); clear hR R
      refine G.region rfl (fun R hR => ?_)
      refine D.pure rfl rfl rfl rfl rfl rfl ?_
      refine D.index0 (hsy.mono (by (repeat (first | exact Mem.le.refl _ | assumption | (apply Mem.le.trans; rotate_left; assumption))))) rfl rfl rfl rfl rfl rfl rfl rfl rfl rfl (by omega) hr0 (fun _ => rfl) (fun p35 hp35 => ?_)
      refine D.loadP0 hp35 rfl rfl rfl rfl rfl rfl rfl rfl ?_
      iterate 2 refine D.pure rfl rfl rfl rfl rfl rfl ?_
      refine D.done [(1, [], _), (7, [], _), (9, [], _), (28, [], _), (29, [], _), (30, [], _), (38, [], _)] ⟨rfl, rfl, rfl, rfl, rfl, rfl, rfl, trivial⟩ (hR _ _ _ rfl ?_); clear hR R
      refine G.cond rfl (fun h38 => ?_) (fun h38 => ?_)
      · skip
        have h38' : headB i y = true := by
          rw [hhb]
          have : (y0 : Int) = i := by simpa using h38
          simp; omega
        refine G.region rfl (fun R hR => ?_)
        iterate 2 refine D.pure rfl rfl rfl rfl rfl rfl ?_
        refine D.buildSlice [[.slice Ay y.length cy]] rfl rfl rfl rfl rfl rfl rfl rfl rfl rfl rfl rfl (fun _ => rfl) (fun p41 C41 hle41 hs41 => ?_)
        refine D.append (j := 0) rfl rfl rfl rfl rfl rfl rfl rfl rfl rfl rfl hs41 rfl (by simp only [List.length_singleton, maxLen]; omega) (by simp only [List.length_singleton]; omega) (fun _ => rfl) (fun v42 => ?_)
        refine D.pure rfl rfl rfl rfl rfl rfl ?_
        refine D.done [(1, [], _), (7, [], _), (28, [], _), (29, [], _), (30, [], _)] ⟨rfl, rfl, rfl, rfl, rfl, trivial⟩ (hR _ _ _ rfl ?_); clear hR R
        refine G.region rfl (fun R hR => ?_)
        refine D.i64 _ rfl rfl rfl rfl rfl (by omega) (by omega) rfl rfl ?_
        refine D.pure rfl rfl rfl rfl rfl rfl ?_
        refine D.done [(1, [], _), (7, [], _), (28, [], _), (29, [], _), (30, [], _)] ⟨rfl, rfl, rfl, rfl, rfl, trivial⟩ (hR _ _ _ rfl ?_); clear hR R
        refine G.eqL (L' := [.arr v42 31 1 (ov2 ++ [Value.slice Ay y.length cy]).length (ov2 ++ [Value.slice Ay y.length cy])]) (by simp) ?_
        refine G.again (m' := O.length - (j + 1)) (by omega) (by (repeat (first | exact Mem.le.refl _ | assumption | (apply Mem.le.trans; rotate_left; assumption)))) (fr' := [(1, [], _), (7, [], _), (28, [], _), (29, [], _), (30, [], _)]) ⟨rfl, rfl, rfl, rfl, rfl, trivial⟩ ⟨j + 1, v42, ov2 ++ [Value.slice Ay y.length cy], ⟨by omega, by rw [htf, if_pos h38']; exact (hov2.mono (by (repeat (first | exact Mem.le.refl _ | assumption | (apply Mem.le.trans; rotate_left; assumption))))).snoc (hsy.mono (by (repeat (first | exact Mem.le.refl _ | assumption | (apply Mem.le.trans; rotate_left; assumption)))))⟩, rfl, rfl, rfl⟩
      · skip
        have h38' : ¬ headB i y = true := by
          rw [hhb]
          have : ¬ (y0 : Int) = i := by simpa using h38
          simp; omega
        refine G.region rfl (fun R hR => ?_)
        refine D.i64 _ rfl rfl rfl rfl rfl (by omega) (by omega) rfl rfl ?_
        refine D.pure rfl rfl rfl rfl rfl rfl ?_
        refine D.done [(1, [], _), (7, [], _), (28, [], _), (29, [], _), (30, [], _)] ⟨rfl, rfl, rfl, rfl, rfl, trivial⟩ (hR _ _ _ rfl ?_); clear hR R
        refine G.again (m' := O.length - (j + 1)) (by omega) (by (repeat (first | exact Mem.le.refl _ | assumption | (apply Mem.le.trans; rotate_left; assumption)))) (fr' := [(1, [], _), (7, [], _), (28, [], _), (29, [], _), (30, [], _)]) ⟨rfl, rfl, rfl, rfl, rfl, trivial⟩ ⟨j + 1, w, ov2, ⟨by omega, by rw [htf, if_neg h38', List.append_nil]; exact hov2.mono (by (repeat (first | exact Mem.le.refl _ | assumption | (apply Mem.le.trans; rotate_left; assumption))))⟩, rfl, rfl, rfl⟩
    · skip
      have hjl : j = O.length := by
        have : ¬ j < O.length := by simpa using h31
        omega
      subst hjl
      rw [List.take_length, ← hth] at hov2
      refine G.region rfl (fun R hR => ?_)
      iterate 2 refine D.pure rfl rfl rfl rfl rfl rfl ?_
      refine D.done [(6, [], _)] ⟨rfl, trivial⟩ (hR _ _ _ rfl ?_); clear hR R
      refine G.freezeArr 0 (ov2.map fun x => [x]) rfl row1.symm (by intro r hr; obtain ⟨y, _, rfl⟩ := List.mem_map.1 hr; rfl) (by simp) (fun Cm hlem hsm => ?_)
      refine G.retN (G.dropAll (G.fin1 rfl rfl ?_))
      exact ⟨rfl, ov2, hsm, hov2.mono hlem⟩

theorem cycF_cons {l : List Rel} {n : Nat} (hno : ∀ m, 1 ≤ m → m < n → cycN l m = []) (h1 : 1 ≤ n) (hn : n ≤ l.length) (hne : cycN l n ≠ []) : cycL l = cycN l n :=
  cycF_hit hne (fun q h2 h3 => hno q h2 h3) h1 (by omega)
set_option maxHeartbeats 4000000 in
theorem lcycles_fn (C : Mem) (v : Value) (l : List Rel) (hv : Sl C 3 v (l.map Rel.enc)) (hl : l.length ≤ 8) :
    Pur cx.P 17 [v] C fun r C' => LL C' r (cycL l) := by
  obtain ⟨A, c, rfl, _⟩ := id hv
  simp only [List.length_map] at hv ⊢
  refine Fn.intro (by kernel_rfl) Tryz.func17 rfl 55 rfl rfl (fun w0 => ?_)
  refine G.region rfl (fun R hR => ?_)
  refine D.pure rfl rfl rfl rfl rfl rfl ?_
  refine D.done [(0, [], _)] ⟨rfl, trivial⟩ (hR _ _ _ rfl ?_); clear hR R
  refine G.region rfl (fun R hR => ?_)
  refine D.pure rfl rfl rfl rfl rfl rfl ?_
  refine D.done [(0, [], _), (3, [], _)] ⟨rfl, rfl, trivial⟩ (hR _ _ _ rfl ?_); clear hR R
  refine G.loop (fun fr C' L' μ => ∃ (n : Nat), (1 ≤ n ∧ n ≤ l.length + 1 ∧ ∀ m, 1 ≤ m → m < n → cycN l m = []) ∧ fr = [(0, [], .slice A l.length c), (3, [], .int .i64 n)] ∧ L' = [] ∧ μ = l.length + 1 - n) (fr' := [(0, [], _), (3, [], _)]) ⟨rfl, rfl, trivial⟩ ⟨1, ⟨by omega, by omega, fun m h1 h2 => by omega⟩, rfl, rfl, rfl⟩ (fun fr C0' L0' m hle0 hI => ?_)
  obtain ⟨n, ⟨hn1, hn2, hno⟩, rfl, rfl, rfl⟩ := hI
  refine G.region rfl (fun R hR => ?_)
  iterate 4 refine D.pure rfl rfl rfl rfl rfl rfl ?_
  refine D.done [(0, [], _), (3, [], _), (14, [], _)] ⟨rfl, rfl, rfl, trivial⟩ (hR _ _ _ rfl ?_); clear hR R
  refine G.cond rfl (fun h14 => ?_) (fun h14 => ?_)
  · skip
    have hnl : n ≤ l.length := by simpa using h14
    refine G.region rfl (fun R hR => ?_)
    refine D.pure rfl rfl rfl rfl rfl rfl ?_
    refine D.done [(0, [], _), (3, [], _), (4, [], _)] ⟨rfl, rfl, rfl, trivial⟩ (hR _ _ _ rfl ?_); clear hR R
    refine G.region rfl (fun R hR => ?_)
    refine D.pure rfl rfl rfl rfl rfl rfl ?_
    refine D.done [(0, [], _), (3, [], _), (4, [], _), (5, [], _)] ⟨rfl, rfl, rfl, rfl, trivial⟩ (hR _ _ _ rfl ?_); clear hR R
    refine G.nilArr 31 1 ?_
    refine G.loop (fun fr C' L' μ => ∃ (i : Nat) (w : Value) (ov : List Value), (i ≤ l.length ∧ OutN C' ov (cat (fun i => (throughL l i n).filter (leastB i)) i)) ∧ fr = [(0, [], .slice A l.length c), (3, [], .int .i64 n), (4, [], w), (5, [], .int .i64 i)] ∧ L' = [.arr w 31 1 ov.length ov] ∧ μ = l.length - i) (fr' := [(0, [], _), (3, [], _), (4, [], _), (5, [], _)]) ⟨rfl, rfl, rfl, rfl, trivial⟩ ⟨0, _, [], ⟨Nat.zero_le _, rfl, fun j v o h => by simp at h⟩, rfl, rfl, rfl⟩ (fun fr C1' L1' m hle1 hI => ?_)
    obtain ⟨i, w, ov, ⟨hi, hov⟩, rfl, rfl, rfl⟩ := hI
    refine G.region rfl (fun R hR => ?_)
    iterate 4 refine D.pure rfl rfl rfl rfl rfl rfl ?_
    refine D.done [(0, [], _), (3, [], _), (4, [], _), (5, [], _), (20, [], _)] ⟨rfl, rfl, rfl, rfl, rfl, trivial⟩ (hR _ _ _ rfl ?_); clear hR R
    refine G.cond rfl (fun h20 => ?_) (fun h20 => ?_)
    · skip
      have hil : i < l.length := by simpa using h20
      have hcl := cat_length_mul (f := fun i => (throughL l i n).filter (leastB i)) (m := 16777216) (fun i => Nat.le_trans (List.length_filter_le _ _) (throughL_len hl i (by omega))) i
      have hovl := hov.1
      refine G.region rfl (fun R hR => ?_)
      iterate 3 refine D.pure rfl rfl rfl rfl rfl rfl ?_
      refine D.callP (lthrough_fn _ _ l i n (hv.mono (by (repeat (first | exact Mem.le.refl _ | assumption | (apply Mem.le.trans; rotate_left; assumption))))) hl hil hn1 (by omega)) rfl rfl rfl rfl rfl rfl rfl (fun _ => rfl) (fun v26 C26 hle26 hq26 => ?_)
      obtain ⟨ov26, hs26, ho26⟩ := hq26
      obtain ⟨A26, c26, hqe, _⟩ := id hs26
      have hol := ho26.1
      rw [List.length_map, hol] at hqe
      subst hqe
      iterate 2 refine D.pure rfl rfl rfl rfl rfl rfl ?_
      have hpl := throughL_len hl i (show n ≤ 8 by omega)
      obtain ⟨O, hO⟩ : ∃ O, throughL l i n = O := ⟨_, rfl⟩
      rw [hO] at hol hpl ho26 hs26 ⊢
      refine D.done [(0, [], _), (3, [], _), (4, [], _), (5, [], _), (26, [], _), (27, [], _), (28, [], _)] ⟨rfl, rfl, rfl, rfl, rfl, rfl, rfl, trivial⟩ (hR _ _ _ rfl ?_); clear hR R
      refine G.loop (fun fr C' L' μ => ∃ (j : Nat) (w : Value) (ov2 : List Value), (j ≤ O.length ∧ OutN C' ov2 (cat (fun i => (throughL l i n).filter (leastB i)) i ++ (O.take j).filter (leastB i))) ∧ fr = [(0, [], .slice A l.length c), (3, [], .int .i64 n), (4, [], w), (5, [], .int .i64 i), (26, [], .slice A26 O.length c26), (27, [], .int .i64 O.length), (28, [], .int .i64 j)] ∧ L' = [.arr w 31 1 ov2.length ov2] ∧ μ = O.length - j) (fr' := [(0, [], _), (3, [], _), (4, [], _), (5, [], _), (26, [], _), (27, [], _), (28, [], _)]) ⟨rfl, rfl, rfl, rfl, rfl, rfl, rfl, trivial⟩ ⟨0, w, ov, ⟨Nat.zero_le _, by simpa using hov.mono (by (repeat (first | exact Mem.le.refl _ | assumption | (apply Mem.le.trans; rotate_left; assumption))))⟩, rfl, rfl, rfl⟩ (fun fr C2' L2' m hle2 hI => ?_)
      obtain ⟨j, w, ov2, ⟨hj, hov2⟩, rfl, rfl, rfl⟩ := hI
      refine G.region rfl (fun R hR => ?_)
      refine D.pure rfl rfl rfl rfl rfl rfl ?_
      refine D.done [(0, [], _), (3, [], _), (4, [], _), (5, [], _), (26, [], _), (27, [], _), (28, [], _), (29, [], _)] ⟨rfl, rfl, rfl, rfl, rfl, rfl, rfl, rfl, trivial⟩ (hR _ _ _ rfl ?_); clear hR R
      refine G.cond rfl (fun h29 => ?_) (fun h29 => ?_)
      · skip
        have hjl : j < O.length := by simpa using h29
        obtain ⟨y, hy⟩ : ∃ y, O[j]? = some y := ⟨O[j], List.getElem?_eq_getElem hjl⟩
        obtain ⟨Ay, cy, hovy, hry, hsy⟩ := ho26.at hy
        have hyn := (mem_through.1 (show y ∈ throughL l i n by rw [hO]; exact List.mem_of_getElem? hy)).2.1
        have htf := take_filter (leastB i) hy
        have hfl := List.length_filter_le (leastB i) (O.take j)
        have htl : (O.take j).length ≤ O.length := by rw [List.length_take]; omega
        have hov2l := hov2.1
        rw [List.length_append] at hov2l
        refine G.region rfl (fun R hR => ?_)
        refine D.index0 (hs26.mono (by (repeat (first | exact Mem.le.refl _ | assumption | (apply Mem.le.trans; rotate_left; assumption))))) rfl rfl rfl rfl rfl rfl rfl rfl rfl rfl (by omega) hry (fun _ => rfl) (fun p30 hp30 => ?_)
        refine D.loadP0 hp30 rfl rfl rfl rfl rfl rfl rfl rfl ?_
        refine D.pure rfl rfl rfl rfl rfl rfl ?_
        refine D.done [(0, [], _), (3, [], _), (4, [], _), (5, [], _), (7, [], _), (26, [], _), (27, [], _), (28, [], _)] ⟨rfl, rfl, rfl, rfl, rfl, rfl, rfl, rfl, trivial⟩ (hR _ _ _ rfl ?_); clear hR R
        refine G.region rfl (fun R hR => ?_)
        refine D.pure rfl rfl rfl rfl rfl rfl ?_
        refine D.done [(0, [], _), (3, [], _), (4, [], _), (5, [], _), (7, [], _), (8, [], _), (26, [], _), (27, [], _), (28, [], _)] ⟨rfl, rfl, rfl, rfl, rfl, rfl, rfl, rfl, rfl, trivial⟩ (hR _ _ _ rfl ?_); clear hR R
        refine G.region rfl (fun R hR => ?_)
        iterate 3 refine D.pure rfl rfl rfl rfl rfl rfl ?_
        refine D.done [(0, [], _), (3, [], _), (4, [], _), (5, [], _), (7, [], _), (8, [], _), (26, [], _), (27, [], _), (28, [], _), (32, [], _), (33, [], _), (34, [], _)] ⟨rfl, rfl, rfl, rfl, rfl, rfl, rfl, rfl, rfl, rfl, rfl, rfl, trivial⟩ (hR _ _ _ rfl ?_); clear hR R
        refine G.loop (fun fr C' L' μ => ∃ (q : Nat), (q ≤ y.length) ∧ fr = [(0, [], .slice A l.length c), (3, [], .int .i64 n), (4, [], w), (5, [], .int .i64 i), (7, [], .slice Ay y.length cy), (8, [], .bool ((y.take q).all fun k => decide (i ≤ k))), (26, [], .slice A26 O.length c26), (27, [], .int .i64 O.length), (28, [], .int .i64 j), (32, [], .slice Ay y.length cy), (33, [], .int .i64 y.length), (34, [], .int .i64 q)] ∧ L' = [.arr w 31 1 ov2.length ov2] ∧ μ = y.length - q) (fr' := [(0, [], _), (3, [], _), (4, [], _), (5, [], _), (7, [], _), (8, [], _), (26, [], _), (27, [], _), (28, [], _), (32, [], _), (33, [], _), (34, [], _)]) ⟨rfl, rfl, rfl, rfl, rfl, rfl, rfl, rfl, rfl, rfl, rfl, rfl, trivial⟩ ⟨0, Nat.zero_le _, rfl, rfl, rfl⟩ (fun fr C3' L3' m hle3 hI => ?_)
        obtain ⟨q, hq, rfl, rfl, rfl⟩ := hI
        refine G.region rfl (fun R hR => ?_)
        refine D.pure rfl rfl rfl rfl rfl rfl ?_
        refine D.done [(0, [], _), (3, [], _), (4, [], _), (5, [], _), (7, [], _), (8, [], _), (26, [], _), (27, [], _), (28, [], _), (32, [], _), (33, [], _), (34, [], _), (35, [], _)] ⟨rfl, rfl, rfl, rfl, rfl, rfl, rfl, rfl, rfl, rfl, rfl, rfl, rfl, trivial⟩ (hR _ _ _ rfl ?_); clear hR R
        refine G.cond rfl (fun h35 => ?_) (fun h35 => ?_)
        · skip
          have hql : q < y.length := by simpa using h35
          obtain ⟨z, hz⟩ : ∃ z, y[q]? = some z := ⟨y[q], List.getElem?_eq_getElem hql⟩
          have hrz : (y.map encN)[q]? = some (encN z) := by rw [List.getElem?_map, hz]; rfl
          have e8 : (((y.take q).all fun k => decide (i ≤ k)) && decide ((i : Int) ≤ (z : Int))) = ((y.take (q + 1)).all fun k => decide (i ≤ k)) := by
            rw [List.take_add_one, hz, List.all_append]
            congr 1
            by_cases h : i ≤ z
            · have : (i : Int) ≤ z := by omega
              simp [h]
            · have : ¬ (i : Int) ≤ z := by omega
              simp [h]
          refine G.region rfl (fun R hR => ?_)
          refine D.index0 (hsy.mono (by (repeat (first | exact Mem.le.refl _ | assumption | (apply Mem.le.trans; rotate_left; assumption))))) rfl rfl rfl rfl rfl rfl rfl rfl rfl rfl (by omega) hrz (fun _ => rfl) (fun p36 hp36 => ?_)
          refine D.loadP0 hp36 rfl rfl rfl rfl rfl rfl rfl rfl ?_
          refine D.pure rfl rfl rfl rfl rfl rfl ?_
          refine D.done [(0, [], _), (3, [], _), (4, [], _), (5, [], _), (7, [], _), (8, [], _), (10, [], _), (26, [], _), (27, [], _), (28, [], _), (32, [], _), (33, [], _), (34, [], _)] ⟨rfl, rfl, rfl, rfl, rfl, rfl, rfl, rfl, rfl, rfl, rfl, rfl, rfl, trivial⟩ (hR _ _ _ rfl ?_); clear hR R
          refine G.region rfl (fun R hR => ?_)
          iterate 5 refine D.pure rfl rfl rfl rfl rfl rfl ?_
          refine D.pickAnd rfl rfl rfl rfl rfl rfl rfl rfl ?_
          refine D.pure rfl rfl rfl rfl rfl rfl ?_
          refine D.done [(0, [], _), (3, [], _), (4, [], _), (5, [], _), (7, [], _), (8, [], _), (26, [], _), (27, [], _), (28, [], _), (32, [], _), (33, [], _), (34, [], _)] ⟨rfl, rfl, rfl, rfl, rfl, rfl, rfl, rfl, rfl, rfl, rfl, rfl, trivial⟩ (hR _ _ _ rfl ?_); clear hR R
          refine G.region rfl (fun R hR => ?_)
          refine D.i64 _ rfl rfl rfl rfl rfl (by omega) (by omega) rfl rfl ?_
          refine D.pure rfl rfl rfl rfl rfl rfl ?_
          refine D.done [(0, [], _), (3, [], _), (4, [], _), (5, [], _), (7, [], _), (8, [], _), (26, [], _), (27, [], _), (28, [], _), (32, [], _), (33, [], _), (34, [], _)] ⟨rfl, rfl, rfl, rfl, rfl, rfl, rfl, rfl, rfl, rfl, rfl, rfl, trivial⟩ (hR _ _ _ rfl ?_); clear hR R
          rw [e8]
          refine G.again (m' := y.length - (q + 1)) (by omega) (by (repeat (first | exact Mem.le.refl _ | assumption | (apply Mem.le.trans; rotate_left; assumption)))) (fr' := [(0, [], _), (3, [], _), (4, [], _), (5, [], _), (7, [], _), (8, [], _), (26, [], _), (27, [], _), (28, [], _), (32, [], _), (33, [], _), (34, [], _)]) ⟨rfl, rfl, rfl, rfl, rfl, rfl, rfl, rfl, rfl, rfl, rfl, rfl, trivial⟩ ⟨q + 1, by omega, rfl, rfl, rfl⟩
        · skip
          have hql : q = y.length := by
            have : ¬ q < y.length := by simpa using h35
            omega
          subst hql
          have hlb : ((y.take y.length).all fun k => decide (i ≤ k)) = leastB i y := by rw [List.take_length]; rfl
          refine G.region rfl (fun R hR => ?_)
          refine D.pure rfl rfl rfl rfl rfl rfl ?_
          refine D.done [(0, [], _), (3, [], _), (4, [], _), (5, [], _), (7, [], _), (26, [], _), (27, [], _), (28, [], _), (45, [], _)] ⟨rfl, rfl, rfl, rfl, rfl, rfl, rfl, rfl, rfl, trivial⟩ (hR _ _ _ rfl ?_); clear hR R
          refine G.cond rfl (fun h45 => ?_) (fun h45 => ?_)
          · skip
            have h45' : leastB i y = true := by rw [← hlb]; exact h45
            refine G.region rfl (fun R hR => ?_)
            iterate 2 refine D.pure rfl rfl rfl rfl rfl rfl ?_
            refine D.buildSlice [[.slice Ay y.length cy]] rfl rfl rfl rfl rfl rfl rfl rfl rfl rfl rfl rfl (fun _ => rfl) (fun p48 C48 hle48 hs48 => ?_)
            refine D.append (j := 0) rfl rfl rfl rfl rfl rfl rfl rfl rfl rfl rfl hs48 rfl (by simp only [List.length_singleton, maxLen]; omega) (by simp only [List.length_singleton]; omega) (fun _ => rfl) (fun v49 => ?_)
            refine D.pure rfl rfl rfl rfl rfl rfl ?_
            refine D.done [(0, [], _), (3, [], _), (4, [], _), (5, [], _), (26, [], _), (27, [], _), (28, [], _)] ⟨rfl, rfl, rfl, rfl, rfl, rfl, rfl, trivial⟩ (hR _ _ _ rfl ?_); clear hR R
            refine G.region rfl (fun R hR => ?_)
            refine D.i64 _ rfl rfl rfl rfl rfl (by omega) (by omega) rfl rfl ?_
            refine D.pure rfl rfl rfl rfl rfl rfl ?_
            refine D.done [(0, [], _), (3, [], _), (4, [], _), (5, [], _), (26, [], _), (27, [], _), (28, [], _)] ⟨rfl, rfl, rfl, rfl, rfl, rfl, rfl, trivial⟩ (hR _ _ _ rfl ?_); clear hR R
            refine G.eqL (L' := [.arr v49 31 1 (ov2 ++ [Value.slice Ay y.length cy]).length (ov2 ++ [Value.slice Ay y.length cy])]) (by simp) ?_
            refine G.again (m' := O.length - (j + 1)) (by omega) (by (repeat (first | exact Mem.le.refl _ | assumption | (apply Mem.le.trans; rotate_left; assumption)))) (fr' := [(0, [], _), (3, [], _), (4, [], _), (5, [], _), (26, [], _), (27, [], _), (28, [], _)]) ⟨rfl, rfl, rfl, rfl, rfl, rfl, rfl, trivial⟩ ⟨j + 1, v49, ov2 ++ [Value.slice Ay y.length cy], ⟨by omega, by rw [htf, if_pos h45', ← List.append_assoc]; exact (hov2.mono (by (repeat (first | exact Mem.le.refl _ | assumption | (apply Mem.le.trans; rotate_left; assumption))))).snoc (hsy.mono (by (repeat (first | exact Mem.le.refl _ | assumption | (apply Mem.le.trans; rotate_left; assumption)))))⟩, rfl, rfl, rfl⟩
          · skip
            have h45' : ¬ leastB i y = true := by rw [← hlb, h45]; simp
            refine G.region rfl (fun R hR => ?_)
            refine D.i64 _ rfl rfl rfl rfl rfl (by omega) (by omega) rfl rfl ?_
            refine D.pure rfl rfl rfl rfl rfl rfl ?_
            refine D.done [(0, [], _), (3, [], _), (4, [], _), (5, [], _), (26, [], _), (27, [], _), (28, [], _)] ⟨rfl, rfl, rfl, rfl, rfl, rfl, rfl, trivial⟩ (hR _ _ _ rfl ?_); clear hR R
            refine G.again (m' := O.length - (j + 1)) (by omega) (by (repeat (first | exact Mem.le.refl _ | assumption | (apply Mem.le.trans; rotate_left; assumption)))) (fr' := [(0, [], _), (3, [], _), (4, [], _), (5, [], _), (26, [], _), (27, [], _), (28, [], _)]) ⟨rfl, rfl, rfl, rfl, rfl, rfl, rfl, trivial⟩ ⟨j + 1, w, ov2, ⟨by omega, by rw [htf, if_neg h45', List.append_nil]; exact hov2.mono (by (repeat (first | exact Mem.le.refl _ | assumption | (apply Mem.le.trans; rotate_left; assumption))))⟩, rfl, rfl, rfl⟩
      · skip
        have hjl : j = O.length := by
          have : ¬ j < O.length := by simpa using h29
          omega
        subst hjl
        rw [List.take_length, ← hO] at hov2
        refine G.region rfl (fun R hR => ?_)
        refine D.pure rfl rfl rfl rfl rfl rfl ?_
        refine D.i64 _ rfl rfl rfl rfl rfl (by omega) (by omega) rfl rfl ?_
        refine D.pure rfl rfl rfl rfl rfl rfl ?_
        refine D.done [(0, [], _), (3, [], _), (4, [], _), (5, [], _)] ⟨rfl, rfl, rfl, rfl, trivial⟩ (hR _ _ _ rfl ?_); clear hR R
        refine G.again (m' := l.length - (i + 1)) (by omega) (by (repeat (first | exact Mem.le.refl _ | assumption | (apply Mem.le.trans; rotate_left; assumption)))) (fr' := [(0, [], _), (3, [], _), (4, [], _), (5, [], _)]) ⟨rfl, rfl, rfl, rfl, trivial⟩ ⟨i + 1, w, ov2, ⟨by omega, by rw [cat_succ]; exact hov2.mono (by (repeat (first | exact Mem.le.refl _ | assumption | (apply Mem.le.trans; rotate_left; assumption))))⟩, rfl, rfl, rfl⟩
    · skip
      have hil : i = l.length := by
        have : ¬ i < l.length := by simpa using h20
        omega
      subst hil
      have hovl := hov.1
      have hcn : cat (fun i => (throughL l i n).filter (leastB i)) l.length = cycN l n := rfl
      rw [hcn] at hov hovl
      refine G.freezeArr 0 (ov.map fun x => [x]) rfl row1.symm (by intro r hr; obtain ⟨y, _, rfl⟩ := List.mem_map.1 hr; rfl) (by simp) (fun Cm hlem hsm => ?_)
      obtain ⟨A4, c4, hqe, _⟩ := id hsm
      rw [List.length_map] at hqe
      subst hqe
      refine G.region rfl (fun R hR => ?_)
      iterate 3 refine D.pure rfl rfl rfl rfl rfl rfl ?_
      refine D.done [(0, [], _), (3, [], _), (4, [], _), (53, [], _)] ⟨rfl, rfl, rfl, rfl, trivial⟩ (hR _ _ _ rfl ?_); clear hR R
      refine G.cond rfl (fun h53 => ?_) (fun h53 => ?_)
      · skip
        have h53' : cycN l n ≠ [] := fun e => by
          rw [e] at hovl
          simp [hovl] at h53
        refine G.region rfl (fun R hR => ?_)
        iterate 2 refine D.pure rfl rfl rfl rfl rfl rfl ?_
        refine D.done [(2, [], _)] ⟨rfl, trivial⟩ (hR _ _ _ rfl ?_); clear hR R
        refine G.retN (G.dropAll (G.fin1 rfl rfl ?_))
        exact ⟨rfl, by rw [cycF_cons hno hn1 hnl h53']; exact ⟨ov, hsm, hov.mono hlem⟩⟩
      · skip
        have h53' : cycN l n = [] := by
          have : ov.length = 0 := by simpa using h53
          exact List.eq_nil_of_length_eq_zero (by omega)
        refine G.region rfl (fun R hR => ?_)
        refine D.pure rfl rfl rfl rfl rfl rfl ?_
        refine D.i64 _ rfl rfl rfl rfl rfl (by omega) (by omega) rfl rfl ?_
        refine D.pure rfl rfl rfl rfl rfl rfl ?_
        refine D.done [(0, [], _), (3, [], _)] ⟨rfl, rfl, trivial⟩ (hR _ _ _ rfl ?_); clear hR R
        refine G.again (m' := l.length + 1 - (n + 1)) (by omega) (by (repeat (first | exact Mem.le.refl _ | assumption | (apply Mem.le.trans; rotate_left; assumption)))) (fr' := [(0, [], _), (3, [], _)]) ⟨rfl, rfl, trivial⟩ ⟨n + 1, ⟨by omega, by omega, fun m h1 h2 => by
          rcases Nat.lt_or_ge m n with h | h
          · exact hno m h1 h
          · rw [show m = n by omega]; exact h53'⟩, rfl, rfl, rfl⟩
  · skip
    have hnl : n = l.length + 1 := by
      have : ¬ n ≤ l.length := by simpa using h14
      omega
    refine G.region rfl (fun R hR => ?_)
    refine D.pure rfl rfl rfl rfl rfl rfl ?_
    refine D.done [(2, [], _)] ⟨rfl, trivial⟩ (hR _ _ _ rfl ?_); clear hR R
    refine G.retN (G.dropAll (G.fin1 rfl rfl ?_))
    exact ⟨rfl, by rw [show cycL l = [] from cycF_none (fun m h1 h2 => hno m h1 (by omega))]; exact LL.nil _⟩

def olderB (l : List Rel) (a b : Str) : Bool := (List.range l.length).any fun m => !(pathsL l a b (m + 1)).isEmpty
theorem older_iff {l : List Rel} {a b : Str} : olderB l a b = true ↔ ∃ x, WayL l a x ∧ 0 < x.length ∧ endL l a x = b := by
  rw [← paths_some]
  unfold olderB
  rw [List.any_eq_true]
  constructor
  · rintro ⟨m, hm, h⟩
    exact ⟨m + 1, by omega, by have := List.mem_range.1 hm; omega, fun e => by rw [e] at h; simp at h⟩
  · rintro ⟨n, h1, h2, h3⟩
    exact ⟨n - 1, List.mem_range.2 (by omega), by rw [show n - 1 + 1 = n by omega]; cases h : pathsL l a b n with
      | nil => exact absurd h h3
      | cons => rfl⟩
set_option maxHeartbeats 1000000 in
theorem lolder_fn (C : Mem) (v : Value) (l : List Rel) (a b : Str) (hv : Sl C 3 v (l.map Rel.enc)) (hl : l.length ≤ 8) :
    Pur cx.P 24 [v, strV a, strV b] C fun r _ => r = .bool (olderB l a b) := by
  obtain ⟨A, c, rfl, _⟩ := id hv
  simp only [List.length_map] at hv ⊢
  refine Fn.intro (by kernel_rfl) Tryz.func24 rfl 21 rfl rfl (fun w0 => ?_)
  refine G.region rfl (fun R hR => ?_)
  refine D.pure rfl rfl rfl rfl rfl rfl ?_
  refine D.done [(0, [], _), (1, [], _), (2, [], _)] ⟨rfl, rfl, rfl, trivial⟩ (hR _ _ _ rfl ?_); clear hR R
  refine G.region rfl (fun R hR => ?_)
  refine D.pure rfl rfl rfl rfl rfl rfl ?_
  refine D.done [(0, [], _), (1, [], _), (2, [], _), (7, [], _)] ⟨rfl, rfl, rfl, rfl, trivial⟩ (hR _ _ _ rfl ?_); clear hR R
  refine G.loop (fun fr C' L' μ => ∃ (n : Nat), (1 ≤ n ∧ n ≤ l.length + 1 ∧ ∀ m, 1 ≤ m → m < n → pathsL l a b m = []) ∧ fr = [(0, [], .slice A l.length c), (1, [], strV a), (2, [], strV b), (7, [], .int .i64 n)] ∧ L' = [] ∧ μ = l.length + 1 - n) (fr' := [(0, [], _), (1, [], _), (2, [], _), (7, [], _)]) ⟨rfl, rfl, rfl, rfl, trivial⟩ ⟨1, ⟨by omega, by omega, fun m h1 h2 => by omega⟩, rfl, rfl, rfl⟩ (fun fr C0' L0' m hle0 hI => ?_)
  obtain ⟨n, ⟨hn1, hn2, hno⟩, rfl, rfl, rfl⟩ := hI
  refine G.region rfl (fun R hR => ?_)
  iterate 4 refine D.pure rfl rfl rfl rfl rfl rfl ?_
  refine D.done [(0, [], _), (1, [], _), (2, [], _), (7, [], _), (11, [], _)] ⟨rfl, rfl, rfl, rfl, rfl, trivial⟩ (hR _ _ _ rfl ?_); clear hR R
  refine G.cond rfl (fun h11 => ?_) (fun h11 => ?_)
  · skip
    have hnl : n ≤ l.length := by simpa using h11
    refine G.region rfl (fun R hR => ?_)
    iterate 4 refine D.pure rfl rfl rfl rfl rfl rfl ?_
    refine D.callP (paths_fn _ _ l a b n (hv.mono (by (repeat (first | exact Mem.le.refl _ | assumption | (apply Mem.le.trans; rotate_left; assumption))))) hl (by omega)) rfl rfl rfl rfl rfl rfl rfl (fun _ => rfl) (fun v18 C18 hle18 hq18 => ?_)
    obtain ⟨ov18, hs18, ho18⟩ := hq18
    obtain ⟨A18, c18, hqe, _⟩ := id hs18
    have hol := ho18.1
    rw [List.length_map, hol] at hqe
    subst hqe
    iterate 2 refine D.pure rfl rfl rfl rfl rfl rfl ?_
    refine D.done [(0, [], _), (1, [], _), (2, [], _), (7, [], _), (20, [], _)] ⟨rfl, rfl, rfl, rfl, rfl, trivial⟩ (hR _ _ _ rfl ?_); clear hR R
    refine G.cond rfl (fun h20 => ?_) (fun h20 => ?_)
    · skip
      have h20' : 0 < (pathsL l a b n).length := by simpa [List.length_pos_iff] using h20
      refine G.region rfl (fun R hR => ?_)
      refine D.pure rfl rfl rfl rfl rfl rfl ?_
      refine D.done [(6, [], _)] ⟨rfl, trivial⟩ (hR _ _ _ rfl ?_); clear hR R
      refine G.retN (G.dropAll (G.fin1 rfl rfl ?_))
      refine ⟨rfl, ?_⟩
      have : olderB l a b = true := by
        unfold olderB
        rw [List.any_eq_true]
        refine ⟨n - 1, List.mem_range.2 (by omega), ?_⟩
        rw [show n - 1 + 1 = n by omega]
        cases h : pathsL l a b n with
        | nil => rw [h] at h20'; simp at h20'
        | cons => rfl
      rw [this]
    · skip
      have h20' : pathsL l a b n = [] := by simpa using h20
      refine G.region rfl (fun R hR => ?_)
      refine D.pure rfl rfl rfl rfl rfl rfl ?_
      refine D.i64 _ rfl rfl rfl rfl rfl (by omega) (by omega) rfl rfl ?_
      refine D.pure rfl rfl rfl rfl rfl rfl ?_
      refine D.done [(0, [], _), (1, [], _), (2, [], _), (7, [], _)] ⟨rfl, rfl, rfl, rfl, trivial⟩ (hR _ _ _ rfl ?_); clear hR R
      refine G.again (m' := l.length + 1 - (n + 1)) (by omega) (by (repeat (first | exact Mem.le.refl _ | assumption | (apply Mem.le.trans; rotate_left; assumption)))) (fr' := [(0, [], _), (1, [], _), (2, [], _), (7, [], _)]) ⟨rfl, rfl, rfl, rfl, trivial⟩ ⟨n + 1, ⟨by omega, by omega, fun m h1 h2 => by
        rcases Nat.lt_or_ge m n with h | h
        · exact hno m h1 h
        · rw [show m = n by omega]; exact h20'⟩, rfl, rfl, rfl⟩
  · skip
    have hnl : n = l.length + 1 := by
      have : ¬ n ≤ l.length := by simpa using h11
      omega
    refine G.region rfl (fun R hR => ?_)
    refine D.pure rfl rfl rfl rfl rfl rfl ?_
    refine D.done [(6, [], _)] ⟨rfl, trivial⟩ (hR _ _ _ rfl ?_); clear hR R
    refine G.retN (G.dropAll (G.fin1 rfl rfl ?_))
    refine ⟨rfl, ?_⟩
    have : olderB l a b = false := by
      unfold olderB
      rw [List.any_eq_false]
      intro m hm
      have := List.mem_range.1 hm
      rw [hno (m + 1) (by omega) (by omega)]; simp
    rw [this]

/-- The relations whose bits are not set. -/
def wobAt (l : List Rel) (bits i : Nat) : List Rel := match l[i]? with
  | some x => oneIf (!bits.testBit i) x
  | none => []
def wobL (l : List Rel) (bits : Nat) : List Rel := cat (wobAt l bits) l.length
theorem wobL_eq {l : List Rel} {bits : Nat} {st : List Nat} (h : ∀ i, i < l.length → (bits.testBit i = true ↔ i ∈ st)) : wobL l bits = woL l st := by
  refine cat_congr (fun i hi => ?_)
  unfold wobAt woAt
  rw [List.getElem?_eq_getElem hi]
  simp only
  congr 1
  congr 1
  rw [Bool.eq_iff_iff, decide_eq_true_eq]
  exact h i hi
set_option maxHeartbeats 1000000 in
theorem lwithout_fn (C : Mem) (v : Value) (l : List Rel) (bits : Nat) (hv : Sl C 3 v (l.map Rel.enc)) (hl : l.length ≤ 60) (hb : bits < 9223372036854775808) :
    Pur cx.P 20 [v, .int .i64 bits] C fun r C' => Sl C' 3 r ((wobL l bits).map Rel.enc) := by
  obtain ⟨A, c, rfl, _⟩ := id hv
  simp only [List.length_map] at hv ⊢
  refine Fn.intro (by kernel_rfl) Tryz.func20 rfl 26 rfl rfl (fun w0 => ?_)
  refine G.region rfl (fun R hR => ?_)
  refine D.pure rfl rfl rfl rfl rfl rfl ?_
  refine D.done [(0, [], _), (1, [], _)] ⟨rfl, rfl, trivial⟩ (hR _ _ _ rfl ?_); clear hR R
  refine G.region rfl (fun R hR => ?_)
  refine D.pure rfl rfl rfl rfl rfl rfl ?_
  refine D.done [(0, [], _), (1, [], _), (5, [], _)] ⟨rfl, rfl, rfl, trivial⟩ (hR _ _ _ rfl ?_); clear hR R
  refine G.region rfl (fun R hR => ?_)
  refine D.pure rfl rfl rfl rfl rfl rfl ?_
  refine D.done [(0, [], _), (1, [], _), (5, [], _), (6, [], _)] ⟨rfl, rfl, rfl, rfl, trivial⟩ (hR _ _ _ rfl ?_); clear hR R
  refine G.nilArr 55 3 ?_
  refine G.loop (fun fr C' L' μ => ∃ (k : Nat) (w : Value), (k ≤ l.length) ∧ fr = [(0, [], .slice A l.length c), (1, [], .int .i64 bits), (5, [], w), (6, [], .int .i64 k)] ∧ L' = [.arr w 55 3 (cat (wobAt l bits) k).length ((cat (wobAt l bits) k).map Rel.enc).flatten] ∧ μ = l.length - k) (fr' := [(0, [], _), (1, [], _), (5, [], _), (6, [], _)]) ⟨rfl, rfl, rfl, rfl, trivial⟩ ⟨0, _, Nat.zero_le _, rfl, rfl, rfl⟩ (fun fr C0' L0' m hle0 hI => ?_)
  obtain ⟨k, w, hk, rfl, rfl, rfl⟩ := hI
  refine G.region rfl (fun R hR => ?_)
  iterate 4 refine D.pure rfl rfl rfl rfl rfl rfl ?_
  refine D.done [(0, [], _), (1, [], _), (5, [], _), (6, [], _), (10, [], _)] ⟨rfl, rfl, rfl, rfl, rfl, trivial⟩ (hR _ _ _ rfl ?_); clear hR R
  refine G.cond rfl (fun h10 => ?_) (fun h10 => ?_)
  · skip
    have hkl : k < l.length := by simpa using h10
    obtain ⟨x, hx⟩ : ∃ x, l[k]? = some x := ⟨l[k], List.getElem?_eq_getElem hkl⟩
    have hrx : (l.map Rel.enc)[k]? = some x.enc := by rw [List.getElem?_map, hx]; rfl
    have hwl := cat_length_mul (f := wobAt l bits) (m := 1) (fun i => by
      unfold wobAt; split
      · exact oneIf_len _ _
      · simp) k
    have hdv : bits / 2 ^ k < 9223372036854775808 := Nat.lt_of_le_of_lt (Nat.div_le_self _ _) hb
    have htb : bits.testBit k = decide (bits / 2 ^ k % 2 = 1) := Nat.testBit_eq_decide_div_mod_eq
    refine G.region rfl (fun R hR => ?_)
    iterate 2 refine D.pure rfl rfl rfl rfl rfl rfl ?_
    refine D.shrI (bits) (k) rfl rfl rfl rfl rfl rfl rfl rfl (by omega) rfl rfl ?_
    refine D.andI (bits / 2 ^ k) (1) rfl rfl rfl rfl rfl rfl rfl rfl hdv (by omega) rfl rfl ?_
    refine D.pure rfl rfl rfl rfl rfl rfl ?_
    refine D.done [(0, [], _), (1, [], _), (5, [], _), (6, [], _), (17, [], _)] ⟨rfl, rfl, rfl, rfl, rfl, trivial⟩ (hR _ _ _ rfl ?_); clear hR R
    refine G.cond rfl (fun h17 => ?_) (fun h17 => ?_)
    · skip
      have h17' : bits.testBit k = false := by
        rw [htb]
        have : ((bits / 2 ^ k &&& 1 : Nat) : Int) = 0 := by simpa using h17
        rw [Nat.and_one_is_mod] at this
        simp; omega
      have hfa : wobAt l bits k = [x] := by unfold wobAt; rw [hx]; exact oneIf_true (by rw [h17']; rfl)
      refine G.region rfl (fun R hR => ?_)
      iterate 3 refine D.pure rfl rfl rfl rfl rfl rfl ?_
      refine D.index0 (hv.mono (by (repeat (first | exact Mem.le.refl _ | assumption | (apply Mem.le.trans; rotate_left; assumption))))) rfl rfl rfl rfl rfl rfl rfl rfl rfl rfl (by omega) hrx (fun _ => rfl) (fun p21 hp21 => ?_)
      refine D.loadP0 hp21 rfl rfl rfl rfl rfl rfl rfl rfl ?_
      refine D.buildSlice [x.enc] rfl rfl rfl rfl rfl rfl rfl rfl rfl rfl rfl rfl (fun _ => rfl) (fun p23 C23 hle23 hs23 => ?_)
      refine D.append (j := 0) rfl rfl rfl rfl rfl rfl rfl rfl rfl rfl rfl hs23 rfl (by simp only [List.length_singleton, maxLen]; omega) (by simp only [List.length_singleton]; omega) (fun _ => rfl) (fun v24 => ?_)
      refine D.pure rfl rfl rfl rfl rfl rfl ?_
      refine D.done [(0, [], _), (1, [], _), (5, [], _), (6, [], _)] ⟨rfl, rfl, rfl, rfl, trivial⟩ (hR _ _ _ rfl ?_); clear hR R
      refine G.region rfl (fun R hR => ?_)
      refine D.pure rfl rfl rfl rfl rfl rfl ?_
      refine D.i64 _ rfl rfl rfl rfl rfl (by omega) (by omega) rfl rfl ?_
      refine D.pure rfl rfl rfl rfl rfl rfl ?_
      refine D.done [(0, [], _), (1, [], _), (5, [], _), (6, [], _)] ⟨rfl, rfl, rfl, rfl, trivial⟩ (hR _ _ _ rfl ?_); clear hR R
      refine G.eqL (L' := [.arr v24 55 3 (cat (wobAt l bits) (k + 1)).length ((cat (wobAt l bits) (k + 1)).map Rel.enc).flatten]) (by rw [cat_succ, hfa]; simp) ?_
      refine G.again (m' := l.length - (k + 1)) (by omega) (by (repeat (first | exact Mem.le.refl _ | assumption | (apply Mem.le.trans; rotate_left; assumption)))) (fr' := [(0, [], _), (1, [], _), (5, [], _), (6, [], _)]) ⟨rfl, rfl, rfl, rfl, trivial⟩ ⟨k + 1, v24, by omega, rfl, rfl, rfl⟩
    · skip
      have h17' : bits.testBit k = true := by
        rw [htb]
        have : ¬ ((bits / 2 ^ k &&& 1 : Nat) : Int) = 0 := by simpa using h17
        rw [Nat.and_one_is_mod] at this
        simp; omega
      have hfa : wobAt l bits k = [] := by unfold wobAt; rw [hx]; exact oneIf_false (by rw [h17']; rfl)
      refine G.region rfl (fun R hR => ?_)
      refine D.pure rfl rfl rfl rfl rfl rfl ?_
      refine D.i64 _ rfl rfl rfl rfl rfl (by omega) (by omega) rfl rfl ?_
      refine D.pure rfl rfl rfl rfl rfl rfl ?_
      refine D.done [(0, [], _), (1, [], _), (5, [], _), (6, [], _)] ⟨rfl, rfl, rfl, rfl, trivial⟩ (hR _ _ _ rfl ?_); clear hR R
      refine G.eqL (L' := [.arr w 55 3 (cat (wobAt l bits) (k + 1)).length ((cat (wobAt l bits) (k + 1)).map Rel.enc).flatten]) (by rw [cat_succ, hfa, List.append_nil]) ?_
      refine G.again (m' := l.length - (k + 1)) (by omega) (by (repeat (first | exact Mem.le.refl _ | assumption | (apply Mem.le.trans; rotate_left; assumption)))) (fr' := [(0, [], _), (1, [], _), (5, [], _), (6, [], _)]) ⟨rfl, rfl, rfl, rfl, trivial⟩ ⟨k + 1, w, by omega, rfl, rfl, rfl⟩
  · skip
    have hkl : k = l.length := by
      have : ¬ k < l.length := by simpa using h10
      omega
    subst hkl
    refine G.region rfl (fun R hR => ?_)
    iterate 2 refine D.pure rfl rfl rfl rfl rfl rfl ?_
    refine D.done [(4, [], _)] ⟨rfl, trivial⟩ (hR _ _ _ rfl ?_); clear hR R
    refine G.freezeArr 0 ((wobL l bits).map Rel.enc) rfl rfl (by intro r hr; obtain ⟨y, _, rfl⟩ := List.mem_map.1 hr; rfl) (by simp [wobL]) (fun Cf hf hsd => ?_)
    refine G.retN (G.dropAll (G.fin1 rfl rfl ?_))
    exact ⟨rfl, hsd⟩
end Go.Proofs.YtcghlfepfcagbaaGreat
namespace Go.Proofs.YtcghlfepfcagbaaGreat
open Go Go.Jog
set_option maxRecDepth 100000

theorem idx_unique {a b : List Nat} (ha : a.Pairwise (· < ·)) (hb : b.Pairwise (· < ·)) (h : ∀ x, x ∈ a ↔ x ∈ b) : a = b := by
  have hn : ∀ {l : List Nat}, l.Pairwise (· < ·) → l.Nodup := fun h => h.imp (fun h e => by omega)
  exact ((List.perm_ext_iff_of_nodup (hn ha) (hn hb)).2 h).eq_of_pairwise (le := (· < ·)) (fun x y _ _ h1 h2 => by omega) ha hb
/-- The involved relations, computed. -/
def invB (l : List Rel) (i : Nat) : Bool := arcB l i && reachB l (upOf l i) (lowOf l i)
def invL (l : List Rel) : List Nat := idxs (invB l) l.length
theorem inv_iff {l : List Rel} {i : Nat} (hi : i < l.length) : InvAt l i ↔ invB l i = true := by
  unfold invB
  obtain ⟨hl, hu⟩ := low_of_arc hi
  rw [Bool.and_eq_true, reach_iff hu hl]
  constructor
  · rintro ⟨a, h1, h2, j, h3⟩
    obtain ⟨x, k1, k2, k3⟩ := mem_arcs3.1 h1
    rw [h2] at k1 k3
    have e1 : upOf l i = x.upper := by unfold upOf; rw [k1]
    have e2 : lowOf l i = x.lower := by unfold lowOf; rw [k1]
    have e3 : a.up = posS (unitsL l) (upOf l i) := by rw [e1, k3]
    have e4 : a.lo = posS (unitsL l) (lowOf l i) := by rw [e2, k3]
    rw [e3, e4] at h3
    obtain ⟨y, y1, _, y3⟩ := (walk_way hu hl).1 h3
    exact ⟨by rw [arcB_at k1]; simp [k2], y, y1, y3⟩
  · rintro ⟨h1, y, y1, y2⟩
    obtain ⟨a, k1, k2, k3⟩ := closed_walk h1 y1 y2
    exact ⟨a, k1, k2, _, k3⟩
theorem idxs_mem {p : Nat → Bool} {n i : Nat} : i ∈ idxs p n ↔ i < n ∧ p i = true := by
  unfold idxs
  rw [mem_cat]
  constructor
  · rintro ⟨j, h1, h2⟩
    obtain ⟨h3, rfl⟩ := mem_oneIf.1 h2
    exact ⟨h1, h3⟩
  · rintro ⟨h1, h2⟩; exact ⟨i, h1, mem_oneIf.2 ⟨h2, rfl⟩⟩
theorem idxs_sorted (p : Nat → Bool) (n : Nat) : (idxs p n).Pairwise (· < ·) := by
  refine cat_pairwise (fun i _ => by unfold oneIf; split <;> simp) (fun i j hij _ x hx y hy => ?_)
  rw [(mem_oneIf.1 hx).2, (mem_oneIf.1 hy).2]; exact hij
theorem invs_eq {l : List Rel} {q : List Nat} (h : Invs l q l.length) : q = invL l := by
  refine idx_unique h.1 (idxs_sorted _ _) (fun i => ?_)
  rw [h.2 i]
  unfold invL
  rw [idxs_mem]
  constructor
  · rintro ⟨h1, h2⟩; exact ⟨h1, (inv_iff h1).1 h2⟩
  · rintro ⟨h1, h2⟩; exact ⟨h1, (inv_iff h1).2 h2⟩

/-! ### What the functions give for right lists -/
theorem cycs_ok {C : Mem} {l : List Rel} {r : Value} (hE : errU l = 0) (h : CycsRes C l r) : (200 < (cycL l).length ∧ r = .tuple #[nilV, .int .i64 4]) ∨ ((cycL l).length ≤ 200 ∧ ∃ v, r = .tuple #[v, .int .i64 0] ∧ LL C v (cycL l)) := by
  have hl : l.length ≤ 100000 := by have := errU_len hE; omega
  rcases h with ⟨h, _⟩ | ⟨_, m, hs, h⟩
  · exact absurd hE h
  · rw [← cycL_eq hl hs] at h
    rcases h with h | ⟨h1, v, ov, h2, h3, h4⟩
    · exact .inl h
    · exact .inr ⟨h1, v, h2, ov, h3, h4⟩
theorem knots_ok {C : Mem} {l : List Rel} {r : Value} (hE : errU l = 0) (h : KnotsRes C l r) : ∃ v ov, r = .tuple #[v, .int .i64 0] ∧ Sl C 1 v (ov.map fun x => [x]) ∧ OutS C ov (knF l (inU l (invL l)).length (inU l (invL l))) := by
  rcases h with ⟨h, _⟩ | ⟨_, q, v, ov, h1, h2, h3, h4⟩
  · exact absurd hE h
  · rw [invs_eq h1] at h4
    exact ⟨v, ov, h2, h3, h4⟩
theorem reps_ok {C : Mem} {l : List Rel} {r : Value} (hE : errU l = 0) (hi : (invL l).length ≤ 40) (h : RepsRes C l r) : 
    (∃ n, n ≤ 4 ∧ (∀ k, k < n → setsF l k [] = []) ∧ setsF l n [] ≠ [] ∧ ((200 < (repL l n).length ∧ r = .tuple #[nilV, .int .i64 4]) ∨ ((repL l n).length ≤ 200 ∧ ∃ v, r = .tuple #[v, .int .i64 0] ∧ LL C v (repL l n)))) ∨
     ((∀ k, k < 5 → setsF l k [] = []) ∧ r = .tuple #[nilV, .int .i64 4]) := by
  rcases h with ⟨h, _⟩ | ⟨_, q, hq, h⟩
  · exact absurd hE h
  · rw [invs_eq hq] at h
    rcases h with ⟨h, _⟩ | ⟨_, h⟩
    · omega
    · rcases h with ⟨n, h1, h2, h3, h4⟩ | h
      · refine .inl ⟨n, h1, h2, h3, ?_⟩
        rcases h4 with h4 | ⟨h4, v, ov, h5, h6, h7⟩
        · exact .inl h4
        · exact .inr ⟨h4, v, h5, ov, h6, h7⟩
      · exact .inr h

/-! ### The examples -/
def ka : Str := [65]
def kb : Str := [66]
def kc : Str := [67]
def k3l : List Rel := [⟨1, kb, ka⟩, ⟨1, kc, kb⟩, ⟨2, ka, kc⟩]
def k4l : List Rel := [⟨1, kb, ka⟩, ⟨1, kc, kb⟩, ⟨2, ka, kc⟩, ⟨2, ka, kb⟩]
theorem k3_made : Made k3l := by
  refine ⟨by decide, fun x hx => ?_⟩
  simp only [k3l, List.mem_cons, List.not_mem_nil, or_false] at hx
  rcases hx with rfl | rfl | rfl
  · exact ⟨by decide, by decide, 1, 0, by decide, by decide, by decide, rfl, rfl⟩
  · exact ⟨by decide, by decide, 2, 1, by decide, by decide, by decide, rfl, rfl⟩
  · exact ⟨by decide, by decide, 0, 2, by decide, by decide, by decide, rfl, rfl⟩
theorem k4_made : Made k4l := by
  refine ⟨by decide, fun x hx => ?_⟩
  simp only [k4l, List.mem_cons, List.not_mem_nil, or_false] at hx
  rcases hx with rfl | rfl | rfl | rfl
  · exact ⟨by decide, by decide, 1, 0, by decide, by decide, by decide, rfl, rfl⟩
  · exact ⟨by decide, by decide, 2, 1, by decide, by decide, by decide, rfl, rfl⟩
  · exact ⟨by decide, by decide, 0, 2, by decide, by decide, by decide, rfl, rfl⟩
  · exact ⟨by decide, by decide, 0, 1, by decide, by decide, by decide, rfl, rfl⟩
theorem k3_cyc : cycL k3l = [[0, 1, 2]] := by kernel_rfl
theorem k3_inv : invL k3l = [0, 1, 2] := by kernel_rfl
theorem k4_inv : invL k4l = [0, 1, 2, 3] := by kernel_rfl
theorem k3_knots : knF k3l (inU k3l [0, 1, 2]).length (inU k3l [0, 1, 2]) = [[ka, kb, kc]] := by kernel_rfl
theorem sortN_one (k : Nat) : sortN [k] = [k] := by simp [sortN]
theorem setsF_zero {l : List Rel} {g : List Nat} : setsF l 0 g = if cycL (woL l g) = [] then [sortN g] else [] := rfl
theorem k3_s0 : setsF k3l 0 [] = [] := by
  rw [setsF_zero, if_neg (by rw [show cycL (woL k3l []) = [[0, 1, 2]] by kernel_rfl]; simp)]
theorem k3_s1 : setsF k3l 1 [] = [[0], [1], [2]] := by
  have h0 : cycL (woL k3l []) = [[0, 1, 2]] := by kernel_rfl
  have h1 : cyc0 (woL k3l []) = [0, 1, 2] := by unfold cyc0; rw [h0]; rfl
  have e0 : cycL (woL k3l [0]) = [] := by kernel_rfl
  have e1 : cycL (woL k3l [1]) = [] := by kernel_rfl
  have e2 : cycL (woL k3l [2]) = [] := by kernel_rfl
  have hl : leftI [] k3l.length = [0, 1, 2] := by kernel_rfl
  simp only [setsF, h0, h1, hl]
  simp [e0, e1, e2, sortN_one]
theorem k3_rep : repL k3l 1 = [[0], [1], [2]] := by unfold repL; rw [k3_s1]; kernel_rfl
theorem k4_s0 : setsF k4l 0 [] = [] := by
  rw [setsF_zero, if_neg (by rw [show cycL (woL k4l []) = [[0, 3]] by kernel_rfl]; simp)]
theorem k4_s1 : setsF k4l 1 [] = [[0]] := by
  have h0 : cycL (woL k4l []) = [[0, 3]] := by kernel_rfl
  have h1 : cyc0 (woL k4l []) = [0, 3] := by unfold cyc0; rw [h0]; rfl
  have e0 : cycL (woL k4l [0]) = [] := by kernel_rfl
  have e3 : cycL (woL k4l [3]) = [[0, 1, 2]] := by kernel_rfl
  have hl : leftI [] k4l.length = [0, 1, 2, 3] := by kernel_rfl
  simp only [setsF, h0, h1, hl]
  simp [e0, e3, sortN_one]
theorem k4_rep : repL k4l 1 = [[0]] := by unfold repL; rw [k4_s1]; kernel_rfl
theorem rep_at {C : Mem} {l : List Rel} {r : Value} (hE : errU l = 0) (hi : (invL l).length ≤ 40) (h : RepsRes C l r) (h0 : setsF l 0 [] = []) (h1 : setsF l 1 [] ≠ []) (hlen : (repL l 1).length ≤ 200) : ∃ v, r = .tuple #[v, .int .i64 0] ∧ LL C v (repL l 1) := by
  rcases reps_ok hE hi h with ⟨n, hn, hno, hne, h2⟩ | ⟨h2, _⟩
  · have hn1 : n = 1 := by
      rcases Nat.lt_trichotomy n 1 with h3 | h3 | h3
      · have : n = 0 := by omega
        subst this; exact absurd h0 hne
      · exact h3
      · exact absurd (hno 1 h3) h1
    subst hn1
    rcases h2 with ⟨h2, _⟩ | ⟨_, h2⟩
    · omega
    · exact h2
  · exact absurd (h2 1 (by decide)) h1
theorem same_t (C : Mem) (va vb : Value) (x : List (List Nat)) (ha : LL C va x) (hb : LL C vb x) (hl : x.length ≤ 100000000) (h2 : ∀ y ∈ x, y.length ≤ 1000000) : Gives cx.P 16 [va, vb] C (.bool true) := by
  have := same_fn C va vb x x ha hb hl hl h2 h2
  simpa using this
theorem LL.one {C : Mem} {v w : Value} {a : List Nat} (hv : Sl C 1 v [[w]]) (hw : Sl C 1 w (a.map encN)) : LL C v [a] := ⟨[w], hv, rfl, fun j u o h1 h2 => by
  cases j with
  | zero => simp at h1 h2; subst h1; subst h2; exact hw
  | succ j => simp at h1⟩
theorem LL.three {C : Mem} {v w1 w2 w3 : Value} {a b c : List Nat} (hv : Sl C 1 v [[w1], [w2], [w3]]) (h1 : Sl C 1 w1 (a.map encN)) (h2 : Sl C 1 w2 (b.map encN)) (h3 : Sl C 1 w3 (c.map encN)) : LL C v [a, b, c] := ⟨[w1, w2, w3], hv, rfl, fun j u o k1 k2 => by
  match j with
  | 0 => simp at k1 k2; subst k1; subst k2; exact h1
  | 1 => simp at k1 k2; subst k1; subst k2; exact h2
  | 2 => simp at k1 k2; subst k1; subst k2; exact h3
  | j + 3 => simp at k1⟩
set_option maxHeartbeats 8000000 in
theorem known23_fn (C : Mem) : Pur cx.P 11 [] C fun u _ => u = .bool true := by
  refine Fn.intro (by kernel_rfl) Tryz.func11 rfl 83 rfl rfl (fun w0 => ?_)
  refine G.region rfl (fun R hR => ?_)
  refine D.pure rfl rfl rfl rfl rfl rfl ?_
  refine D.done [] trivial (hR _ _ _ rfl ?_); clear hR R
  refine G.region rfl (fun R hR => ?_)
  refine D.build [.int .i64 1, strV kb, strV ka] rfl rfl rfl rfl rfl rfl rfl rfl ?_
  refine D.build [.int .i64 1, strV kc, strV kb] rfl rfl rfl rfl rfl rfl rfl rfl ?_
  refine D.build [.int .i64 2, strV ka, strV kc] rfl rfl rfl rfl rfl rfl rfl rfl ?_
  refine D.buildSliceV (k3l.map Rel.enc) rfl rfl rfl rfl rfl rfl rfl rfl rfl rfl rfl rfl (fun _ => rfl) (fun b13 C13 hle13 hs13 => ?_)
  refine D.pure rfl rfl rfl rfl rfl rfl ?_
  refine D.done [(1, [], _)] ⟨rfl, trivial⟩ (hR _ _ _ rfl ?_); clear hR R
  refine G.region rfl (fun R hR => ?_)
  refine D.pure rfl rfl rfl rfl rfl rfl ?_
  refine D.callP (cycles_fn _ _ k3l hs13 (by decide) k3_made.short) rfl rfl rfl rfl rfl rfl rfl (fun _ => rfl) (fun v16 C16 hle16 hq16 => ?_)
  obtain ⟨vc, rfl, hvc⟩ : ∃ v, v16 = .tuple #[v, .int .i64 0] ∧ LL C16 v [[0, 1, 2]] := by
    rcases cycs_ok k3_made.err hq16 with ⟨h, _⟩ | ⟨_, h⟩
    · rw [k3_cyc] at h; simp at h
    · rw [k3_cyc] at h; exact h
  iterate 5 refine D.pure rfl rfl rfl rfl rfl rfl ?_
  refine D.done [(1, [], _), (2, [], _), (3, [], _)] ⟨rfl, rfl, rfl, trivial⟩ (hR _ _ _ rfl ?_); clear hR R
  refine G.region rfl (fun R hR => ?_)
  refine D.pure rfl rfl rfl rfl rfl rfl ?_
  refine D.callP (repairs_fn _ _ k3l (hs13.mono (by (repeat (first | exact Mem.le.refl _ | assumption | (apply Mem.le.trans; rotate_left; assumption))))) (by decide) k3_made.short) rfl rfl rfl rfl rfl rfl rfl (fun _ => rfl) (fun v21 C21 hle21 hq21 => ?_)
  obtain ⟨vr, rfl, hvr⟩ := rep_at k3_made.err (by rw [k3_inv]; decide) hq21 k3_s0 (by rw [k3_s1]; simp) (by rw [k3_rep]; decide)
  rw [k3_rep] at hvr
  iterate 5 refine D.pure rfl rfl rfl rfl rfl rfl ?_
  refine D.done [(1, [], _), (2, [], _), (3, [], _), (4, [], _), (5, [], _)] ⟨rfl, rfl, rfl, rfl, rfl, trivial⟩ (hR _ _ _ rfl ?_); clear hR R
  refine G.region rfl (fun R hR => ?_)
  refine D.pure rfl rfl rfl rfl rfl rfl ?_
  refine D.callP (knots_fn _ _ k3l (hs13.mono (by (repeat (first | exact Mem.le.refl _ | assumption | (apply Mem.le.trans; rotate_left; assumption))))) (by decide) k3_made.short) rfl rfl rfl rfl rfl rfl rfl (fun _ => rfl) (fun v26 C26 hle26 hq26 => ?_)
  obtain ⟨vk, ovk, rfl, hvk, hok⟩ := knots_ok k3_made.err hq26
  rw [k3_inv, k3_knots] at hok
  obtain ⟨w0, rfl⟩ : ∃ w0, ovk = [w0] := by
    have := hok.1
    match ovk, this with
    | [w0], _ => exact ⟨w0, rfl⟩
  have hw0 := hok.2 0 w0 _ rfl rfl
  obtain ⟨Ak, ck, rfl, _⟩ := id hvk
  obtain ⟨A0, c0, rfl, _⟩ := id hw0
  iterate 5 refine D.pure rfl rfl rfl rfl rfl rfl ?_
  refine D.done [(1, [], _), (2, [], _), (3, [], _), (4, [], _), (5, [], _), (6, [], _), (7, [], _)] ⟨rfl, rfl, rfl, rfl, rfl, rfl, rfl, trivial⟩ (hR _ _ _ rfl ?_); clear hR R
  refine G.region rfl (fun R hR => ?_)
  refine D.pure rfl rfl rfl rfl rfl rfl ?_
  refine D.build [.int .i64 2, strV ka, strV kb] rfl rfl rfl rfl rfl rfl rfl rfl ?_
  refine D.buildSlice [Rel.enc ⟨2, ka, kb⟩] rfl rfl rfl rfl rfl rfl rfl rfl rfl rfl rfl rfl (fun _ => rfl) (fun p32 C32 hle32 hs32 => ?_)
  refine D.appendC rfl rfl rfl rfl rfl rfl rfl rfl rfl rfl (hs13.mono (by (repeat (first | exact Mem.le.refl _ | assumption | (apply Mem.le.trans; rotate_left; assumption))))) hs32 (.inr (by decide)) (by decide) (by decide) (fun _ => rfl) (fun v33 C33 hle33 hs33 => ?_)
  refine D.callP (repairs_fn _ _ k4l hs33 (by decide) k4_made.short) rfl rfl rfl rfl rfl rfl rfl (fun _ => rfl) (fun v34 C34 hle34 hq34 => ?_)
  obtain ⟨vq, rfl, hvq⟩ := rep_at k4_made.err (by rw [k4_inv]; decide) hq34 k4_s0 (by rw [k4_s1]; simp) (by rw [k4_rep]; decide)
  rw [k4_rep] at hvq
  iterate 5 refine D.pure rfl rfl rfl rfl rfl rfl ?_
  refine D.done [(2, [], _), (3, [], _), (4, [], _), (5, [], _), (6, [], _), (7, [], _), (8, [], _), (9, [], _)] ⟨rfl, rfl, rfl, rfl, rfl, rfl, rfl, rfl, trivial⟩ (hR _ _ _ rfl ?_); clear hR R
  refine G.region rfl (fun R hR => ?_)
  iterate 4 refine D.pure rfl rfl rfl rfl rfl rfl ?_
  refine D.buildSliceV (([0, 1, 2] : List Nat).map encN) rfl rfl rfl rfl rfl rfl rfl rfl rfl rfl rfl rfl (fun _ => rfl) (fun b41 C41 hle41 hs41 => ?_)
  refine D.buildSliceV [[.slice (some ⟨b41, 0, none⟩) 3 3]] rfl rfl rfl rfl rfl rfl rfl rfl rfl rfl rfl rfl (fun _ => rfl) (fun b42 C42 hle42 hs42 => ?_)
  refine D.gives (fun _ => (same_t _ _ _ [[0, 1, 2]] (hvc.mono (by (repeat (first | exact Mem.le.refl _ | assumption | (apply Mem.le.trans; rotate_left; assumption))))) (LL.one hs42 (hs41.mono (by (repeat (first | exact Mem.le.refl _ | assumption | (apply Mem.le.trans; rotate_left; assumption)))))) (by decide) (by decide))) rfl rfl rfl rfl rfl rfl rfl rfl rfl ?_
  refine D.pickAnd rfl rfl rfl rfl rfl rfl rfl rfl ?_
  iterate 3 refine D.pure rfl rfl rfl rfl rfl rfl ?_
  refine D.pickAnd rfl rfl rfl rfl rfl rfl rfl rfl ?_
  iterate 2 refine D.pure rfl rfl rfl rfl rfl rfl ?_
  refine D.buildSliceV (([0] : List Nat).map encN) rfl rfl rfl rfl rfl rfl rfl rfl rfl rfl rfl rfl (fun _ => rfl) (fun b51 C51 hle51 hs51 => ?_)
  refine D.buildSliceV (([1] : List Nat).map encN) rfl rfl rfl rfl rfl rfl rfl rfl rfl rfl rfl rfl (fun _ => rfl) (fun b52 C52 hle52 hs52 => ?_)
  refine D.buildSliceV (([2] : List Nat).map encN) rfl rfl rfl rfl rfl rfl rfl rfl rfl rfl rfl rfl (fun _ => rfl) (fun b53 C53 hle53 hs53 => ?_)
  refine D.buildSliceV [[.slice (some ⟨b51, 0, none⟩) 1 1], [.slice (some ⟨b52, 0, none⟩) 1 1], [.slice (some ⟨b53, 0, none⟩) 1 1]] rfl rfl rfl rfl rfl rfl rfl rfl rfl rfl rfl rfl (fun _ => rfl) (fun b54 C54 hle54 hs54 => ?_)
  refine D.gives (fun _ => (same_t _ _ _ [[0], [1], [2]] (hvr.mono (by (repeat (first | exact Mem.le.refl _ | assumption | (apply Mem.le.trans; rotate_left; assumption))))) (LL.three (hs54.mono (by (repeat (first | exact Mem.le.refl _ | assumption | (apply Mem.le.trans; rotate_left; assumption))))) (hs51.mono (by (repeat (first | exact Mem.le.refl _ | assumption | (apply Mem.le.trans; rotate_left; assumption))))) (hs52.mono (by (repeat (first | exact Mem.le.refl _ | assumption | (apply Mem.le.trans; rotate_left; assumption))))) (hs53.mono (by (repeat (first | exact Mem.le.refl _ | assumption | (apply Mem.le.trans; rotate_left; assumption)))))) (by decide) (by decide))) rfl rfl rfl rfl rfl rfl rfl rfl rfl ?_
  refine D.pickAnd rfl rfl rfl rfl rfl rfl rfl rfl ?_
  iterate 3 refine D.pure rfl rfl rfl rfl rfl rfl ?_
  refine D.pickAnd rfl rfl rfl rfl rfl rfl rfl rfl ?_
  iterate 4 refine D.pure rfl rfl rfl rfl rfl rfl ?_
  refine D.pickAnd rfl rfl rfl rfl rfl rfl rfl rfl ?_
  iterate 2 refine D.pure rfl rfl rfl rfl rfl rfl ?_
  refine D.index rfl rfl rfl rfl rfl rfl rfl rfl rfl rfl (fun hg => ⟨(hvk.mono (by (repeat (first | exact Mem.le.refl _ | assumption | (apply Mem.le.trans; rotate_left; assumption))))), (by decide), rfl⟩) (fun _ => rfl) rfl (fun p68 hp68 => ?_)
  refine D.loadP rfl rfl rfl rfl rfl rfl hp68 rfl rfl rfl ?_
  iterate 2 refine D.pure rfl rfl rfl rfl rfl rfl ?_
  refine D.pickAnd rfl rfl rfl rfl rfl rfl rfl rfl ?_
  iterate 3 refine D.pure rfl rfl rfl rfl rfl rfl ?_
  refine D.pickAnd rfl rfl rfl rfl rfl rfl rfl rfl ?_
  iterate 2 refine D.pure rfl rfl rfl rfl rfl rfl ?_
  refine D.buildSliceV (([0] : List Nat).map encN) rfl rfl rfl rfl rfl rfl rfl rfl rfl rfl rfl rfl (fun _ => rfl) (fun b79 C79 hle79 hs79 => ?_)
  refine D.buildSliceV [[.slice (some ⟨b79, 0, none⟩) 1 1]] rfl rfl rfl rfl rfl rfl rfl rfl rfl rfl rfl rfl (fun _ => rfl) (fun b80 C80 hle80 hs80 => ?_)
  refine D.gives (fun _ => (same_t _ _ _ [[0]] (hvq.mono (by (repeat (first | exact Mem.le.refl _ | assumption | (apply Mem.le.trans; rotate_left; assumption))))) (LL.one hs80 (hs79.mono (by (repeat (first | exact Mem.le.refl _ | assumption | (apply Mem.le.trans; rotate_left; assumption)))))) (by decide) (by decide))) rfl rfl rfl rfl rfl rfl rfl rfl rfl ?_
  refine D.pickAnd rfl rfl rfl rfl rfl rfl rfl rfl ?_
  refine D.pure rfl rfl rfl rfl rfl rfl ?_
  refine D.done [(0, [], _)] ⟨rfl, trivial⟩ (hR _ _ _ rfl ?_); clear hR R
  refine G.retN (G.dropAll (G.fin1 rfl rfl ?_))
  exact ⟨rfl, rfl⟩
end Go.Proofs.YtcghlfepfcagbaaGreat
namespace Go.Proofs.YtcghlfepfcagbaaGreat
open Go Go.Jog
set_option maxRecDepth 100000

/-! ### At most 8 arcs: few smallest cycles -/
theorem Chain.next {p : List Arc3} {u v : Nat} (h : Chain u p v) {j : Nat} {a b : Arc3} (ha : p[j]? = some a) (hb : p[j + 1]? = some b) : b.lo = a.up := by
  have h1 := (h.split ha).2
  have hlt := (List.getElem?_eq_some_iff.1 ha).1
  rw [List.drop_eq_getElem_cons hlt, (List.getElem?_eq_some_iff.1 ha).2] at h1
  have hlt2 := (List.getElem?_eq_some_iff.1 hb).1
  have h2 := h1.2
  rw [List.drop_eq_getElem_cons hlt2, (List.getElem?_eq_some_iff.1 hb).2] at h2
  exact h2.1
theorem cyc_set_inj {A p q : List Arc3} (hix : ∀ a ∈ A, ∀ b ∈ A, a.i = b.i → a = b) (hp : Cyc A p) (hq : Cyc A q) (hn : (lows q).Nodup) (hl : p.length = q.length) (hs : ∀ x ∈ p, x ∈ q) (hs2 : ∀ x ∈ q, x ∈ p) : p = q := by
  obtain ⟨a, p', rfl, hi, hc, hlt⟩ := hp
  obtain ⟨b, q', rfl, hi2, hc2, hlt2⟩ := hq
  have hab : a = b := by
    have h1 := hs a (by simp)
    have h2 := hs2 b (by simp)
    refine hix a (hi a (by simp)) b (hi2 b (by simp)) ?_
    rcases List.mem_cons.1 h1 with h1 | h1
    · rw [h1]
    · rcases List.mem_cons.1 h2 with h2 | h2
      · rw [h2]
      · have := hlt2 a h1
        have := hlt b h2
        omega
  have key : ∀ j : Nat, (a :: p')[j]? = (b :: q')[j]? := by
    intro j
    induction j with
    | zero => simp [hab]
    | succ j ih =>
      cases hpj : (a :: p')[j + 1]? with
      | none =>
        rw [List.getElem?_eq_none_iff] at hpj
        exact (List.getElem?_eq_none (by omega)).symm
      | some x =>
        have hlt3 := (List.getElem?_eq_some_iff.1 hpj).1
        obtain ⟨e, he⟩ : ∃ e, (a :: p')[j]? = some e := ⟨(a :: p')[j]'(by omega), List.getElem?_eq_getElem _⟩
        have he2 : (b :: q')[j]? = some e := by rw [← ih]; exact he
        obtain ⟨y, hy⟩ : ∃ y, (b :: q')[j + 1]? = some y := ⟨(b :: q')[j + 1]'(by omega), List.getElem?_eq_getElem _⟩
        have h1 := Chain.next hc he hpj
        have h2 := Chain.next hc2 he2 hy
        obtain ⟨k, hk⟩ := List.getElem?_of_mem (hs x (List.mem_of_getElem? hpj))
        have l1 : (lows (b :: q'))[k]? = some x.lo := by rw [lows, List.getElem?_map, hk]; rfl
        have l2 : (lows (b :: q'))[j + 1]? = some x.lo := by rw [lows, List.getElem?_map, hy]; simp [h1, h2]
        have hkj := (List.getElem?_inj (List.getElem?_eq_some_iff.1 l1).1 hn).1 (l1.trans l2.symm)
        subst hkj
        exact hk.symm
  exact List.ext_getElem? key
def maskN : List Nat → Nat
  | [] => 0
  | k :: c => maskN c ||| 2 ^ k
theorem maskN_bit : ∀ {c : List Nat} {i : Nat}, (maskN c).testBit i = true ↔ i ∈ c
  | [], i => by simp [maskN]
  | k :: c, i => by
    simp only [maskN, Nat.testBit_or, Bool.or_eq_true, maskN_bit (c := c), Nat.testBit_two_pow, decide_eq_true_eq, List.mem_cons]
    constructor
    · rintro (h | h)
      · exact .inr h
      · exact .inl h.symm
    · rintro (h | h)
      · exact .inr h.symm
      · exact .inl h
def popN (x : Nat) : Nat := ((List.range 8).filter fun i => x.testBit i).length
theorem maskN_lt {c : List Nat} (h : ∀ k ∈ c, k < 8) : maskN c < 256 := by
  refine Nat.lt_pow_two_of_testBit (n := 8) _ (fun i hi => ?_)
  rw [Bool.eq_false_iff]
  intro hb
  have := h i (maskN_bit.1 hb)
  omega
theorem maskN_pop {c : List Nat} (h : ∀ k ∈ c, k < 8) (hn : c.Nodup) : popN (maskN c) = c.length := by
  unfold popN
  refine (List.Perm.length_eq ?_)
  refine (List.perm_ext_iff_of_nodup (List.nodup_range.filter _) hn).2 (fun i => ?_)
  rw [List.mem_filter, List.mem_range, maskN_bit]
  exact ⟨fun h => h.2, fun h2 => ⟨h i h2, h2⟩⟩
theorem pop_few : ∀ m, m ≤ 8 → ((List.range 256).filter fun x => popN x == m).length ≤ 70 := by
  have : (List.range 9).all (fun m => decide (((List.range 256).filter fun x => popN x == m).length ≤ 70)) = true := by kernel_rfl
  intro m hm
  have := List.all_eq_true.1 this m (List.mem_range.2 (by omega))
  exact of_decide_eq_true this
theorem cyc_facts {l : List Rel} {m : Nat} {p : List Arc3} (hl : l.length ≤ 100000) (hs : Short l m l.length) (hp : Cyc (arcsOf l) p) (hpl : p.length = m) : (lows p).Nodup ∧ (nums p).Nodup := by
  obtain ⟨a, q, rfl, hi, hch, hlt⟩ := id hp
  have hmin : ∀ k w, 0 < k → Walk (arcsOf l) k w w → (a :: q).length ≤ k := fun k w hk hw => by
    rw [hpl]
    obtain ⟨j, rfl⟩ : ∃ j, k = j + 1 := ⟨k - 1, by omega⟩
    obtain ⟨b, hb2, hbl, hw2⟩ := Walk.succ.1 hw
    subst hbl
    rcases hs with ⟨h3, _⟩ | ⟨_, _, h3⟩
    · simp at hpl; omega
    · exact h3 b hb2 (arc_lt hb2) j hw2
  have hn := short_nodup hi hch hmin
  refine ⟨hn, ?_⟩
  have hp : (a :: q).Nodup := List.Pairwise.of_map (·.lo) (fun x y h e => h (congrArg (·.lo) e)) hn
  refine List.Pairwise.map _ (fun x y h => h) ?_
  rw [List.pairwise_iff_getElem]
  intro i j hi' hj' hij e
  have := (gok_of hl).ix.inj _ (hi _ (List.getElem_mem hi')) _ (hi _ (List.getElem_mem hj')) e
  have := (List.getElem_inj hp).1 this
  omega
theorem cycL_len {l : List Rel} (hl : l.length ≤ 8) : (cycL l).length ≤ 70 ∧ ∀ c ∈ cycL l, c.length ≤ 8 := by
  obtain ⟨m, hs⟩ := short_ex l
  have hl5 : l.length ≤ 100000 := by omega
  have hmem : ∀ c ∈ cycL l, ∃ p, Cyc (arcsOf l) p ∧ p.length = m ∧ nums p = c ∧ (lows p).Nodup ∧ c.Nodup ∧ ∀ k ∈ c, k < 8 := by
    rw [cycL_eq hl5 hs]
    intro c hc
    rcases Nat.eq_zero_or_pos m with rfl | hm
    · rw [cycAll_zero] at hc; cases hc
    · obtain ⟨p, h1, h2, rfl⟩ := (cycAll_mem hs hm).1 hc
      obtain ⟨h3, h4⟩ := cyc_facts hl5 hs h1 h2
      obtain ⟨_, _, _, hi, _⟩ := id h1
      exact ⟨p, h1, h2, rfl, h3, h4, fun k hk => by have := nums_lt hi k hk; omega⟩
  have hlen : ∀ c ∈ cycL l, c.length = m ∧ c.length ≤ 8 := fun c hc => by
    obtain ⟨p, _, h2, rfl, _, h5, h6⟩ := hmem c hc
    have := List.Nodup.length_le_of_subset h5 (l₂ := List.range 8) (fun k hk => List.mem_range.2 (h6 k hk))
    exact ⟨by simp [nums, h2], by simpa using this⟩
  refine ⟨?_, fun c hc => (hlen c hc).2⟩
  have hsort : (cycL l).Pairwise Beats := by
    rw [cycL_eq hl5 hs]
    rcases Nat.eq_zero_or_pos m with rfl | hm
    · rw [cycAll_zero]; exact List.Pairwise.nil
    · have hmin : ∀ a ∈ arcsOf l, ∀ j, Walk (arcsOf l) j a.up a.lo → m ≤ j + 1 := fun a ha j hw => by
        rcases hs with ⟨h3, _⟩ | ⟨_, _, h3⟩
        · omega
        · exact h3 a ha (arc_lt ha) j hw
      rw [show cycAll l m = cat (cycW l m) l.length from cat_congr (fun i _ => cycAt_eq hm hmin)]
      exact cycW_sorted l m
  have hnd : ((cycL l).map maskN).Nodup := by
    unfold List.Nodup
    rw [List.pairwise_map]
    refine List.Pairwise.imp_of_mem (fun {a b} ha hb hab e => ?_) hsort
    obtain ⟨p, p1, p2, rfl, p3, p4, p5⟩ := hmem a ha
    obtain ⟨q, q1, q2, rfl, q3, q4, q5⟩ := hmem b hb
    have hix := (gok_of hl5).ix.inj
    have hset : ∀ k, k ∈ nums p ↔ k ∈ nums q := fun k => by rw [← maskN_bit, ← maskN_bit, e]
    have hsub : ∀ {p q : List Arc3}, Cyc (arcsOf l) p → Cyc (arcsOf l) q → (∀ k, k ∈ nums p → k ∈ nums q) → ∀ x ∈ p, x ∈ q := fun {p q} hp hq h x hx => by
      obtain ⟨_, _, _, hi, _⟩ := hp
      obtain ⟨_, _, _, hi2, _⟩ := hq
      obtain ⟨y, hy, hxy⟩ := List.mem_map.1 (h x.i (List.mem_map.2 ⟨x, hx, rfl⟩))
      rw [← hix y (hi2 y hy) x (hi x hx) hxy]; exact hy
    have := cyc_set_inj hix p1 q1 q3 (by omega) (hsub p1 q1 (fun k => (hset k).1)) (hsub q1 p1 (fun k => (hset k).2))
    rw [this] at hab
    exact hab.irrefl
  rcases Nat.lt_or_ge 8 m with hm | hm
  · have : cycL l = [] := by
      refine List.eq_nil_iff_forall_not_mem.2 (fun c hc => ?_)
      have := hlen c hc; omega
    rw [this]; simp
  · have := List.Nodup.length_le_of_subset hnd (l₂ := (List.range 256).filter fun x => popN x == m) (fun x hx => by
      obtain ⟨c, hc, rfl⟩ := List.mem_map.1 hx
      obtain ⟨p, _, h2, h3, _, h5, h6⟩ := hmem c hc
      rw [List.mem_filter, List.mem_range]
      exact ⟨maskN_lt h6, by rw [maskN_pop h6 h5, (hlen c hc).1]; simp⟩)
    rw [List.length_map] at this
    exact Nat.le_trans this (pop_few m hm)

theorem lequal_t (C : Mem) (va vb : Value) (x : List Nat) (ha : Sl C 1 va (x.map encN)) (hb : Sl C 1 vb (x.map encN)) (hl : x.length ≤ 1000000) : Gives cx.P 18 [va, vb] C (.bool true) := by
  have := lequal_fn C va vb x x ha hb hl hl
  simpa using this
set_option maxHeartbeats 4000000 in
theorem ccycles_fn (C : Mem) (v : Value) (ss : List Seen) (hv : Sl C 3 v (ss.map Seen.enc)) : Pur cx.P 3 [v] C fun u _ => u = .bool true := by
  obtain ⟨A0, c0, rfl, _⟩ := id hv
  simp only [List.length_map] at hv ⊢
  refine Fn.intro (by kernel_rfl) Tryz.func3 rfl 59 rfl rfl (fun w0 => ?_)
  refine G.region rfl (fun R hR => ?_)
  refine D.pure rfl rfl rfl rfl rfl rfl ?_
  refine D.done [(0, [], _)] ⟨rfl, trivial⟩ (hR _ _ _ rfl ?_); clear hR R
  refine G.region rfl (fun R hR => ?_)
  refine D.callP (known23_fn _) rfl rfl rfl rfl rfl rfl rfl (fun _ => rfl) (fun v9 C9 hle9 hq9 => ?_)
  obtain rfl := hq9
  iterate 3 refine D.pure rfl rfl rfl rfl rfl rfl ?_
  refine D.gives (fun _ => (fits_fn _ _ _ _)) rfl rfl rfl rfl rfl rfl rfl rfl rfl ?_
  refine D.pure rfl rfl rfl rfl rfl rfl ?_
  refine D.pickOr rfl rfl rfl rfl rfl rfl rfl rfl ?_
  refine D.done [(0, [], _), (15, [], _)] ⟨rfl, rfl, trivial⟩ (hR _ _ _ rfl ?_); clear hR R
  refine G.cond rfl (fun h15 => ?_) (fun h15 => ?_)
  · skip
    refine G.region rfl (fun R hR => ?_)
    refine D.callP (known23_fn _) rfl rfl rfl rfl rfl rfl rfl (fun _ => rfl) (fun v16 C16 hle16 hq16 => ?_)
    obtain rfl := hq16
    refine D.pure rfl rfl rfl rfl rfl rfl ?_
    refine D.done [(2, [], _)] ⟨rfl, trivial⟩ (hR _ _ _ rfl ?_); clear hR R
    refine G.retN (G.dropAll (G.fin1 rfl rfl ?_))
    exact ⟨rfl, rfl⟩
  · skip
    refine G.region rfl (fun R hR => ?_)
    refine D.pure rfl rfl rfl rfl rfl rfl ?_
    refine D.callP (make_fn _ _ ss (hv.mono (by (repeat (first | exact Mem.le.refl _ | assumption | (apply Mem.le.trans; rotate_left; assumption)))))) rfl rfl rfl rfl rfl rfl rfl (fun _ => rfl) (fun v18 C18 hle18 hq18 => ?_)
    obtain ⟨l, hl⟩ : ∃ l, makeL ss = l := ⟨_, rfl⟩
    have hM : Made l := by rw [← hl]; exact made_makeL ss
    rw [hl] at hq18
    obtain ⟨Al, cl, rfl, hlc, _⟩ := id hq18
    simp only [List.length_map] at hq18 hlc
    have hl8 := hM.1
    have hE := hM.err
    simp only [List.length_map]
    refine D.pure rfl rfl rfl rfl rfl rfl ?_
    refine D.done [(3, [], _)] ⟨rfl, trivial⟩ (hR _ _ _ rfl ?_); clear hR R
    refine G.region rfl (fun R hR => ?_)
    refine D.pure rfl rfl rfl rfl rfl rfl ?_
    refine D.callP (cycles_fn _ _ l (hq18.mono (by (repeat (first | exact Mem.le.refl _ | assumption | (apply Mem.le.trans; rotate_left; assumption))))) (by omega) hM.short) rfl rfl rfl rfl rfl rfl rfl (fun _ => rfl) (fun v21 C21 hle21 hq21 => ?_)
    obtain ⟨hc70, hc8⟩ := cycL_len hl8
    obtain ⟨vc, rfl, hvc⟩ : ∃ v, v21 = .tuple #[v, .int .i64 0] ∧ LL C21 v (cycL l) := by
      rcases cycs_ok hE hq21 with ⟨h, _⟩ | ⟨_, h⟩
      · omega
      · exact h
    obtain ⟨ovc, hvs, hvo⟩ := id hvc
    obtain ⟨A4, c4, hqe, _⟩ := id hvs
    have hovl := hvo.1
    rw [List.length_map, hovl] at hqe
    subst hqe
    iterate 5 refine D.pure rfl rfl rfl rfl rfl rfl ?_
    refine D.done [(3, [], _), (4, [], _), (5, [], _)] ⟨rfl, rfl, rfl, trivial⟩ (hR _ _ _ rfl ?_); clear hR R
    refine G.region rfl (fun R hR => ?_)
    refine D.pure rfl rfl rfl rfl rfl rfl ?_
    refine D.callP (cycle_fn _ _ l (hq18.mono (by (repeat (first | exact Mem.le.refl _ | assumption | (apply Mem.le.trans; rotate_left; assumption))))) (by omega) hM.short) rfl rfl rfl rfl rfl rfl rfl (fun _ => rfl) (fun v26 C26 hle26 hq26 => ?_)
    obtain ⟨Ac, cc, fc, rfl, hcs, hfc⟩ := cyc_ok hE hq26
    have hfl : fc = decide ((0 : Int) < ((cycL l).length : Nat)) := by
      rw [Bool.eq_iff_iff, hfc, decide_eq_true_eq]
      constructor
      · intro h; have := List.length_pos_iff.2 h; omega
      · intro h e; rw [e] at h; simp at h
    subst hfl
    iterate 7 refine D.pure rfl rfl rfl rfl rfl rfl ?_
    refine D.done [(3, [], _), (4, [], _), (5, [], _), (6, [], _), (7, [], _), (8, [], _)] ⟨rfl, rfl, rfl, rfl, rfl, rfl, trivial⟩ (hR _ _ _ rfl ?_); clear hR R
    refine G.region rfl (fun R hR => ?_)
    iterate 2 refine D.pure rfl rfl rfl rfl rfl rfl ?_
    refine D.callP (lcycles_fn _ _ l (hq18.mono (by (repeat (first | exact Mem.le.refl _ | assumption | (apply Mem.le.trans; rotate_left; assumption))))) hl8) rfl rfl rfl rfl rfl rfl rfl (fun _ => rfl) (fun v32 C32 hle32 hq32 => ?_)
    refine D.gives2 (same_t _ _ _ (cycL l) (hvc.mono (by (repeat (first | exact Mem.le.refl _ | assumption | (apply Mem.le.trans; rotate_left; assumption))))) (hq32.mono (by (repeat (first | exact Mem.le.refl _ | assumption | (apply Mem.le.trans; rotate_left; assumption))))) (by omega) (fun y hy => by have := hc8 y hy; omega)) rfl rfl rfl rfl rfl rfl rfl (fun _ => rfl) ?_
    iterate 4 refine D.pure rfl rfl rfl rfl rfl rfl ?_
    refine D.pickOr rfl rfl rfl rfl rfl rfl rfl rfl ?_
    iterate 3 refine D.pure rfl rfl rfl rfl rfl rfl ?_
    refine D.pickOr rfl rfl rfl rfl rfl rfl rfl rfl ?_
    iterate 6 refine D.pure rfl rfl rfl rfl rfl rfl ?_
    refine D.pickOr rfl rfl rfl rfl rfl rfl rfl rfl ?_
    refine D.done [(4, [], _), (6, [], _), (7, [], _), (49, [], _)] ⟨rfl, rfl, rfl, rfl, trivial⟩ (hR _ _ _ rfl ?_); clear hR R
    refine G.cond rfl (fun h49 => ?_) (fun h49 => ?_)
    · skip
      exfalso
      simp at h49
    · skip
      obtain ⟨A0, n0, hrow⟩ : ∃ A0 n0, (0 : Int) < ((cycL l).length : Nat) → (ovc.map fun x => [x])[0]? = some [.slice A0 (cyc0 l).length n0] ∧ Sl C21 1 (.slice A0 (cyc0 l).length n0) ((cyc0 l).map encN) := by
        cases hcy : cycL l with
        | nil => exact ⟨none, 0, fun h => by simp at h⟩
        | cons x r =>
          have hx : (cycL l)[0]? = some x := by rw [hcy]; rfl
          have hx0 : cyc0 l = x := by unfold cyc0; rw [hcy]; rfl
          obtain ⟨A, c, h1, h2, h3⟩ := hvo.at hx
          rw [hx0]
          exact ⟨A, c, fun _ => ⟨h2, h3⟩⟩
      have hlen0 : (cyc0 l).length ≤ 8 := by
        unfold cyc0
        cases hcy : cycL l with
        | nil => simp
        | cons x r => exact hc8 x (by rw [hcy]; simp)
      refine G.region rfl (fun R hR => ?_)
      iterate 5 refine D.pure rfl rfl rfl rfl rfl rfl ?_
      refine D.index rfl rfl rfl rfl rfl rfl rfl rfl rfl rfl (fun hg => ⟨(hvs.mono (by (repeat (first | exact Mem.le.refl _ | assumption | (apply Mem.le.trans; rotate_left; assumption))))), (by have h : (!decide ((0 : Int) < ((cycL l).length : Nat))) = false := hg.1; simp at h; omega), (hrow (by have h : (!decide ((0 : Int) < ((cycL l).length : Nat))) = false := hg.1; simp at h; omega)).1⟩) (fun _ => rfl) rfl (fun p55 hp55 => ?_)
      refine D.loadP rfl rfl rfl rfl rfl rfl hp55 rfl rfl rfl ?_
      refine D.gives (fun hg => (lequal_t _ _ _ (cyc0 l) (hcs.mono (by (repeat (first | exact Mem.le.refl _ | assumption | (apply Mem.le.trans; rotate_left; assumption))))) ((hrow (by have h : (!decide ((0 : Int) < ((cycL l).length : Nat))) = false := hg.1; simp at h; omega)).2.mono (by (repeat (first | exact Mem.le.refl _ | assumption | (apply Mem.le.trans; rotate_left; assumption))))) (by omega))) rfl rfl rfl rfl rfl rfl rfl rfl rfl ?_
      refine D.pickOr rfl rfl rfl rfl rfl rfl rfl rfl ?_
      refine D.pure rfl rfl rfl rfl rfl rfl ?_
      refine D.done [(2, [], _)] ⟨rfl, trivial⟩ (hR _ _ _ rfl ?_); clear hR R
      refine G.retN (G.dropAll (G.fin1 rfl rfl ?_))
      exact ⟨rfl, by simp⟩
end Go.Proofs.YtcghlfepfcagbaaGreat
namespace Go.Proofs.YtcghlfepfcagbaaGreat
open Go Go.Jog Go.ChangeShapes Go.WideShapes Go.ChangeAt Go.RowKit
set_option maxRecDepth 100000

theorem own : ownKnob Tryz.prog.godebug = none := by kernel_rfl
section
variable {H : Type} {enc : TypeId × Value → H} {W : World} {spare : Nat → Bool} {held : Bool}
theorem u8_of {n : Nat} {c : Value} {y : DataW H × List MemPlace} (h : DataW.trod enc Tryz.prog W 0 spare held n 5 [c] = some y) : ∃ b : UInt8, c = .int .u8 b.toNat := by
  obtain ⟨m, h1, _, h3⟩ := DataW.trod_int Tryz.underlying5 h
  simp only [List.cons.injEq, and_true] at h1
  subst h1
  have hb : 0 ≤ m ∧ m < 256 := by
    simp [Lit.wf, IntKind.min, IntKind.max, IntKind.signed, IntKind.bits] at h3
    omega
  refine ⟨UInt8.ofNat m.toNat, ?_⟩
  congr 1
  simp only [UInt8.toNat_ofNat']
  omega
theorem seen_of {n : Nat} {cs : List Value} {y : DataW H × List MemPlace} (h : DataW.trod enc Tryz.prog W 0 spare held n 67 cs = some y) : ∃ z : Seen, cs = z.enc := by
  obtain ⟨y0, y1, y2, n', _, hl, h0, h1, h2⟩ := Go.Deep.trod_struct3 Tryz.underlying67 h
  have hc : Tryz.prog.cellsOf 67 = 3 := by kernel_rfl
  have hi : Tryz.prog.cellsOf 5 = 1 := by kernel_rfl
  rw [hc] at hl
  match cs, hl with
  | [c0, c1, c2], _ =>
    simp only [hi] at h0 h1 h2
    obtain ⟨b0, rfl⟩ := u8_of h0
    obtain ⟨b1, rfl⟩ := u8_of h1
    obtain ⟨b2, rfl⟩ := u8_of h2
    exact ⟨⟨b0, b1, b2⟩, rfl⟩
theorem seens_of {fuel : Nat} {v : Value} {x : DataW H × List MemPlace} (h : DataW.trod enc Tryz.prog W 0 spare held fuel 22 [v] = some x) : ∃ l : List Seen, Sl (memOf W) 3 v (l.map Seen.enc) :=
  sl_of_arg Seen.enc Tryz.underlying22 (by kernel_rfl) (by decide) (fun n cs y hl hy => seen_of hy) h
end

noncomputable def laidWorld (os : Os) : World := World.holding Tryz.prog os ⟨#[], #[], []⟩
theorem laidOut' : laidOutB Tryz.prog = true := by kernel_rfl
section
variable {H : Type} {enc : TypeId × Value → H} {W : World} {spare : Nat → Bool} {held : Bool}
theorem int_of {n : Nat} {c : Value} {y : DataW H × List MemPlace} (h : DataW.trod enc Tryz.prog W 0 spare held n 3 [c] = some y) : ∃ m : Int, c = .int .i64 m := by
  obtain ⟨m, h1, _⟩ := DataW.trod_int Tryz.underlying3 h
  simp only [List.cons.injEq, and_true] at h1
  exact ⟨m, h1⟩
theorem ints_of {fuel : Nat} {v : Value} {x : DataW H × List MemPlace} (h : DataW.trod enc Tryz.prog W 0 spare held fuel 31 [v] = some x) : ∃ l : List Int, Sl (memOf W) 1 v (l.map encI) :=
  sl_of_arg encI Tryz.underlying31 (by kernel_rfl) (by decide) (fun n cs y hl hy => by
    match cs, hl with
    | [c], _ =>
      obtain ⟨s, rfl⟩ := int_of hy
      exact ⟨s, rfl⟩) h
end
theorem gives_of {f : FuncId} {args : List Value} {C : Mem} (h : Pur cx.P f args C fun u _ => u = .bool true) : Gives cx.P f args C (.bool true) := Fn.mono h (fun _v _C' _L' _ ⟨h1, h2⟩ => ⟨h2, h1⟩)
end Go.Proofs.YtcghlfepfcagbaaGreat
