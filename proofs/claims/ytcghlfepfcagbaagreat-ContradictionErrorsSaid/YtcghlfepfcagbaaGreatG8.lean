/- Laws that the proofs of this seat share, part 8. -/
import Derived.Test.YtcghlfepfcagbaaGreatG7
import Derived.Test.YtcghlfepfcagbaaGreatShelf
import Derived.RangeFuncBox
import Derived.RangeFuncLeaves
import Derived.Shelf.Abstract
import Derived.WalkKit
import Derived.OwnWalkIn
import Derived.TacticsInMore
import Derived.LoopNIn
import Derived.LoopIn
namespace Go.Proofs.YtcghlfepfcagbaaGreat
open Go Go.Jog Go.RowKit Go.Shelf
set_option maxRecDepth 100000

theorem isNaN_int (C : Mem) (a : Int) : Gives cx.P 93 [.int .i64 a] C (.bool false) := by
  refine Fn.intro (by kernel_rfl) Tryz.func93 rfl 6 rfl rfl (fun w0 => ?_)
  refine G.region rfl (fun R hR => ?_)
  refine D.pure rfl rfl rfl rfl rfl rfl ?_
  refine D.done [(0, [], _)] ⟨rfl, trivial⟩ (hR _ _ _ rfl ?_); clear hR R
  refine G.region rfl (fun R hR => ?_)
  iterate 4 refine D.pure rfl rfl rfl rfl rfl rfl ?_
  refine D.done [(2, [], _)] ⟨rfl, trivial⟩ (hR _ _ _ rfl ?_); clear hR R
  refine G.retN (G.dropAll (G.fin1 rfl rfl ?_))
  exact ⟨by simp, rfl⟩
theorem compare_int (C : Mem) (a b : Int) : Gives cx.P 71 [.int .i64 a, .int .i64 b] C (.int .i64 (cmpI a b)) := by
  refine Fn.intro (by kernel_rfl) Tryz.func71 rfl 20 rfl rfl (fun w0 => ?_)
  refine G.region rfl (fun R hR => ?_)
  refine D.pure rfl rfl rfl rfl rfl rfl ?_
  refine D.done [(0, [], _), (1, [], _)] ⟨rfl, rfl, trivial⟩ (hR _ _ _ rfl ?_); clear hR R
  refine G.region rfl (fun R hR => ?_)
  refine D.pure rfl rfl rfl rfl rfl rfl ?_
  refine D.gives2 (isNaN_int _ _) rfl rfl rfl rfl rfl rfl rfl (fun _ => rfl) ?_
  refine D.pure rfl rfl rfl rfl rfl rfl ?_
  refine D.done [(0, [], _), (1, [], _), (5, [], _)] ⟨rfl, rfl, rfl, trivial⟩ (hR _ _ _ rfl ?_); clear hR R
  refine G.region rfl (fun R hR => ?_)
  refine D.pure rfl rfl rfl rfl rfl rfl ?_
  refine D.gives2 (isNaN_int _ _) rfl rfl rfl rfl rfl rfl rfl (fun _ => rfl) ?_
  refine D.pure rfl rfl rfl rfl rfl rfl ?_
  refine D.done [(0, [], _), (1, [], _), (5, [], _), (6, [], _)] ⟨rfl, rfl, rfl, rfl, trivial⟩ (hR _ _ _ rfl ?_); clear hR R
  refine G.region rfl (fun R hR => ?_)
  refine D.pure rfl rfl rfl rfl rfl rfl ?_
  refine D.done [(0, [], _), (1, [], _), (6, [], _), (11, [], _)] ⟨rfl, rfl, rfl, rfl, trivial⟩ (hR _ _ _ rfl ?_); clear hR R
  refine G.cond rfl (fun h11 => ?_) (fun h11 => ?_)
  · skip
    cases h11
  · skip
    refine G.region rfl (fun R hR => ?_)
    refine D.pure rfl rfl rfl rfl rfl rfl ?_
    refine D.done [(0, [], _), (1, [], _), (13, [], _)] ⟨rfl, rfl, rfl, trivial⟩ (hR _ _ _ rfl ?_); clear hR R
    refine G.cond rfl (fun h13 => ?_) (fun h13 => ?_)
    · skip
      cases h13
    · skip
      refine G.region rfl (fun R hR => ?_)
      iterate 3 refine D.pure rfl rfl rfl rfl rfl rfl ?_
      refine D.done [(0, [], _), (1, [], _), (16, [], _)] ⟨rfl, rfl, rfl, trivial⟩ (hR _ _ _ rfl ?_); clear hR R
      refine G.cond rfl (fun h16 => ?_) (fun h16 => ?_)
      · skip
        refine G.region rfl (fun R hR => ?_)
        refine D.pure rfl rfl rfl rfl rfl rfl ?_
        refine D.done [(4, [], _)] ⟨rfl, trivial⟩ (hR _ _ _ rfl ?_); clear hR R
        refine G.retN (G.dropAll (G.fin1 rfl rfl ?_))
        simp only [decide_eq_true_eq] at h16
        exact ⟨by rw [cmpI, if_pos h16], rfl⟩
      · skip
        refine G.region rfl (fun R hR => ?_)
        iterate 3 refine D.pure rfl rfl rfl rfl rfl rfl ?_
        refine D.done [(19, [], _)] ⟨rfl, trivial⟩ (hR _ _ _ rfl ?_); clear hR R
        refine G.cond rfl (fun h19 => ?_) (fun h19 => ?_)
        · skip
          refine G.region rfl (fun R hR => ?_)
          refine D.pure rfl rfl rfl rfl rfl rfl ?_
          refine D.done [(4, [], _)] ⟨rfl, trivial⟩ (hR _ _ _ rfl ?_); clear hR R
          refine G.retN (G.dropAll (G.fin1 rfl rfl ?_))
          simp only [decide_eq_true_eq, decide_eq_false_iff_not] at h16 h19
          exact ⟨by rw [cmpI, if_neg h16, if_neg (by omega)], rfl⟩
        · skip
          refine G.region rfl (fun R hR => ?_)
          refine D.pure rfl rfl rfl rfl rfl rfl ?_
          refine D.done [(4, [], _)] ⟨rfl, trivial⟩ (hR _ _ _ rfl ?_); clear hR R
          refine G.retN (G.dropAll (G.fin1 rfl rfl ?_))
          simp only [decide_eq_false_iff_not] at h16 h19
          exact ⟨by rw [cmpI, if_neg h16, if_pos (by omega)], rfl⟩

/-- Rows of numbers, compared as slices.Compare does. -/
def cmpL : List Nat → List Nat → Int
  | [], [] => 0
  | [], _ :: _ => -1
  | _ :: _, [] => 1
  | x :: a, y :: b => if x < y then -1 else if y < x then 1 else cmpL a b
theorem cmpL_eq : ∀ (a b : List Nat), cmpL a b = 0 ↔ a = b
  | [], [] => by simp [cmpL]
  | [], _ :: _ => by simp [cmpL]
  | _ :: _, [] => by simp [cmpL]
  | x :: a, y :: b => by
    simp only [cmpL]
    split
    · rename_i h; constructor
      · intro h; cases h
      · intro h2; simp at h2; omega
    · split
      · constructor
        · intro h; cases h
        · intro h2; simp at h2; omega
      · rw [cmpL_eq a b]
        have : x = y := by omega
        simp [this]
theorem cmpL_sym : ∀ (a b : List Nat), cmpL a b < 0 ↔ 0 < cmpL b a
  | [], [] => by simp [cmpL]
  | [], _ :: _ => by simp [cmpL]
  | _ :: _, [] => by simp [cmpL]
  | x :: a, y :: b => by
    simp only [cmpL]
    by_cases h1 : x < y
    · have h2 : ¬ y < x := by omega
      simp [h1, h2]
    · by_cases h2 : y < x
      · simp [h1, h2]
      · simp only [h1, h2, if_false]; exact cmpL_sym a b
theorem cmpL_trans : ∀ (a b c : List Nat), cmpL a b < 0 → cmpL b c < 0 → cmpL a c < 0
  | [], [], _, h, _ => by simp [cmpL] at h
  | [], _ :: _, [], _, h => by simp [cmpL] at h
  | [], _ :: _, _ :: _, _, _ => by simp [cmpL]
  | _ :: _, [], _, h, _ => by simp [cmpL] at h
  | _ :: _, _ :: _, [], _, h => by simp [cmpL] at h
  | x :: a, y :: b, z :: c, h1, h2 => by
    simp only [cmpL] at h1 h2 ⊢
    by_cases h3 : x < z
    · simp [h3]
    · by_cases h4 : x < y
      · have h5 : ¬ y < z := by omega
        have h6 : z < y := by omega
        simp [h5, h6] at h2
      · by_cases h5 : y < x
        · simp [h4, h5] at h1
        · have h6 : x = y := by omega
          subst h6
          simp only [Nat.lt_irrefl, if_false] at h1
          by_cases h7 : z < x
          · simp [h3, h7] at h2
          · simp only [h3, h7, if_false] at h2 ⊢
            exact cmpL_trans a b c h1 h2
theorem tot_cmpL : TotC cmpL := ⟨cmpL_eq, cmpL_sym, cmpL_trans⟩

set_option maxHeartbeats 1000000 in
theorem compareL_fn (C : Mem) (v w : Value) (a b : List Nat) (hv : Sl C 1 v (a.map encN)) (hw : Sl C 1 w (b.map encN)) (ha : a.length ≤ 1000000) (_hb : b.length ≤ 1000000) :
    Gives cx.P 45 [v, w] C (.int .i64 (cmpL a b)) := by
  obtain ⟨A, c, rfl, _⟩ := id hv
  obtain ⟨B, d, rfl, _⟩ := id hw
  simp only [List.length_map] at hv hw ⊢
  refine Fn.intro (by kernel_rfl) Tryz.func45 rfl 36 rfl rfl (fun w0 => ?_)
  refine G.region rfl (fun R hR => ?_)
  refine D.pure rfl rfl rfl rfl rfl rfl ?_
  refine D.done [(0, [], _), (1, [], _)] ⟨rfl, rfl, trivial⟩ (hR _ _ _ rfl ?_); clear hR R
  refine G.region rfl (fun R hR => ?_)
  iterate 3 refine D.pure rfl rfl rfl rfl rfl rfl ?_
  refine D.done [(0, [], _), (1, [], _), (9, [], _), (10, [], _), (11, [], _)] ⟨rfl, rfl, rfl, rfl, rfl, trivial⟩ (hR _ _ _ rfl ?_); clear hR R
  refine G.loop (fun fr C' L' μ => ∃ (k : Nat), (k ≤ a.length ∧ k ≤ b.length ∧ cmpL (a.drop k) (b.drop k) = cmpL a b) ∧ fr = [(0, [], .slice A a.length c), (1, [], .slice B b.length d), (9, [], .slice A a.length c), (10, [], .int .i64 a.length), (11, [], .int .i64 k)] ∧ L' = [] ∧ μ = a.length - k) (fr' := [(0, [], _), (1, [], _), (9, [], _), (10, [], _), (11, [], _)]) ⟨rfl, rfl, rfl, rfl, rfl, trivial⟩ ⟨0, ⟨Nat.zero_le _, Nat.zero_le _, rfl⟩, rfl, rfl, rfl⟩ (fun fr C0' L0' m hle0 hI => ?_)
  obtain ⟨k, ⟨hka, hkb, hcm⟩, rfl, rfl, rfl⟩ := hI
  refine G.region rfl (fun R hR => ?_)
  refine D.pure rfl rfl rfl rfl rfl rfl ?_
  refine D.done [(0, [], _), (1, [], _), (9, [], _), (10, [], _), (11, [], _), (12, [], _)] ⟨rfl, rfl, rfl, rfl, rfl, rfl, trivial⟩ (hR _ _ _ rfl ?_); clear hR R
  refine G.cond rfl (fun h12 => ?_) (fun h12 => ?_)
  · skip
    have hk2 : k < a.length := by simpa using h12
    obtain ⟨x, hx⟩ : ∃ x, a[k]? = some x := ⟨a[k], List.getElem?_eq_getElem hk2⟩
    have hrx : (a.map encN)[k]? = some (encN x) := by rw [List.getElem?_map, hx]; rfl
    have hdx : a.drop k = x :: a.drop (k + 1) := by rw [List.drop_eq_getElem_cons hk2, (List.getElem?_eq_some_iff.1 hx).2]
    refine G.region rfl (fun R hR => ?_)
    refine D.pure rfl rfl rfl rfl rfl rfl ?_
    refine D.index0 (hv.mono (by (repeat (first | exact Mem.le.refl _ | assumption | (apply Mem.le.trans; rotate_left; assumption))))) rfl rfl rfl rfl rfl rfl rfl rfl rfl rfl (by omega) hrx (fun _ => rfl) (fun p14 hp14 => ?_)
    refine D.loadP0 hp14 rfl rfl rfl rfl rfl rfl rfl rfl ?_
    iterate 2 refine D.pure rfl rfl rfl rfl rfl rfl ?_
    refine D.done [(0, [], _), (1, [], _), (5, [], _), (6, [], _), (9, [], _), (10, [], _), (11, [], _)] ⟨rfl, rfl, rfl, rfl, rfl, rfl, rfl, trivial⟩ (hR _ _ _ rfl ?_); clear hR R
    refine G.region rfl (fun R hR => ?_)
    iterate 4 refine D.pure rfl rfl rfl rfl rfl rfl ?_
    refine D.done [(0, [], _), (1, [], _), (5, [], _), (6, [], _), (9, [], _), (10, [], _), (11, [], _), (19, [], _)] ⟨rfl, rfl, rfl, rfl, rfl, rfl, rfl, rfl, trivial⟩ (hR _ _ _ rfl ?_); clear hR R
    refine G.cond rfl (fun h19 => ?_) (fun h19 => ?_)
    · skip
      have h19' : b.length ≤ k := by simpa using h19
      have hdy : b.drop k = [] := List.drop_eq_nil_of_le h19'
      refine G.region rfl (fun R hR => ?_)
      refine D.pure rfl rfl rfl rfl rfl rfl ?_
      refine D.done [(4, [], _)] ⟨rfl, trivial⟩ (hR _ _ _ rfl ?_); clear hR R
      refine G.retN (G.dropAll (G.fin1 rfl rfl ?_))
      exact ⟨by rw [← hcm, hdx, hdy]; rfl, rfl⟩
    · skip
      have h19' : k < b.length := by
        have : ¬ b.length ≤ k := by simpa using h19
        omega
      obtain ⟨y, hy⟩ : ∃ y, b[k]? = some y := ⟨b[k], List.getElem?_eq_getElem h19'⟩
      have hry : (b.map encN)[k]? = some (encN y) := by rw [List.getElem?_map, hy]; rfl
      have hdy : b.drop k = y :: b.drop (k + 1) := by rw [List.drop_eq_getElem_cons h19', (List.getElem?_eq_some_iff.1 hy).2]
      refine G.region rfl (fun R hR => ?_)
      iterate 2 refine D.pure rfl rfl rfl rfl rfl rfl ?_
      refine D.index0 (hw.mono (by (repeat (first | exact Mem.le.refl _ | assumption | (apply Mem.le.trans; rotate_left; assumption))))) rfl rfl rfl rfl rfl rfl rfl rfl rfl rfl (by omega) hry (fun _ => rfl) (fun p22 hp22 => ?_)
      refine D.loadP0 hp22 rfl rfl rfl rfl rfl rfl rfl rfl ?_
      refine D.pure rfl rfl rfl rfl rfl rfl ?_
      refine D.done [(0, [], _), (1, [], _), (6, [], _), (7, [], _), (9, [], _), (10, [], _), (11, [], _)] ⟨rfl, rfl, rfl, rfl, rfl, rfl, rfl, trivial⟩ (hR _ _ _ rfl ?_); clear hR R
      refine G.region rfl (fun R hR => ?_)
      iterate 2 refine D.pure rfl rfl rfl rfl rfl rfl ?_
      refine D.gives2 (compare_int _ _ _) rfl rfl rfl rfl rfl rfl rfl (fun _ => rfl) ?_
      refine D.pure rfl rfl rfl rfl rfl rfl ?_
      refine D.done [(0, [], _), (1, [], _), (8, [], _), (9, [], _), (10, [], _), (11, [], _)] ⟨rfl, rfl, rfl, rfl, rfl, rfl, trivial⟩ (hR _ _ _ rfl ?_); clear hR R
      refine G.region rfl (fun R hR => ?_)
      iterate 2 refine D.pure rfl rfl rfl rfl rfl rfl ?_
      refine D.done [(0, [], _), (1, [], _), (8, [], _), (9, [], _), (10, [], _), (11, [], _), (28, [], _)] ⟨rfl, rfl, rfl, rfl, rfl, rfl, rfl, trivial⟩ (hR _ _ _ rfl ?_); clear hR R
      refine G.cond rfl (fun h28 => ?_) (fun h28 => ?_)
      · skip
        have h28' : cmpI x y ≠ 0 := by simpa using h28
        refine G.region rfl (fun R hR => ?_)
        iterate 2 refine D.pure rfl rfl rfl rfl rfl rfl ?_
        refine D.done [(4, [], _)] ⟨rfl, trivial⟩ (hR _ _ _ rfl ?_); clear hR R
        refine G.retN (G.dropAll (G.fin1 rfl rfl ?_))
        refine ⟨?_, rfl⟩
        rw [← hcm, hdx, hdy]
        simp only [cmpL]
        unfold cmpI at h28' ⊢
        by_cases h1 : x < y
        · have h3 : (x : Int) < y := by omega
          rw [if_pos h1, if_pos h3]
        · have h3 : ¬ (x : Int) < y := by omega
          rw [if_neg h1, if_neg h3]
          rw [if_neg h3] at h28'
          by_cases h2 : y < x
          · have h4 : ¬ (x : Int) = y := by omega
            rw [if_pos h2, if_neg h4]
          · have h4 : (x : Int) = y := by omega
            rw [if_pos h4] at h28'
            exact absurd rfl h28'
      · skip
        have h28' : cmpI x y = 0 := by simpa using h28
        have hxy : x = y := by
          unfold cmpI at h28'
          split at h28'
          · cases h28'
          · split at h28'
            · omega
            · cases h28'
        refine G.region rfl (fun R hR => ?_)
        refine D.i64 _ rfl rfl rfl rfl rfl (by omega) (by omega) rfl rfl ?_
        refine D.pure rfl rfl rfl rfl rfl rfl ?_
        refine D.done [(0, [], _), (1, [], _), (9, [], _), (10, [], _), (11, [], _)] ⟨rfl, rfl, rfl, rfl, rfl, trivial⟩ (hR _ _ _ rfl ?_); clear hR R
        refine G.again (m' := a.length - (k + 1)) (by omega) (by (repeat (first | exact Mem.le.refl _ | assumption | (apply Mem.le.trans; rotate_left; assumption)))) (fr' := [(0, [], _), (1, [], _), (9, [], _), (10, [], _), (11, [], _)]) ⟨rfl, rfl, rfl, rfl, rfl, trivial⟩ ⟨k + 1, ⟨by omega, by omega, by rw [← hcm, hdx, hdy, hxy]; simp [cmpL]⟩, rfl, rfl, rfl⟩
  · skip
    have hk2 : k = a.length := by
      have : ¬ k < a.length := by simpa using h12
      omega
    subst hk2
    rw [List.drop_length] at hcm
    refine G.region rfl (fun R hR => ?_)
    iterate 5 refine D.pure rfl rfl rfl rfl rfl rfl ?_
    refine D.done [(35, [], _)] ⟨rfl, trivial⟩ (hR _ _ _ rfl ?_); clear hR R
    refine G.cond rfl (fun h35 => ?_) (fun h35 => ?_)
    · skip
      have h35' : a.length < b.length := by simpa using h35
      refine G.region rfl (fun R hR => ?_)
      refine D.pure rfl rfl rfl rfl rfl rfl ?_
      refine D.done [(4, [], _)] ⟨rfl, trivial⟩ (hR _ _ _ rfl ?_); clear hR R
      refine G.retN (G.dropAll (G.fin1 rfl rfl ?_))
      refine ⟨?_, rfl⟩
      rw [← hcm, List.drop_eq_getElem_cons h35']; rfl
    · skip
      have h35' : ¬ a.length < b.length := by simpa using h35
      refine G.region rfl (fun R hR => ?_)
      refine D.pure rfl rfl rfl rfl rfl rfl ?_
      refine D.done [(4, [], _)] ⟨rfl, trivial⟩ (hR _ _ _ rfl ?_); clear hR R
      refine G.retN (G.dropAll (G.fin1 rfl rfl ?_))
      refine ⟨?_, rfl⟩
      rw [← hcm, List.drop_eq_nil_of_le (by omega)]; rfl

set_option maxHeartbeats 1000000 in
theorem equalL_fn (C : Mem) (v w : Value) (a b : List Nat) (hv : Sl C 1 v (a.map encN)) (hw : Sl C 1 w (b.map encN)) (ha : a.length ≤ 1000000) (hb : b.length ≤ 1000000) :
    Gives cx.P 48 [v, w] C (.bool (decide (a = b))) := by
  obtain ⟨A, c, rfl, _⟩ := id hv
  obtain ⟨B, d, rfl, _⟩ := id hw
  simp only [List.length_map] at hv hw ⊢
  refine Fn.intro (by kernel_rfl) Tryz.func48 rfl 26 rfl rfl (fun w0 => ?_)
  refine G.region rfl (fun R hR => ?_)
  refine D.pure rfl rfl rfl rfl rfl rfl ?_
  refine D.done [(0, [], _), (1, [], _)] ⟨rfl, rfl, trivial⟩ (hR _ _ _ rfl ?_); clear hR R
  refine G.region rfl (fun R hR => ?_)
  iterate 5 refine D.pure rfl rfl rfl rfl rfl rfl ?_
  refine D.done [(0, [], _), (1, [], _), (10, [], _)] ⟨rfl, rfl, rfl, trivial⟩ (hR _ _ _ rfl ?_); clear hR R
  refine G.cond rfl (fun h10 => ?_) (fun h10 => ?_)
  · skip
    have h10' : a.length ≠ b.length := by
      have : ¬ (a.length : Int) = b.length := by simpa using h10
      omega
    refine G.region rfl (fun R hR => ?_)
    refine D.pure rfl rfl rfl rfl rfl rfl ?_
    refine D.done [(4, [], _)] ⟨rfl, trivial⟩ (hR _ _ _ rfl ?_); clear hR R
    refine G.retN (G.dropAll (G.fin1 rfl rfl ?_))
    exact ⟨by rw [decide_eq_false (fun h => h10' (congrArg List.length h))], rfl⟩
  · skip
    have h10' : a.length = b.length := by
      have : (a.length : Int) = b.length := by simpa using h10
      omega
    refine G.region rfl (fun R hR => ?_)
    iterate 3 refine D.pure rfl rfl rfl rfl rfl rfl ?_
    refine D.done [(0, [], _), (1, [], _), (12, [], _), (13, [], _)] ⟨rfl, rfl, rfl, rfl, trivial⟩ (hR _ _ _ rfl ?_); clear hR R
    refine G.loop (fun fr C' L' μ => ∃ (k : Nat), (k ≤ a.length ∧ a.take k = b.take k) ∧ fr = [(0, [], .slice A a.length c), (1, [], .slice B b.length d), (12, [], .int .i64 a.length), (13, [], .int .i64 k)] ∧ L' = [] ∧ μ = a.length - k) (fr' := [(0, [], _), (1, [], _), (12, [], _), (13, [], _)]) ⟨rfl, rfl, rfl, rfl, trivial⟩ ⟨0, ⟨Nat.zero_le _, rfl⟩, rfl, rfl, rfl⟩ (fun fr C0' L0' m hle0 hI => ?_)
    obtain ⟨k, ⟨hka, htk⟩, rfl, rfl, rfl⟩ := hI
    refine G.region rfl (fun R hR => ?_)
    refine D.pure rfl rfl rfl rfl rfl rfl ?_
    refine D.done [(0, [], _), (1, [], _), (12, [], _), (13, [], _), (14, [], _)] ⟨rfl, rfl, rfl, rfl, rfl, trivial⟩ (hR _ _ _ rfl ?_); clear hR R
    refine G.cond rfl (fun h14 => ?_) (fun h14 => ?_)
    · skip
      have hk2 : k < a.length := by simpa using h14
      obtain ⟨x, hx⟩ : ∃ x, a[k]? = some x := ⟨a[k], List.getElem?_eq_getElem hk2⟩
      have hrx : (a.map encN)[k]? = some (encN x) := by rw [List.getElem?_map, hx]; rfl
      obtain ⟨y, hy⟩ : ∃ y, b[k]? = some y := ⟨b[k]'(by omega), List.getElem?_eq_getElem (by omega)⟩
      have hry : (b.map encN)[k]? = some (encN y) := by rw [List.getElem?_map, hy]; rfl
      refine G.region rfl (fun R hR => ?_)
      iterate 2 refine D.pure rfl rfl rfl rfl rfl rfl ?_
      refine D.done [(0, [], _), (1, [], _), (5, [], _), (12, [], _), (13, [], _)] ⟨rfl, rfl, rfl, rfl, rfl, trivial⟩ (hR _ _ _ rfl ?_); clear hR R
      refine G.draw [0, 1, 2, 3, 4, 5, 6, 7, 8] [] rfl (by kernel_rfl) (fun R hB hR => ?_)
      iterate 2 refine D.pure rfl rfl rfl rfl rfl rfl ?_
      refine D.index0 (hv.mono (by (repeat (first | exact Mem.le.refl _ | assumption | (apply Mem.le.trans; rotate_left; assumption))))) rfl rfl rfl rfl rfl rfl rfl rfl rfl rfl (by omega) hrx (fun _ => rfl) (fun p18 hp18 => ?_)
      refine D.loadP0 hp18 rfl rfl rfl rfl rfl rfl rfl rfl ?_
      iterate 2 refine D.pure rfl rfl rfl rfl rfl rfl ?_
      refine D.index0 (hw.mono (by (repeat (first | exact Mem.le.refl _ | assumption | (apply Mem.le.trans; rotate_left; assumption))))) rfl rfl rfl rfl rfl rfl rfl rfl rfl rfl (by omega) hry (fun _ => rfl) (fun p22 hp22 => ?_)
      refine D.loadP0 hp22 rfl rfl rfl rfl rfl rfl rfl rfl ?_
      refine D.pure rfl rfl rfl rfl rfl rfl ?_
      refine D.done [(0, [], _), (1, [], _), (12, [], _), (13, [], _), (24, [], _)] ⟨rfl, rfl, rfl, rfl, rfl, trivial⟩ (hR _ _ _ rfl ?_); clear hR hB R
      refine G.cond rfl (fun h24 => ?_) (fun h24 => ?_)
      · skip
        have h24' : x ≠ y := by
          have : ¬ (x : Int) = y := by simpa using h24
          omega
        refine G.region rfl (fun R hR => ?_)
        refine D.pure rfl rfl rfl rfl rfl rfl ?_
        refine D.done [(4, [], _)] ⟨rfl, trivial⟩ (hR _ _ _ rfl ?_); clear hR R
        refine G.retN (G.dropAll (G.fin1 rfl rfl ?_))
        refine ⟨?_, rfl⟩
        rw [decide_eq_false]
        rintro rfl
        rw [hx] at hy
        exact h24' (Option.some.inj hy)
      · skip
        have h24' : x = y := by
          have : (x : Int) = y := by simpa using h24
          omega
        refine G.region rfl (fun R hR => ?_)
        refine D.i64 _ rfl rfl rfl rfl rfl (by omega) (by omega) rfl rfl ?_
        refine D.pure rfl rfl rfl rfl rfl rfl ?_
        refine D.done [(0, [], _), (1, [], _), (12, [], _), (13, [], _)] ⟨rfl, rfl, rfl, rfl, trivial⟩ (hR _ _ _ rfl ?_); clear hR R
        refine G.again (m' := a.length - (k + 1)) (by omega) (by (repeat (first | exact Mem.le.refl _ | assumption | (apply Mem.le.trans; rotate_left; assumption)))) (fr' := [(0, [], _), (1, [], _), (12, [], _), (13, [], _)]) ⟨rfl, rfl, rfl, rfl, trivial⟩ ⟨k + 1, ⟨by omega, by rw [List.take_add_one, List.take_add_one, htk, hx, hy, h24']⟩, rfl, rfl, rfl⟩
    · skip
      have hk2 : k = a.length := by
        have : ¬ k < a.length := by simpa using h14
        omega
      subst hk2
      refine G.region rfl (fun R hR => ?_)
      refine D.pure rfl rfl rfl rfl rfl rfl ?_
      refine D.done [(4, [], _)] ⟨rfl, trivial⟩ (hR _ _ _ rfl ?_); clear hR R
      refine G.retN (G.dropAll (G.fin1 rfl rfl ?_))
      refine ⟨?_, rfl⟩
      rw [List.take_length, h10', List.take_length] at htk
      rw [decide_eq_true htk]
theorem rep1_fn (C : Mem) (v w : Value) (a b : List Nat) (hv : Sl C 1 v (a.map encN)) (hw : Sl C 1 w (b.map encN)) (ha : a.length ≤ 1000000) (hb : b.length ≤ 1000000) :
    Gives cx.P 47 [v, w] C (.bool (decide (a = b))) := by
  refine Fn.intro (by kernel_rfl) Tryz.func47 rfl 8 rfl rfl (fun w0 => ?_)
  refine G.region rfl (fun R hR => ?_)
  refine D.pure rfl rfl rfl rfl rfl rfl ?_
  refine D.done [(0, [], _), (1, [], _)] ⟨rfl, rfl, trivial⟩ (hR _ _ _ rfl ?_); clear hR R
  refine G.region rfl (fun R hR => ?_)
  iterate 2 refine D.pure rfl rfl rfl rfl rfl rfl ?_
  refine D.gives2 (equalL_fn _ _ _ a b hv hw ha hb) rfl rfl rfl rfl rfl rfl rfl (fun _ => rfl) ?_
  refine D.pure rfl rfl rfl rfl rfl rfl ?_
  refine D.done [(4, [], _)] ⟨rfl, trivial⟩ (hR _ _ _ rfl ?_); clear hR R
  refine G.retN (G.dropAll (G.fin1 rfl rfl ?_))
  exact ⟨rfl, rfl⟩

/-! ### slices.Values, Collect, Sorted -/
theorem values_fn (C : Mem) (A : Option Addr) (n c : Nat) : Pur cx.P 67 [.slice A n c] C fun r C' => ∃ b, r = .func (.func 81) #[] #[.pointer (some ⟨b, 0, none⟩)] ∧ C' b = some (.cells ⟨[.slice A n c]⟩ 31 (0, 0)) := by
  refine Fn.intro (by kernel_rfl) Tryz.func67 rfl 4 rfl rfl (fun w0 => ?_)
  refine G.region rfl (fun R hR => ?_)
  refine D.box rfl rfl rfl rfl rfl rfl (fun _ => rfl) (fun b1 => ?_)
  refine D.pure rfl rfl rfl rfl rfl rfl ?_
  refine D.done [(1, [], _)] ⟨rfl, trivial⟩ (hR _ _ _ rfl ?_); clear hR R
  refine G.region rfl (fun R hR => ?_)
  iterate 2 refine D.pure rfl rfl rfl rfl rfl rfl ?_
  refine D.done [(2, [], _)] ⟨rfl, trivial⟩ (hR _ _ _ rfl ?_); clear hR R
  refine G.freeze 0 rfl (fun Cf hlef hbf => ?_)
  refine G.retN (G.dropAll (G.fin1 rfl rfl ?_))
  exact ⟨rfl, _, rfl, hbf⟩
section
attribute [local go_sem] Oper.semAt_some
set_option maxHeartbeats 2000000 in
theorem values_in (l Bs b off len cap : Nat) (zs : Nat → Int) (hlen : len < 1000000) (J : Nat → World → Prop)
    (hJ : ∀ k W, J k W → W.cell? ⟨Bs, 0, none⟩ = some (.slice (some ⟨b, off, none⟩) len cap) ∧ ∀ j, j < len → W.cell? ⟨b, off + j, none⟩ = some (.int .i64 (zs j)))
    (hY : ∀ k W, J k W → k < len → YieldAt Fence.wide 1 Tryz.prog l #[.int .i64 (zs k)] W fun e W' => e = .returned (.bool true) ∧ J (k + 1) W')
    (W : World) (h0 : J 0 W) :
    CallsIn Fence.wide 2 Tryz.prog 81 #[.func (.yield l) #[] #[], .pointer (some ⟨Bs, 0, none⟩)] W fun e W' => (∃ v, e = .returned v) ∧ J len W' := by
  refine callsIn_of_wp Tryz.func81 rfl trivial ?_ rfl
  simp only [Tryz.ntmps81, List.size_toArray, List.length_cons, List.length_nil, Nat.reduceAdd, Nat.reduceSub, Array.replicate_succ, Array.replicate_zero, List.push_toArray, List.append_toArray, List.nil_append, List.cons_append]
  have hBs := (hJ 0 W h0).1
  gi_wp2
  gi_loopw [7] (fun i wr => ∃ k : Nat, k ≤ len ∧ i = .int .i64 (k : Int) ∧ J k wr) (fun i _ => (len - (intOf i).toNat))
  case atStart => exact ⟨0, Nat.zero_le _, rfl, h0⟩
  case round =>
    obtain ⟨k, hk, rfl, hJs⟩ := hrel
    obtain ⟨hB2, hcx⟩ := hJ k wr hJs
    by_cases hlt : k < len
    · obtain ⟨fn, tmps, assign, body, hy, hR⟩ := hY k wr hJs hlt
      have hcx' := hcx k (by omega)
      gi_wp2
      refine hR.mono ?_
      rintro e W3 ⟨rfl, hJ3⟩
      gi_wp2
      go_roundw
      case rel => exact ⟨k + 1, by omega, by congr 1, hJ3⟩
      case measure => simp [intOf]; omega
    · obtain rfl : k = len := by omega
      gi_wp2
      go_end0
      exact ⟨⟨_, rfl⟩, hJs⟩
set_option maxHeartbeats 1000000 in
theorem values_nil_in (l Bs : Nat) (A : Option Addr) (cap : Nat) (J : Nat → World → Prop) (W : World) (hBs : W.cell? ⟨Bs, 0, none⟩ = some (.slice A 0 cap)) (h0 : J 0 W) :
    CallsIn Fence.wide 2 Tryz.prog 81 #[.func (.yield l) #[] #[], .pointer (some ⟨Bs, 0, none⟩)] W fun e W' => (∃ v, e = .returned v) ∧ J 0 W' := by
  refine callsIn_of_wp Tryz.func81 rfl trivial ?_ rfl
  simp only [Tryz.ntmps81, List.size_toArray, List.length_cons, List.length_nil, Nat.reduceAdd, Nat.reduceSub, Array.replicate_succ, Array.replicate_zero, List.push_toArray, List.append_toArray, List.nil_append, List.cons_append]
  gi_wp2
  gi_loopw [7] (fun i wr => i = .int .i64 0 ∧ J 0 wr) (fun _ _ => 0)
  case atStart => exact ⟨rfl, h0⟩
  case round =>
    obtain ⟨rfl, hJs⟩ := hrel
    gi_wp2
    go_end0
    exact ⟨⟨_, rfl⟩, hJs⟩
end
def valV (xs : List Nat) : List Value := xs.map fun n : Nat => .int .i64 (n : Int)
theorem values_iter (C : Mem) (b t : Nat) (v : Value) (xs : List Nat) (hb : C b = some (.cells ⟨[v]⟩ t (0, 0))) (hv : Sl C 1 v (xs.map encN)) (hl : xs.length < 1000000) :
    Iter1 Tryz.prog 81 #[.pointer (some ⟨b, 0, none⟩)] C (valV xs) := by
  intro l J W hC hD hY h0
  obtain ⟨A, cap, rfl, hlc, _, _, hcells⟩ := hv
  rw [List.length_map] at *
  have hcell : ∀ {W : World} {k : Nat}, J k W → W.cell? ⟨b, 0, none⟩ = some (.slice A xs.length cap) := fun {W k} hj => by
    simp [World.cell?, hC k W hj b _ hb]
  have hvl : (valV xs).length = xs.length := by simp [valV]
  rw [hvl]
  rcases Nat.eq_zero_or_pos xs.length with h | h
  · have h1 := hcell h0
    rw [h] at h1 ⊢
    exact values_nil_in l b A cap J W h1 h0
  · obtain ⟨ad, rfl, hsp, _⟩ := hcells 0 _ (List.getElem?_eq_getElem (by simpa using h))
    obtain ⟨ab, ao, asp⟩ := ad
    simp only at hsp
    subst hsp
    refine values_in l b ab ao xs.length cap (fun j => ((xs.getD j 0 : Nat) : Int)) hl J (fun k W hj => ⟨hcell hj, fun j hj2 => ?_⟩) (fun k W hj hk => hY k _ W hj (by
      simp [valV, hk])) W h0
    have h3 : (xs.map encN)[j]? = some [Value.int .i64 ((xs.getD j 0 : Nat) : Int)] := by
      simp [encN, hj2]
    obtain ⟨a2, h4, _, h5⟩ := hcells j _ h3
    cases h4
    have h6 := h5 0 _ rfl
    rw [Addr.add_lit] at h6
    obtain ⟨_, blk, t2, fz, h7, h8⟩ := h6
    simp only at h7
    simp only [World.cell?, hC k W hj ab _ h7]
    simpa using h8
theorem appendSeq_fn (C : Mem) (b : Nat) (v : Value) (xs : List Nat) (hb : C b = some (.cells ⟨[v]⟩ 31 (0, 0))) (hv : Sl C 1 v (xs.map encN)) (hl : xs.length < 1000000) :
    Jog.Fn cx.P 104 [.slice none 0 0, .func (.func 81) #[] #[.pointer (some ⟨b, 0, none⟩)]] C [] fun r _ L' => L' = [.arr r 3 1 xs.length (xs.map intN)] := by
  have hvl : (valV xs).length = xs.length := by simp [valV]
  refine Fn.introM (by kernel_rfl) Tryz.func104 rfl 13 rfl rfl (fun w0 => ?_)
  refine G.region rfl (fun R hR => ?_)
  refine D.box rfl rfl rfl rfl rfl rfl (fun _ => rfl) (fun b2 => ?_)
  refine D.pure rfl rfl rfl rfl rfl rfl ?_
  refine D.done [(1, [], _), (2, [], _)] ⟨rfl, rfl, trivial⟩ (hR _ _ _ rfl ?_); clear hR R
  refine G.region rfl (fun R hR => ?_)
  refine D.pure rfl rfl rfl rfl rfl rfl ?_
  refine D.done [(2, [], _), (6, [], _)] ⟨rfl, rfl, trivial⟩ (hR _ _ _ rfl ?_); clear hR R
  refine G.nilArr 3 1 (G.perm (L' := [.obj b2 (.cells ⟨[.slice none 0 0]⟩ 31 (0, 0)), .arr (.slice none 0 0) 3 1 0 []]) (List.Perm.swap _ _ _) ?_)
  refine G.rangeFunc1 rfl rfl rfl (by kernel_rfl) (values_iter _ b _ v xs (Mem.get hb (by (repeat (first | exact Mem.le.refl _ | assumption | (apply Mem.le.trans; rotate_left; assumption))))) (hv.mono (by (repeat (first | exact Mem.le.refl _ | assumption | (apply Mem.le.trans; rotate_left; assumption))))) hl) (fun j L' => ∃ (w : Value), (j ≤ xs.length) ∧ L' = [.obj b2 (.cells ⟨[w]⟩ 31 (0, 0)), .arr w 3 1 j ((xs.take j).map intN)]) ⟨_, Nat.zero_le _, rfl⟩ rfl (fun _ => rfl) (fun u => [(2, [], .pointer (some ⟨b2, 0, none⟩)), (5, [], u)]) (fun l u W1 L' => ?_) (fun l j u L' W1 hI hj => ?_) (fun bD L' hI => ?_)
  · skip
    refine G.region rfl (fun R hR => ?_)
    refine D.pure rfl rfl rfl rfl rfl rfl ?_
    refine D.done [(2, [], _), (5, [], _)] ⟨rfl, rfl, trivial⟩ (hR _ _ _ rfl ?_); clear hR R
    exact G.assignEnd ⟨rfl, rfl, trivial⟩
  · skip
    obtain ⟨w, hjl, rfl⟩ := hI
    obtain ⟨x, hx⟩ : ∃ x, xs[j]? = some x := by
      cases h : xs[j]? with
      | none => rw [valV, List.getElem?_map, h] at hj; cases hj
      | some x => exact ⟨x, rfl⟩
    have hjx : j < xs.length := (List.getElem?_eq_some_iff.1 hx).1
    obtain rfl : u = .int .i64 (x : Int) := by
      rw [valV, List.getElem?_map, hx] at hj
      exact (Option.some.inj hj).symm
    refine G.region rfl (fun R hR => ?_)
    refine D.loadL (.head _) rfl rfl rfl rfl rfl rfl rfl rfl rfl ?_
    refine D.pure rfl rfl rfl rfl rfl rfl ?_
    refine D.buildSlice [encN x] rfl rfl rfl rfl rfl rfl rfl rfl rfl rfl rfl rfl (fun _ => rfl) (fun p10 C10 hle10 hs10 => ?_)
    refine D.appendF (j := 1) rfl rfl rfl rfl rfl rfl rfl rfl rfl rfl rfl hs10 rfl (by simp only [List.length_singleton, maxLen]; omega) (by simp only [List.length_singleton]; omega) (fun _ => rfl) (fun A11 n11 c11 => ?_)
    refine D.store (j := 1) rfl rfl rfl rfl rfl rfl rfl rfl rfl rfl rfl rfl ?_
    refine D.done [] trivial (hR _ _ _ rfl ?_); clear hR R
    refine G.eqL (L' := [.obj b2 (.cells ⟨[.slice A11 n11 c11]⟩ 31 (0, 0)), .arr (.slice A11 n11 c11) 3 1 (j + 1) ((xs.take (j + 1)).map intN)]) (by rw [List.take_add_one, hx]; simp [encN, intN]; rfl) ?_
    exact G.roundEnd (R := fun L' => ∃ (w : Value), ((j + 1) ≤ xs.length) ∧ L' = [.obj b2 (.cells ⟨[w]⟩ 31 (0, 0)), .arr w 3 1 (j + 1) ((xs.take (j + 1)).map intN)]) (List.Perm.refl _) ⟨.slice A11 n11 c11, by omega, rfl⟩
  · skip
    obtain ⟨w, hjl, rfl⟩ := hI
    skip
    refine G.region rfl (fun R hR => ?_)
    refine D.loadL (.tail _ (.head _)) rfl rfl rfl rfl rfl rfl rfl rfl rfl ?_
    refine D.pure rfl rfl rfl rfl rfl rfl ?_
    refine D.done [(4, [], _)] ⟨rfl, trivial⟩ (hR _ _ _ rfl ?_); clear hR R
    rw [hvl]
    refine G.dropE 1 rfl (G.retN (G.finML (res_t1 rfl rfl) ?_))
    rw [List.take_length]; rfl

def sortN (g : List Nat) : List Nat := g.mergeSort fun x y => decide (x ≤ y)
theorem sortN_int (g : List Nat) : ((g.map fun n : Nat => (n : Int)).mergeSort fun x y => decide (x ≤ y)) = (sortN g).map fun n : Nat => (n : Int) := by
  unfold sortN
  rw [List.map_mergeSort (s := fun x y : Int => decide (x ≤ y))]
  intro a _ b _
  by_cases h : a ≤ b
  · have : (a : Int) ≤ b := by omega
    simp [h]
  · have : ¬ (a : Int) ≤ b := by omega
    simp [h]
theorem collect_fn (C : Mem) (b : Nat) (v : Value) (xs : List Nat) (hb : C b = some (.cells ⟨[v]⟩ 31 (0, 0))) (hv : Sl C 1 v (xs.map encN)) (hl : xs.length < 1000000) :
    Jog.Fn cx.P 79 [.func (.func 81) #[] #[.pointer (some ⟨b, 0, none⟩)]] C [] fun r _ L' => L' = [.arr r 3 1 xs.length (xs.map intN)] := by
  refine Fn.intro (by kernel_rfl) Tryz.func79 rfl 5 rfl rfl (fun w0 => ?_)
  refine G.region rfl (fun R hR => ?_)
  refine D.pure rfl rfl rfl rfl rfl rfl ?_
  refine D.done [(0, [], _)] ⟨rfl, trivial⟩ (hR _ _ _ rfl ?_); clear hR R
  refine G.regionO [(1, 3)] rfl (fun R hR => ?_)
  refine D.pure rfl rfl rfl rfl rfl rfl ?_
  refine D.call (appendSeq_fn _ b v xs (Mem.get hb (by (repeat (first | exact Mem.le.refl _ | assumption | (apply Mem.le.trans; rotate_left; assumption))))) (hv.mono (by (repeat (first | exact Mem.le.refl _ | assumption | (apply Mem.le.trans; rotate_left; assumption))))) hl) rfl (.inr (by decide)) rfl rfl rfl rfl rfl rfl (List.Perm.refl _) (fun _ => rfl) (fun v4 C4 L4 hle4 hq4 => ?_)
  refine D.pure rfl rfl rfl rfl rfl rfl ?_
  refine D.done [(2, [], _)] ⟨rfl, trivial⟩ (hR _ _ _ rfl ?_); clear hR R
  subst hq4
  refine G.retN (G.fin1 rfl rfl ?_)
  rfl
theorem sorted_fn (C : Mem) (b : Nat) (v : Value) (xs : List Nat) (hb : C b = some (.cells ⟨[v]⟩ 31 (0, 0))) (hv : Sl C 1 v (xs.map encN)) (hl : xs.length < 1000000) :
    Pur cx.P 66 [.func (.func 81) #[] #[.pointer (some ⟨b, 0, none⟩)]] C fun r C' => Sl C' 1 r ((sortN xs).map encN) := by
  refine Fn.intro (by kernel_rfl) Tryz.func66 rfl 9 rfl rfl (fun w0 => ?_)
  refine G.region rfl (fun R hR => ?_)
  refine D.pure rfl rfl rfl rfl rfl rfl ?_
  refine D.done [(0, [], _)] ⟨rfl, trivial⟩ (hR _ _ _ rfl ?_); clear hR R
  refine G.regionO [(1, 3)] rfl (fun R hR => ?_)
  refine D.pure rfl rfl rfl rfl rfl rfl ?_
  refine D.call (collect_fn _ b v xs (Mem.get hb (by (repeat (first | exact Mem.le.refl _ | assumption | (apply Mem.le.trans; rotate_left; assumption))))) (hv.mono (by (repeat (first | exact Mem.le.refl _ | assumption | (apply Mem.le.trans; rotate_left; assumption))))) hl) rfl (.inr (by decide)) rfl rfl rfl rfl rfl rfl (List.Perm.refl _) (fun _ => rfl) (fun v5 C5 L5 hle5 hq5 => ?_)
  refine D.pure rfl rfl rfl rfl rfl rfl ?_
  refine D.done [(3, [], _)] ⟨rfl, trivial⟩ (hR _ _ _ rfl ?_); clear hR R
  subst hq5
  refine G.eqL (L' := [.arr v5 3 1 (xs.map fun n : Nat => (n : Int)).length ((xs.map fun n : Nat => (n : Int)).map fun x => .int .i64 x)]) (by simp [intN]) ?_
  refine G.regionO [(1, 3)] rfl (fun R hR => ?_)
  refine D.pure rfl rfl rfl rfl rfl rfl ?_
  refine D.call (sortInt_fn Tryz.sortInt _ v5 3 (xs.map fun n : Nat => (n : Int)) (by rw [List.length_map]; omega) (by kernel_rfl)) rfl (.inr (by decide)) rfl rfl rfl rfl rfl rfl (List.Perm.refl _) (fun _ => rfl) (fun v7 C7 L7 hle7 hq7 => ?_)
  refine D.done [(3, [], _)] ⟨rfl, trivial⟩ (hR _ _ _ rfl ?_); clear hR R
  refine G.region rfl (fun R hR => ?_)
  iterate 2 refine D.pure rfl rfl rfl rfl rfl rfl ?_
  refine D.done [(2, [], _)] ⟨rfl, trivial⟩ (hR _ _ _ rfl ?_); clear hR R
  obtain ⟨rfl, rfl⟩ := hq7
  have hsl : (sortN xs).length = xs.length := by simp [sortN]
  refine G.eqL (L' := [.arr v5 3 1 (sortN xs).length ((sortN xs).map encN).flatten]) (by rw [sortN_int, List.map_map, nats_flat, hsl, List.length_map]; rfl) ?_
  refine G.freezeArr 0 ((sortN xs).map encN) rfl rfl (by intro r hr; obtain ⟨y, _, rfl⟩ := List.mem_map.1 hr; rfl) (by simp) (fun Cf hf hsd => ?_)
  refine G.retN (G.dropAll (G.fin1 rfl rfl ?_))
  exact ⟨rfl, hsd⟩
/-! ### Rows of rows: their sort, and what follows it -/
abbrev RowP := Value × List Nat
def encP (x : RowP) : List Value := [x.1]
theorem prow_len (x : RowP) : (encP x).length = 1 := rfl
theorem row1P (l : List RowP) : (l.map encP).flatten = l.map (·.1) := by
  induction l with
  | nil => rfl
  | cons x l ih => simpa [encP] using ih
set_option maxHeartbeats 2000000 in
theorem compactF_fn (C : Mem) (v : Value) (l : List RowP) (hl : l.length ≤ 10000000000) (hels : ∀ x ∈ l, Sl C 1 x.1 (x.2.map encN)) (hll : ∀ x ∈ l, x.2.length ≤ 1000000) :
    Jog.Fn cx.P 46 [v, .func (.func 47) #[] #[]] C [.arr v 31 1 l.length (l.map encP).flatten] fun u C' L' => L' = [] ∧ ∃ r : List RowP, Sl C' 1 u (r.map encP) ∧ (∀ x ∈ r, x ∈ l) ∧ r.map (·.2) = compact (l.map (·.2)) := by
  obtain ⟨l2, hl2⟩ : ∃ l2, l.map (·.2) = l2 := ⟨_, rfl⟩
  have hl2l : l2.length = l.length := by rw [← hl2]; simp
  have hl2a : ∀ {i : Nat} {x : RowP}, l[i]? = some x → l2[i]? = some x.2 := fun {i x} h => by rw [← hl2, List.getElem?_map, h]; rfl
  have hl2t : ∀ k, (l.take k).map (·.2) = l2.take k := fun k => by rw [← hl2, List.map_take]
  rw [hl2]
  refine Fn.intro (by kernel_rfl) Tryz.func46 rfl 66 rfl rfl (fun w0 => ?_)
  refine G.form (.head _) (fun hform hxl => ?_)
  have hlt : l.length < 2 ∨ ∃ g c, v = .slice (some ⟨g, 0, none⟩) l.length c ∧ l.length ≤ c ∧ c ≤ maxLen := by
    rcases hform with ⟨h1, h2⟩ | h1
    · exact .inl (by omega)
    · exact .inr h1
  obtain ⟨A, c0, hv⟩ : ∃ A c0, v = .slice A l.length c0 := by
    rcases hform with ⟨h1, h2⟩ | ⟨g, c, h1, _⟩
    · exact ⟨none, 0, by rw [h1, h2]⟩
    · exact ⟨_, c, h1⟩
  refine G.region rfl (fun R hR => ?_)
  refine D.pure rfl rfl rfl rfl rfl rfl ?_
  refine D.done [(0, [], _), (1, [], _)] ⟨rfl, rfl, trivial⟩ (hR _ _ _ rfl ?_); clear hR R
  subst hv
  refine G.region rfl (fun R hR => ?_)
  iterate 3 refine D.pure rfl rfl rfl rfl rfl rfl ?_
  refine D.done [(0, [], _), (1, [], _), (10, [], _)] ⟨rfl, rfl, rfl, trivial⟩ (hR _ _ _ rfl ?_); clear hR R
  refine G.cond rfl (fun h10 => ?_) (fun h10 => ?_)
  · skip
    simp only [decide_eq_true_eq] at h10
    have hid : compact l2 = l2 := compact_id (fun i x y _ h2 => by have := (List.getElem?_eq_some_iff.1 h2).1; omega)
    refine G.region rfl (fun R hR => ?_)
    iterate 2 refine D.pure rfl rfl rfl rfl rfl rfl ?_
    refine D.done [(4, [], _)] ⟨rfl, trivial⟩ (hR _ _ _ rfl ?_); clear hR R
    refine G.freezeArr 0 (l.map encP) rfl rfl (by intro r hr; obtain ⟨x, _, rfl⟩ := List.mem_map.1 hr; exact prow_len x) (by simp) (fun Cf hlef hsf => G.retN (G.fin1 rfl rfl ?_))
    exact ⟨rfl, l, hsf, fun x hx => hx, by rw [hid]; exact hl2⟩
  · skip
    simp only [decide_eq_false_iff_not] at h10
    obtain ⟨g, c, hv, hlc, hcm⟩ := hlt.resolve_left (by omega)
    obtain ⟨rfl, rfl⟩ : some (⟨g, 0, none⟩ : Addr) = A ∧ c = c0 := by cases hv; exact ⟨rfl, rfl⟩
    refine G.region rfl (fun R hR => ?_)
    refine D.pure rfl rfl rfl rfl rfl rfl ?_
    refine D.done [(0, [], _), (1, [], _), (5, [], _)] ⟨rfl, rfl, rfl, trivial⟩ (hR _ _ _ rfl ?_); clear hR R
    refine G.loop (fun fr C' L' μ => ∃ (k : Nat), (1 ≤ k ∧ k ≤ l.length ∧ ∀ i x y, i + 1 < k → l2[i]? = some x → l2[i + 1]? = some y → x ≠ y) ∧ fr = [(0, [], .slice (some ⟨g, 0, none⟩) l.length c), (1, [], .func (.func 47) #[] #[]), (5, [], .int .i64 k)] ∧ L' = [.arr (.slice (some ⟨g, 0, none⟩) l.length c) 31 1 l.length (l.map encP).flatten] ∧ μ = l.length - k) (fr' := [(0, [], _), (1, [], _), (5, [], _)]) ⟨rfl, rfl, rfl, trivial⟩ ⟨1, ⟨Nat.le_refl _, by omega, fun i x y hi => by omega⟩, rfl, rfl, rfl⟩ (fun fr C0' L0' m hle0 hI => ?_)
    obtain ⟨k, ⟨hk1, hkl, hne⟩, rfl, rfl, rfl⟩ := hI
    refine G.region rfl (fun R hR => ?_)
    iterate 4 refine D.pure rfl rfl rfl rfl rfl rfl ?_
    refine D.done [(0, [], _), (1, [], _), (5, [], _), (15, [], _)] ⟨rfl, rfl, rfl, rfl, trivial⟩ (hR _ _ _ rfl ?_); clear hR R
    refine G.cond rfl (fun h15 => ?_) (fun h15 => ?_)
    · skip
      simp only [decide_eq_true_eq] at h15
      obtain ⟨z, hz⟩ : ∃ z, l[k]? = some z := ⟨l[k]'(by omega), List.getElem?_eq_getElem (by omega)⟩
      obtain ⟨y, hy⟩ : ∃ y, l[k - 1]? = some y := ⟨l[k - 1]'(by omega), List.getElem?_eq_getElem (by omega)⟩
      have hzm := List.mem_of_getElem? hz
      have hym := List.mem_of_getElem? hy
      refine G.draw [0, 1, 2, 3, 4, 5, 6, 7, 8, 9, 10] [(10, 1)] rfl (by kernel_rfl) (fun R hB hR => ?_)
      iterate 3 refine D.pure rfl rfl rfl rfl rfl rfl ?_
      refine D.indexS (k * 1) rfl rfl rfl rfl rfl rfl rfl rfl rfl rfl (fun _ => ⟨by omega, by omega, rfl⟩) rfl rfl ?_
      refine D.loadArr (.head _) rfl rfl rfl rfl rfl rfl (fun _ => (by rw [row_read prow_len hz]; rfl)) rfl rfl ?_
      iterate 2 refine D.pure rfl rfl rfl rfl rfl rfl ?_
      refine D.i64 (((k - 1 : Nat) : Int)) rfl rfl rfl rfl (by omega) (by omega) (by omega) rfl rfl ?_
      refine D.indexS ((k - 1) * 1) rfl rfl rfl rfl rfl rfl rfl rfl rfl rfl (fun _ => ⟨by omega, by omega, rfl⟩) rfl rfl ?_
      refine D.loadArr (.head _) rfl rfl rfl rfl rfl rfl (fun _ => (by rw [row_read prow_len hy]; rfl)) rfl rfl ?_
      refine D.gives (fun _ => (rep1_fn _ _ _ z.2 y.2 ((hels z hzm).mono (by (repeat (first | exact Mem.le.refl _ | assumption | (apply Mem.le.trans; rotate_left; assumption))))) ((hels y hym).mono (by (repeat (first | exact Mem.le.refl _ | assumption | (apply Mem.le.trans; rotate_left; assumption))))) (hll z hzm) (hll y hym))) rfl rfl rfl rfl rfl rfl rfl rfl rfl ?_
      refine D.done [(0, [], _), (1, [], _), (5, [], _), (28, [], _)] ⟨rfl, rfl, rfl, rfl, trivial⟩ (hR _ _ _ rfl ?_); clear hR hB R
      refine G.cond rfl (fun h28 => ?_) (fun h28 => ?_)
      · skip
        have h28' : z.2 = y.2 := by simpa using h28
        refine G.region rfl (fun R hR => ?_)
        iterate 2 refine D.pure rfl rfl rfl rfl rfl rfl ?_
        have hA : (if c = k then (some ⟨g, 0, none⟩ : Option Addr) else (some (⟨g, 0, none⟩ : Addr)).map (·.add (k * 1))) = some ⟨g, k * 1, none⟩ := by
          rw [if_neg (by omega)]
          simp only [Option.map_some, Addr.add_lit, Nat.zero_add]
        refine D.sliceV k l.length c rfl rfl rfl rfl rfl rfl rfl rfl rfl rfl rfl rfl (fun _ => ⟨.inr ⟨_, rfl⟩, .inl ⟨rfl, rfl⟩, .inl ⟨rfl, rfl⟩, by omega, hlc, Nat.le_refl _⟩) rfl rfl ?_
        rw [hA]
        refine D.pure rfl rfl rfl rfl rfl rfl ?_
        refine D.done [(0, [], _), (1, [], _), (5, [], _), (6, [], (.slice (some ⟨g, k * 1, none⟩) (l.length - k) (c - k)))] ⟨rfl, rfl, rfl, rfl, trivial⟩ (hR _ _ _ rfl ?_); clear hR R
        refine G.region rfl (fun R hR => ?_)
        refine D.pure rfl rfl rfl rfl rfl rfl ?_
        refine D.done [(0, [], _), (1, [], _), (5, [], _), (6, [], _), (7, [], _)] ⟨rfl, rfl, rfl, rfl, rfl, trivial⟩ (hR _ _ _ rfl ?_); clear hR R
        have hck : compact (l2.take k) = l2.take k := compact_id (fun i x y h1 h2 => by
          have hb := (List.getElem?_eq_some_iff.1 h2).1
          simp only [List.length_take] at hb
          rw [List.getElem?_take] at h1 h2
          rw [if_pos (by omega)] at h1 h2
          exact hne i x y (by omega) h1 h2)
        have hk1' : l2.take (k + 1) = l2.take k ++ [z.2] := by rw [List.take_add_one, hl2a hz]; rfl
        have hcs : compact (l2.take (k + 1)) = l2.take k := by
          rw [hk1', compact_snoc (z := z.2) (i := k - 1) (by rw [List.getElem?_take, if_pos (by omega), h28']; exact hl2a hy) (by simp only [List.length_take]; omega), if_pos rfl, hck]
        refine G.loop (fun fr C' L' μ => ∃ (q : Nat) (i : Nat) (r : List RowP), (1 ≤ q ∧ k + q ≤ l.length ∧ r.length = l.length ∧ i = (compact (l2.take (k + q))).length ∧ i ≤ k + q - 1 ∧ (r.take i).map (·.2) = compact (l2.take (k + q)) ∧ (∀ j, k + q - 1 ≤ j → r[j]? = l[j]?) ∧ (∀ x ∈ r, x ∈ l)) ∧ fr = [(0, [], .slice (some ⟨g, 0, none⟩) l.length c), (1, [], .func (.func 47) #[] #[]), (5, [], .int .i64 i), (6, [], .slice (some ⟨g, k * 1, none⟩) (l.length - k) (c - k)), (7, [], .int .i64 q)] ∧ L' = [.arr (.slice (some ⟨g, 0, none⟩) l.length c) 31 1 l.length (r.map encP).flatten] ∧ μ = l.length - (k + q)) (fr' := [(0, [], _), (1, [], _), (5, [], _), (6, [], _), (7, [], _)]) ⟨rfl, rfl, rfl, rfl, rfl, trivial⟩ ⟨1, k, l, ⟨Nat.le_refl _, by omega, rfl, by rw [hcs]; simp only [List.length_take]; omega, by omega, by rw [hcs]; exact hl2t k, fun _ _ => rfl, fun x hx => hx⟩, rfl, rfl, rfl⟩ (fun fr C1' L1' m hle1 hI => ?_)
        obtain ⟨q, i, r, ⟨hq1, hql, hrl, hi, hik, hrt, hrs, hrm⟩, rfl, rfl, rfl⟩ := hI
        refine G.region rfl (fun R hR => ?_)
        iterate 4 refine D.pure rfl rfl rfl rfl rfl rfl ?_
        refine D.done [(0, [], _), (1, [], _), (5, [], _), (6, [], _), (7, [], _), (35, [], _)] ⟨rfl, rfl, rfl, rfl, rfl, rfl, trivial⟩ (hR _ _ _ rfl ?_); clear hR R
        refine G.cond rfl (fun h35 => ?_) (fun h35 => ?_)
        · skip
          simp only [decide_eq_true_eq] at h35
          obtain ⟨b2, hb2⟩ : ∃ z, r[k + q]? = some z := ⟨r[k + q]'(by omega), List.getElem?_eq_getElem (by omega)⟩
          obtain ⟨a2, ha2⟩ : ∃ y, r[k + q - 1]? = some y := ⟨r[k + q - 1]'(by omega), List.getElem?_eq_getElem (by omega)⟩
          have hb2l : l[k + q]? = some b2 := by rw [← hrs _ (by omega)]; exact hb2
          have ha2l : l[k + q - 1]? = some a2 := by rw [← hrs _ (by omega)]; exact ha2
          have hbm := List.mem_of_getElem? hb2l
          have ham := List.mem_of_getElem? ha2l
          obtain ⟨Ab, cb, hbe, _⟩ := hels b2 hbm
          have hbq : encP b2 = [.slice Ab (b2.2.map encN).length cb] := by unfold encP; rw [hbe]
          have hnext : compact (l2.take (k + (q + 1))) = if a2.2 = b2.2 then compact (l2.take (k + q)) else compact (l2.take (k + q)) ++ [b2.2] := by
            have e : l2.take (k + (q + 1)) = l2.take (k + q) ++ [b2.2] := by rw [show k + (q + 1) = k + q + 1 by omega, List.take_add_one, hl2a hb2l]; rfl
            rw [e, compact_snoc (z := a2.2) (i := k + q - 1) (by rw [List.getElem?_take, if_pos (by omega)]; exact hl2a ha2l) (by simp only [List.length_take]; omega)]
          refine G.draw [0, 1, 2, 3, 4, 5, 6, 7, 8, 9, 10, 11] [(10, 1)] rfl (by kernel_rfl) (fun R hB hR => ?_)
          iterate 3 refine D.pure rfl rfl rfl rfl rfl rfl ?_
          refine D.indexSo ((k + q) * 1) rfl rfl rfl rfl rfl rfl rfl rfl rfl rfl (fun _ => ⟨by omega, by omega, Nat.add_mul k q 1⟩) rfl rfl ?_
          refine D.loadArr (.head _) rfl rfl rfl rfl rfl rfl (fun _ => (by rw [row_read prow_len hb2]; rfl)) rfl rfl ?_
          iterate 2 refine D.pure rfl rfl rfl rfl rfl rfl ?_
          refine D.i64 (((q - 1 : Nat) : Int)) rfl rfl rfl rfl (by omega) (by omega) (by omega) rfl rfl ?_
          refine D.indexSo ((k + q - 1) * 1) rfl rfl rfl rfl rfl rfl rfl rfl rfl rfl (fun _ => ⟨by omega, by omega, (by rw [Nat.add_sub_assoc hq1]; exact Nat.add_mul k (q - 1) 1)⟩) rfl rfl ?_
          refine D.loadArr (.head _) rfl rfl rfl rfl rfl rfl (fun _ => (by rw [row_read prow_len ha2]; rfl)) rfl rfl ?_
          refine D.gives (fun _ => (rep1_fn _ _ _ b2.2 a2.2 ((hels b2 hbm).mono (by (repeat (first | exact Mem.le.refl _ | assumption | (apply Mem.le.trans; rotate_left; assumption))))) ((hels a2 ham).mono (by (repeat (first | exact Mem.le.refl _ | assumption | (apply Mem.le.trans; rotate_left; assumption))))) (hll b2 hbm) (hll a2 ham))) rfl rfl rfl rfl rfl rfl rfl rfl rfl ?_
          refine D.pure rfl rfl rfl rfl rfl rfl ?_
          refine D.done [(0, [], _), (1, [], _), (5, [], _), (6, [], _), (7, [], _), (49, [], _)] ⟨rfl, rfl, rfl, rfl, rfl, rfl, trivial⟩ (hR _ _ _ rfl ?_); clear hR hB R
          refine G.cond rfl (fun h49 => ?_) (fun h49 => ?_)
          · skip
            have h49' : ¬ b2.2 = a2.2 := by simpa using h49
            refine G.region rfl (fun R hR => ?_)
            iterate 4 refine D.pure rfl rfl rfl rfl rfl rfl ?_
            refine D.indexSo ((k + q) * 1) rfl rfl rfl rfl rfl rfl rfl rfl rfl rfl (fun _ => ⟨by omega, by omega, Nat.add_mul k q 1⟩) rfl rfl ?_
            refine D.loadArr (.head _) rfl rfl rfl rfl rfl rfl (fun _ => (by rw [row_read prow_len hb2, hbq]; rfl)) rfl rfl ?_
            refine D.indexS (i * 1) rfl rfl rfl rfl rfl rfl rfl rfl rfl rfl (fun _ => ⟨by omega, by omega, rfl⟩) rfl rfl ?_
            refine D.storeArr (j := 0) rfl rfl rfl rfl rfl rfl rfl rfl rfl rfl rfl (by rw [rows_len prow_len, hrl]; have h9 : (i + 1) * 1 ≤ l.length * 1 := Nat.mul_le_mul_right _ (by omega); rw [Nat.add_mul] at h9; simpa using h9) ?_
            refine D.done [(0, [], _), (1, [], _), (5, [], _), (6, [], _), (7, [], _)] ⟨rfl, rfl, rfl, rfl, rfl, trivial⟩ (hR _ _ _ rfl ?_); clear hR R
            refine G.region rfl (fun R hR => ?_)
            refine D.pure rfl rfl rfl rfl rfl rfl ?_
            refine D.i64 (((i + 1 : Nat) : Int)) rfl rfl rfl rfl (by omega) (by omega) (by omega) rfl rfl ?_
            refine D.pure rfl rfl rfl rfl rfl rfl ?_
            refine D.done [(0, [], _), (1, [], _), (5, [], _), (6, [], _), (7, [], _)] ⟨rfl, rfl, rfl, rfl, rfl, trivial⟩ (hR _ _ _ rfl ?_); clear hR R
            refine G.region rfl (fun R hR => ?_)
            refine D.pure rfl rfl rfl rfl rfl rfl ?_
            refine D.i64 (((q + 1 : Nat) : Int)) rfl rfl rfl rfl (by omega) (by omega) (by omega) rfl rfl ?_
            refine D.pure rfl rfl rfl rfl rfl rfl ?_
            refine D.done [(0, [], _), (1, [], _), (5, [], _), (6, [], _), (7, [], _)] ⟨rfl, rfl, rfl, rfl, rfl, trivial⟩ (hR _ _ _ rfl ?_); clear hR R
            have hw : storeInto (r.map encP).flatten ([.slice Ab (b2.2.map encN).length cb] : List Value) (i * 1) = ((r.set i b2).map encP).flatten := by rw [← hbq]; exact row_write prow_len b2 (by omega)
            have hw' : ∀ L0, (Ent.arr (.slice (some ⟨g, 0, none⟩) l.length c) 31 1 l.length (storeInto (r.map encP).flatten ([.slice Ab (b2.2.map encN).length cb] : List Value) (i * 1)) :: L0) = Ent.arr (.slice (some ⟨g, 0, none⟩) l.length c) 31 1 l.length ((r.set i b2).map encP).flatten :: L0 := fun L0 => by rw [hw]
            refine G.eqL (hw' []) ?_
            refine G.again (m' := l.length - (k + (q + 1))) (by omega) hle1 (fr' := [(0, [], _), (1, [], _), (5, [], _), (6, [], _), (7, [], _)]) ⟨rfl, rfl, rfl, rfl, rfl, trivial⟩ ⟨q + 1, i + 1, r.set i b2, ⟨by omega, by omega, by simpa using hrl, by rw [hnext, if_neg (Ne.symm h49'), List.length_append, ← hi]; rfl, by omega, by
              rw [hnext, if_neg (Ne.symm h49'), ← hrt, List.take_add_one, List.take_set_of_le (Nat.le_refl _), List.getElem?_set_self (by omega), List.map_append]
              rfl, fun j hj => by rw [List.getElem?_set_ne (by omega)]; exact hrs j (by omega), fun x hx => by
              rcases List.mem_or_eq_of_mem_set hx with h | h
              · exact hrm x h
              · rw [h]; exact hbm⟩, rfl, rfl, rfl⟩
          · skip
            have h49' : b2.2 = a2.2 := by simpa using h49
            refine G.region rfl (fun R hR => ?_)
            refine D.pure rfl rfl rfl rfl rfl rfl ?_
            refine D.i64 (((q + 1 : Nat) : Int)) rfl rfl rfl rfl (by omega) (by omega) (by omega) rfl rfl ?_
            refine D.pure rfl rfl rfl rfl rfl rfl ?_
            refine D.done [(0, [], _), (1, [], _), (5, [], _), (6, [], _), (7, [], _)] ⟨rfl, rfl, rfl, rfl, rfl, trivial⟩ (hR _ _ _ rfl ?_); clear hR R
            refine G.again (m' := l.length - (k + (q + 1))) (by omega) hle1 (fr' := [(0, [], _), (1, [], _), (5, [], _), (6, [], _), (7, [], _)]) ⟨rfl, rfl, rfl, rfl, rfl, trivial⟩ ⟨q + 1, i, r, ⟨by omega, by omega, hrl, by rw [hnext, if_pos h49'.symm]; exact hi, by omega, by rw [hnext, if_pos h49'.symm]; exact hrt, fun j hj => hrs j (by omega), hrm⟩, rfl, rfl, rfl⟩
        · skip
          simp only [decide_eq_false_iff_not] at h35
          have hkq : k + q = l.length := by omega
          rw [hkq, ← hl2l, List.take_length] at hrt hi
          have hil : i ≤ l.length := by rw [hi, ← hl2l]; exact compact_length_le l2
          refine G.region rfl (fun R hR => ?_)
          iterate 2 refine D.pure rfl rfl rfl rfl rfl rfl ?_
          refine D.sliceV i l.length c rfl rfl rfl rfl rfl rfl rfl rfl rfl rfl rfl rfl (fun _ => ⟨.inr ⟨_, rfl⟩, .inl ⟨rfl, rfl⟩, .inl ⟨rfl, rfl⟩, by omega, hlc, Nat.le_refl _⟩) rfl rfl ?_
          refine D.clear 0 (off := i * 1) rfl rfl rfl rfl rfl rfl rfl rfl rfl rfl rfl (by
            by_cases hci : c = i
            · exact .inl (by omega)
            · refine .inr ?_
              rw [if_neg hci]
              simp only [Option.map_some, Addr.add_lit, Nat.zero_add]) (by rw [rows_len prow_len, hrl, ← Nat.add_mul]; exact Nat.mul_le_mul_right _ (by omega)) ?_
          refine D.done [(0, [], _), (5, [], _)] ⟨rfl, rfl, trivial⟩ (hR _ _ _ rfl ?_); clear hR R
          refine G.region rfl (fun R hR => ?_)
          iterate 2 refine D.pure rfl rfl rfl rfl rfl rfl ?_
          refine D.sliceV 0 i c rfl rfl rfl rfl rfl rfl rfl rfl rfl rfl rfl rfl (fun _ => ⟨.inl ⟨rfl, rfl⟩, .inr ⟨_, rfl⟩, .inl ⟨rfl, rfl⟩, by omega, by omega, Nat.le_refl _⟩) rfl rfl ?_
          refine D.pure rfl rfl rfl rfl rfl rfl ?_
          refine D.done [(4, [], _)] ⟨rfl, trivial⟩ (hR _ _ _ rfl ?_); clear hR R
          refine G.freezeArr 0 ((r.take i).map encP ++ List.replicate (l.length - i) ([.slice none 0 0] : List Value)) rfl ?_ ?_ (by simp; omega) (fun Cf hlef hsf => G.retN (G.fin1 rfl rfl ?_))
          · unfold storeInto
            have e1 : (zrow ([.slice none 0 0] : List Value) (l.length - i)).length = (l.length - i) * 1 := zrow_length _ _
            refine Eq.trans (congrArg (· ++ _) (congrArg (· ++ _) (flatten_take_drop prow_len r i).1)) ?_
            rw [List.flatten_append, List.append_assoc]
            congr 1
            rw [← zrow_flatten]
            refine Eq.trans (congrArg (_ ++ ·) (List.drop_eq_nil_of_le ?_)) (List.append_nil _)
            rw [rows_len prow_len, hrl]
            refine Nat.le_trans (Nat.le_of_eq ?_) (Nat.le_of_eq (congrArg (i * 1 + ·) e1.symm))
            rw [← Nat.add_mul]; congr 1; omega
          · intro x hx
            rcases List.mem_append.1 hx with hx | hx
            · obtain ⟨y, _, rfl⟩ := List.mem_map.1 hx; exact prow_len y
            · rw [List.eq_of_mem_replicate hx]; rfl
          refine ⟨rfl, r.take i, ?_, fun x hx => hrm x (List.mem_of_mem_take hx), hrt⟩
          have hsub := Sl.sub hsf (l := 0) (h := i) (m := c) (Nat.zero_le _) (by simp; omega) (by omega) (Nat.le_refl _)
          have hti : (((r.take i).map encP ++ List.replicate (l.length - i) ([.slice none 0 0] : List Value)).take i).drop 0 = (r.take i).map encP := by
            rw [List.drop_zero, List.take_append_of_le_length (by simp; omega), List.take_of_length_le (by simp; omega)]
          rw [hti] at hsub
          exact hsub
      · skip
        have h28' : ¬ z.2 = y.2 := by simpa using h28
        refine G.region rfl (fun R hR => ?_)
        refine D.pure rfl rfl rfl rfl rfl rfl ?_
        refine D.i64 (((k + 1 : Nat) : Int)) rfl rfl rfl rfl (by omega) (by omega) (by omega) rfl rfl ?_
        refine D.pure rfl rfl rfl rfl rfl rfl ?_
        refine D.done [(0, [], _), (1, [], _), (5, [], _)] ⟨rfl, rfl, rfl, trivial⟩ (hR _ _ _ rfl ?_); clear hR R
        refine G.again (m' := l.length - (k + 1)) (by omega) hle0 (fr' := [(0, [], _), (1, [], _), (5, [], _)]) ⟨rfl, rfl, rfl, trivial⟩ ⟨k + 1, ⟨by omega, by omega, fun i x y' hi h1 h2 => by
          by_cases hi' : i + 1 < k
          · exact hne i x y' hi' h1 h2
          · have e : i = k - 1 := by omega
            subst e
            rw [show k - 1 + 1 = k by omega, hl2a hz] at h2
            rw [hl2a hy] at h1
            cases h1; cases h2
            exact fun e => h28' e.symm⟩, rfl, rfl, rfl⟩
    · skip
      simp only [decide_eq_false_iff_not] at h15
      have hkl' : k = l.length := by omega
      have hid : compact l2 = l2 := compact_id (fun i x y h1 h2 => hne i x y (by have := (List.getElem?_eq_some_iff.1 h2).1; omega) h1 h2)
      refine G.region rfl (fun R hR => ?_)
      iterate 2 refine D.pure rfl rfl rfl rfl rfl rfl ?_
      refine D.done [(4, [], _)] ⟨rfl, trivial⟩ (hR _ _ _ rfl ?_); clear hR R
      refine G.freezeArr 0 (l.map encP) rfl rfl (by intro r hr; obtain ⟨x, _, rfl⟩ := List.mem_map.1 hr; exact prow_len x) (by simp) (fun Cf hlef hsf => G.retN (G.fin1 rfl rfl ?_))
      exact ⟨rfl, l, hsf, fun x hx => hx, by rw [hid]; exact hl2⟩
end Go.Proofs.YtcghlfepfcagbaaGreat
namespace Go.Proofs.YtcghlfepfcagbaaGreat
open Go Go.Jog
set_option maxRecDepth 100000

/-- The relations that are not in a set. -/
def woAt (l : List Rel) (st : List Nat) (i : Nat) : List Rel := match l[i]? with
  | some x => oneIf (!decide (i ∈ st)) x
  | none => []
def woL (l : List Rel) (st : List Nat) : List Rel := cat (woAt l st) l.length
theorem woAt_len (l : List Rel) (st : List Nat) (k : Nat) : (cat (woAt l st) k).length ≤ k := by
  have := cat_length_mul (f := woAt l st) (m := 1) (fun i => by
    unfold woAt; split
    · exact oneIf_len _ _
    · simp) k
  omega
theorem mem_woL {l : List Rel} {st : List Nat} {x : Rel} (h : x ∈ woL l st) : x ∈ l := by
  unfold woL at h
  obtain ⟨i, hi, h⟩ := mem_cat.1 h
  unfold woAt at h
  rw [List.getElem?_eq_getElem hi] at h
  simp only at h
  unfold oneIf at h
  split at h
  · rw [List.mem_singleton.1 h]; exact List.getElem_mem hi
  · cases h
set_option maxHeartbeats 1000000 in
theorem without_fn (C : Mem) (v vs : Value) (l : List Rel) (st : List Nat) (hv : Sl C 3 v (l.map Rel.enc)) (hl : l.length ≤ 100000) (hvs : Sl C 1 vs (st.map encN)) (hsl : st.length ≤ 100000) :
    Pur cx.P 55 [v, vs] C fun r C' => Sl C' 3 r ((woL l st).map Rel.enc) := by
  obtain ⟨A, c, rfl, _⟩ := id hv
  obtain ⟨As, cs, rfl, _⟩ := id hvs
  simp only [List.length_map] at hv hvs ⊢
  refine Fn.intro (by kernel_rfl) Tryz.func55 rfl 25 rfl rfl (fun w0 => ?_)
  refine G.region rfl (fun R hR => ?_)
  refine D.pure rfl rfl rfl rfl rfl rfl ?_
  refine D.done [(0, [], _), (1, [], _)] ⟨rfl, rfl, trivial⟩ (hR _ _ _ rfl ?_); clear hR R
  refine G.region rfl (fun R hR => ?_)
  refine D.pure rfl rfl rfl rfl rfl rfl ?_
  refine D.done [(0, [], _), (1, [], _), (5, [], _)] ⟨rfl, rfl, rfl, trivial⟩ (hR _ _ _ rfl ?_); clear hR R
  refine G.region rfl (fun R hR => ?_)
  iterate 3 refine D.pure rfl rfl rfl rfl rfl rfl ?_
  refine D.done [(1, [], _), (5, [], _), (8, [], _), (9, [], _), (10, [], _)] ⟨rfl, rfl, rfl, rfl, rfl, trivial⟩ (hR _ _ _ rfl ?_); clear hR R
  refine G.nilArr 55 3 ?_
  refine G.loop (fun fr C' L' μ => ∃ (k : Nat) (w : Value), (k ≤ l.length) ∧ fr = [(1, [], .slice As st.length cs), (5, [], w), (8, [], .slice A l.length c), (9, [], .int .i64 l.length), (10, [], .int .i64 k)] ∧ L' = [.arr w 55 3 (cat (woAt l st) k).length ((cat (woAt l st) k).map Rel.enc).flatten] ∧ μ = l.length - k) (fr' := [(1, [], _), (5, [], _), (8, [], _), (9, [], _), (10, [], _)]) ⟨rfl, rfl, rfl, rfl, rfl, trivial⟩ ⟨0, _, Nat.zero_le _, rfl, rfl, rfl⟩ (fun fr C0' L0' m hle0 hI => ?_)
  obtain ⟨k, w, hk, rfl, rfl, rfl⟩ := hI
  refine G.region rfl (fun R hR => ?_)
  refine D.pure rfl rfl rfl rfl rfl rfl ?_
  refine D.done [(1, [], _), (5, [], _), (8, [], _), (9, [], _), (10, [], _), (11, [], _)] ⟨rfl, rfl, rfl, rfl, rfl, rfl, trivial⟩ (hR _ _ _ rfl ?_); clear hR R
  refine G.cond rfl (fun h11 => ?_) (fun h11 => ?_)
  · skip
    simp only [decide_eq_true_eq] at h11
    have hkl : k < l.length := by omega
    obtain ⟨x, hx⟩ : ∃ x, l[k]? = some x := ⟨l[k], List.getElem?_eq_getElem hkl⟩
    have hrx : (l.map Rel.enc)[k]? = some x.enc := by rw [List.getElem?_map, hx]; rfl
    have hwl := woAt_len l st k
    refine G.region rfl (fun R hR => ?_)
    refine D.pure rfl rfl rfl rfl rfl rfl ?_
    refine D.index0 (hv.mono (by (repeat (first | exact Mem.le.refl _ | assumption | (apply Mem.le.trans; rotate_left; assumption))))) rfl rfl rfl rfl rfl rfl rfl rfl rfl rfl (by omega) hrx (fun _ => rfl) (fun p13 hp13 => ?_)
    refine D.loadP0 hp13 rfl rfl rfl rfl rfl rfl rfl rfl ?_
    refine D.alloc rfl rfl rfl rfl rfl (fun _ => rfl) (fun b7 => ?_)
    refine D.pure rfl rfl rfl rfl rfl rfl ?_
    refine D.store (j := 0) rfl rfl rfl rfl rfl rfl rfl rfl rfl rfl rfl rfl ?_
    refine D.done [(1, [], _), (5, [], _), (6, [], _), (7, [], _), (8, [], _), (9, [], _), (10, [], _)] ⟨rfl, rfl, rfl, rfl, rfl, rfl, rfl, trivial⟩ (hR _ _ _ rfl ?_); clear hR R
    refine G.freeze 0 rfl (fun C7 hle7 hb7 => ?_)
    refine G.region rfl (fun R hR => ?_)
    iterate 2 refine D.pure rfl rfl rfl rfl rfl rfl ?_
    refine D.gives2 (contains_fn _ _ st k (hvs.mono (by (repeat (first | exact Mem.le.refl _ | assumption | (apply Mem.le.trans; rotate_left; assumption))))) (by omega)) rfl rfl rfl rfl rfl rfl rfl (fun _ => rfl) ?_
    refine D.pure rfl rfl rfl rfl rfl rfl ?_
    refine D.done [(1, [], _), (5, [], _), (7, [], _), (8, [], _), (9, [], _), (10, [], _), (18, [], _)] ⟨rfl, rfl, rfl, rfl, rfl, rfl, rfl, trivial⟩ (hR _ _ _ rfl ?_); clear hR R
    refine G.cond rfl (fun h18 => ?_) (fun h18 => ?_)
    · skip
      have h18' : k ∉ st := by simpa using h18
      have hfa : woAt l st k = [x] := by unfold woAt; rw [hx]; exact oneIf_true (by simp [h18'])
      refine G.region rfl (fun R hR => ?_)
      refine D.pure rfl rfl rfl rfl rfl rfl ?_
      refine D.loadP0 (PtrTo.block (Mem.get hb7 (by (repeat (first | exact Mem.le.refl _ | assumption | (apply Mem.le.trans; rotate_left; assumption))))) _) rfl rfl rfl rfl rfl rfl rfl rfl ?_
      refine D.buildSlice [x.enc] rfl rfl rfl rfl rfl rfl rfl rfl rfl rfl rfl rfl (fun _ => rfl) (fun p21 C21 hle21 hs21 => ?_)
      refine D.append (j := 0) rfl rfl rfl rfl rfl rfl rfl rfl rfl rfl rfl hs21 rfl (by simp only [List.length_singleton, maxLen]; omega) (by simp only [List.length_singleton]; omega) (fun _ => rfl) (fun v22 => ?_)
      refine D.pure rfl rfl rfl rfl rfl rfl ?_
      refine D.done [(1, [], _), (5, [], _), (8, [], _), (9, [], _), (10, [], _)] ⟨rfl, rfl, rfl, rfl, rfl, trivial⟩ (hR _ _ _ rfl ?_); clear hR R
      refine G.region rfl (fun R hR => ?_)
      refine D.i64 _ rfl rfl rfl rfl rfl (by omega) (by omega) rfl rfl ?_
      refine D.pure rfl rfl rfl rfl rfl rfl ?_
      refine D.done [(1, [], _), (5, [], _), (8, [], _), (9, [], _), (10, [], _)] ⟨rfl, rfl, rfl, rfl, rfl, trivial⟩ (hR _ _ _ rfl ?_); clear hR R
      refine G.eqL (L' := [.arr v22 55 3 (cat (woAt l st) (k + 1)).length ((cat (woAt l st) (k + 1)).map Rel.enc).flatten]) (by rw [cat_succ, hfa]; simp) ?_
      refine G.again (m' := l.length - (k + 1)) (by omega) (by (repeat (first | exact Mem.le.refl _ | assumption | (apply Mem.le.trans; rotate_left; assumption)))) (fr' := [(1, [], _), (5, [], _), (8, [], _), (9, [], _), (10, [], _)]) ⟨rfl, rfl, rfl, rfl, rfl, trivial⟩ ⟨k + 1, v22, by omega, rfl, rfl, rfl⟩
    · skip
      have h18' : k ∈ st := by simpa using h18
      have hfa : woAt l st k = [] := by unfold woAt; rw [hx]; exact oneIf_false (by simp [h18'])
      refine G.region rfl (fun R hR => ?_)
      refine D.i64 _ rfl rfl rfl rfl rfl (by omega) (by omega) rfl rfl ?_
      refine D.pure rfl rfl rfl rfl rfl rfl ?_
      refine D.done [(1, [], _), (5, [], _), (8, [], _), (9, [], _), (10, [], _)] ⟨rfl, rfl, rfl, rfl, rfl, trivial⟩ (hR _ _ _ rfl ?_); clear hR R
      refine G.eqL (L' := [.arr w 55 3 (cat (woAt l st) (k + 1)).length ((cat (woAt l st) (k + 1)).map Rel.enc).flatten]) (by rw [cat_succ, hfa, List.append_nil]; rfl) ?_
      refine G.again (m' := l.length - (k + 1)) (by omega) (by (repeat (first | exact Mem.le.refl _ | assumption | (apply Mem.le.trans; rotate_left; assumption)))) (fr' := [(1, [], _), (5, [], _), (8, [], _), (9, [], _), (10, [], _)]) ⟨rfl, rfl, rfl, rfl, rfl, trivial⟩ ⟨k + 1, w, by omega, rfl, rfl, rfl⟩
  · skip
    simp only [decide_eq_false_iff_not] at h11
    have hkl : k = l.length := by omega
    subst hkl
    refine G.region rfl (fun R hR => ?_)
    iterate 2 refine D.pure rfl rfl rfl rfl rfl rfl ?_
    refine D.done [(4, [], _)] ⟨rfl, trivial⟩ (hR _ _ _ rfl ?_); clear hR R
    refine G.freezeArr 0 ((woL l st).map Rel.enc) rfl rfl (by intro r hr; obtain ⟨y, _, rfl⟩ := List.mem_map.1 hr; rfl) (by simp [woL]) (fun Cf hf hsd => ?_)
    refine G.retN (G.dropAll (G.fin1 rfl rfl ?_))
    exact ⟨rfl, hsd⟩

/-- The first error of a set. -/
def setE (m : Nat) (st : List Int) : Nat → Int
  | 0 => 0
  | k + 1 => if setE m st k ≠ 0 then setE m st k else match st[k]? with
    | some x => if x < 0 ∨ (m : Int) ≤ x then 3 else if 0 < k ∧ x ≤ st.getD (k - 1) 0 then 6 else 0
    | none => 0
def chkE (l : List Rel) (st : List Int) : Int := if errU l ≠ 0 then errU l else setE l.length st st.length
theorem setE_mono {m : Nat} {st : List Int} {k : Nat} (h : setE m st k ≠ 0) : ∀ j, setE m st (k + j) = setE m st k
  | 0 => rfl
  | j + 1 => by
    have ih := setE_mono h j
    show setE m st (k + j + 1) = _
    simp only [setE]
    rw [if_pos (by rw [ih]; exact h), ih]
set_option maxHeartbeats 1000000 in
theorem checkS_fn (C : Mem) (v vs : Value) (l : List Rel) (st : List Int) (hv : Sl C 3 v (l.map Rel.enc)) (hl : l.length ≤ 100000) (hsh : ∀ x ∈ l, x.short) (hvs : Sl C 1 vs (st.map encI)) (hsl : st.length ≤ 100000) :
    Gives cx.P 54 [v, vs] C (.int .i64 (chkE l st)) := by
  obtain ⟨A, c, rfl, _⟩ := id hv
  obtain ⟨As, cs, rfl, _⟩ := id hvs
  simp only [List.length_map] at hv hvs ⊢
  refine Fn.intro (by kernel_rfl) Tryz.func54 rfl 42 rfl rfl (fun w0 => ?_)
  refine G.region rfl (fun R hR => ?_)
  refine D.pure rfl rfl rfl rfl rfl rfl ?_
  refine D.done [(0, [], _), (1, [], _)] ⟨rfl, rfl, trivial⟩ (hR _ _ _ rfl ?_); clear hR R
  refine G.region rfl (fun R hR => ?_)
  refine D.pure rfl rfl rfl rfl rfl rfl ?_
  refine D.gives2 (check_fn _ _ l hv hl hsh) rfl rfl rfl rfl rfl rfl rfl (fun _ => rfl) ?_
  refine D.pure rfl rfl rfl rfl rfl rfl ?_
  refine D.done [(0, [], _), (1, [], _), (5, [], _)] ⟨rfl, rfl, rfl, trivial⟩ (hR _ _ _ rfl ?_); clear hR R
  refine G.region rfl (fun R hR => ?_)
  iterate 2 refine D.pure rfl rfl rfl rfl rfl rfl ?_
  refine D.done [(0, [], _), (1, [], _), (5, [], _), (11, [], _)] ⟨rfl, rfl, rfl, rfl, trivial⟩ (hR _ _ _ rfl ?_); clear hR R
  refine G.cond rfl (fun h11 => ?_) (fun h11 => ?_)
  · skip
    have h11' : errU l ≠ 0 := by simpa using h11
    refine G.region rfl (fun R hR => ?_)
    iterate 2 refine D.pure rfl rfl rfl rfl rfl rfl ?_
    refine D.done [(4, [], _)] ⟨rfl, trivial⟩ (hR _ _ _ rfl ?_); clear hR R
    refine G.retN (G.dropAll (G.fin1 rfl rfl ?_))
    exact ⟨by rw [chkE, if_pos h11'], rfl⟩
  · skip
    have h11' : errU l = 0 := by simpa using h11
    refine G.region rfl (fun R hR => ?_)
    iterate 3 refine D.pure rfl rfl rfl rfl rfl rfl ?_
    refine D.done [(0, [], _), (1, [], _), (13, [], _), (14, [], _), (15, [], _)] ⟨rfl, rfl, rfl, rfl, rfl, trivial⟩ (hR _ _ _ rfl ?_); clear hR R
    refine G.loop (fun fr C' L' μ => ∃ (k : Nat), (k ≤ st.length ∧ setE l.length st k = 0) ∧ fr = [(0, [], .slice A l.length c), (1, [], .slice As st.length cs), (13, [], .slice As st.length cs), (14, [], .int .i64 st.length), (15, [], .int .i64 k)] ∧ L' = [] ∧ μ = st.length - k) (fr' := [(0, [], _), (1, [], _), (13, [], _), (14, [], _), (15, [], _)]) ⟨rfl, rfl, rfl, rfl, rfl, trivial⟩ ⟨0, ⟨Nat.zero_le _, rfl⟩, rfl, rfl, rfl⟩ (fun fr C0' L0' m hle0 hI => ?_)
    obtain ⟨k, ⟨hk, hz⟩, rfl, rfl, rfl⟩ := hI
    refine G.region rfl (fun R hR => ?_)
    refine D.pure rfl rfl rfl rfl rfl rfl ?_
    refine D.done [(0, [], _), (1, [], _), (13, [], _), (14, [], _), (15, [], _), (16, [], _)] ⟨rfl, rfl, rfl, rfl, rfl, rfl, trivial⟩ (hR _ _ _ rfl ?_); clear hR R
    refine G.cond rfl (fun h16 => ?_) (fun h16 => ?_)
    · skip
      simp only [decide_eq_true_eq] at h16
      have hkl : k < st.length := by omega
      obtain ⟨x, hx⟩ : ∃ x, st[k]? = some x := ⟨st[k], List.getElem?_eq_getElem hkl⟩
      have hrx : (st.map encI)[k]? = some (encI x) := by rw [List.getElem?_map, hx]; rfl
      have hse : setE l.length st (k + 1) = if x < 0 ∨ (l.length : Int) ≤ x then 3 else if 0 < k ∧ x ≤ st.getD (k - 1) 0 then 6 else 0 := by
        simp only [setE]; rw [if_neg (by rw [hz]; simp), hx]
      have hfin : setE l.length st (k + 1) ≠ 0 → setE l.length st st.length = setE l.length st (k + 1) := fun h => by
        have := setE_mono h (st.length - (k + 1))
        rw [show k + 1 + (st.length - (k + 1)) = st.length by omega] at this
        exact this
      have hprev : 0 < k → (st.map encI)[((k : Int) - 1).toNat]? = some (encI (st.getD (k - 1) 0)) := fun h => by
        have e : ((k : Int) - 1).toNat = k - 1 := by omega
        rw [e, List.getElem?_map, List.getElem?_eq_getElem (by omega : k - 1 < st.length), List.getD_eq_getElem?_getD, List.getElem?_eq_getElem (by omega : k - 1 < st.length)]; rfl
      refine G.region rfl (fun R hR => ?_)
      refine D.pure rfl rfl rfl rfl rfl rfl ?_
      refine D.index0 (hvs.mono (by (repeat (first | exact Mem.le.refl _ | assumption | (apply Mem.le.trans; rotate_left; assumption))))) rfl rfl rfl rfl rfl rfl rfl rfl rfl rfl (by omega) hrx (fun _ => rfl) (fun p18 hp18 => ?_)
      refine D.loadP0 hp18 rfl rfl rfl rfl rfl rfl rfl rfl ?_
      iterate 2 refine D.pure rfl rfl rfl rfl rfl rfl ?_
      refine D.done [(0, [], _), (1, [], _), (6, [], _), (7, [], _), (13, [], _), (14, [], _), (15, [], _)] ⟨rfl, rfl, rfl, rfl, rfl, rfl, rfl, trivial⟩ (hR _ _ _ rfl ?_); clear hR R
      refine G.region rfl (fun R hR => ?_)
      iterate 7 refine D.pure rfl rfl rfl rfl rfl rfl ?_
      refine D.pickOr rfl rfl rfl rfl rfl rfl rfl rfl ?_
      refine D.pure rfl rfl rfl rfl rfl rfl ?_
      refine D.done [(0, [], _), (1, [], _), (6, [], _), (7, [], _), (13, [], _), (14, [], _), (15, [], _), (20, [], _)] ⟨rfl, rfl, rfl, rfl, rfl, rfl, rfl, rfl, trivial⟩ (hR _ _ _ rfl ?_); clear hR R
      refine G.cond rfl (fun h20 => ?_) (fun h20 => ?_)
      · skip
        have h20' : x < 0 ∨ (l.length : Int) ≤ x := by simpa using h20
        refine G.region rfl (fun R hR => ?_)
        refine D.pure rfl rfl rfl rfl rfl rfl ?_
        refine D.done [(4, [], _)] ⟨rfl, trivial⟩ (hR _ _ _ rfl ?_); clear hR R
        refine G.retN (G.dropAll (G.fin1 rfl rfl ?_))
        refine ⟨?_, rfl⟩
        rw [if_pos h20'] at hse
        rw [chkE, if_neg (by rw [h11']; simp), hfin (by rw [hse]; decide), hse]
      · skip
        have h20' : ¬ (x < 0 ∨ (l.length : Int) ≤ x) := by simpa using h20
        refine G.region rfl (fun R hR => ?_)
        iterate 6 refine D.pure rfl rfl rfl rfl rfl rfl ?_
        refine D.i64 (((k : Int) - 1)) rfl rfl rfl rfl rfl (by omega) (by omega) rfl rfl ?_
        refine D.index rfl rfl rfl rfl rfl rfl rfl rfl rfl rfl (fun hg => ⟨hvs.mono (by (repeat (first | exact Mem.le.refl _ | assumption | (apply Mem.le.trans; rotate_left; assumption)))), (by have h : decide ((0 : Int) < (k : Int)) = true := hg.1; simp at h; omega), hprev (by have h : decide ((0 : Int) < (k : Int)) = true := hg.1; simp at h; omega)⟩) (fun _ => rfl) rfl (fun p37 hp37 => ?_)
        refine D.loadP rfl rfl rfl rfl rfl rfl hp37 rfl rfl rfl ?_
        refine D.pure rfl rfl rfl rfl rfl rfl ?_
        refine D.pickAnd rfl rfl rfl rfl rfl rfl rfl rfl ?_
        refine D.pure rfl rfl rfl rfl rfl rfl ?_
        refine D.done [(0, [], _), (1, [], _), (13, [], _), (14, [], _), (15, [], _), (29, [], _)] ⟨rfl, rfl, rfl, rfl, rfl, rfl, trivial⟩ (hR _ _ _ rfl ?_); clear hR R
        refine G.cond rfl (fun h29 => ?_) (fun h29 => ?_)
        · skip
          have h29' : 0 < k ∧ x ≤ st.getD (k - 1) 0 := by simpa using h29
          refine G.region rfl (fun R hR => ?_)
          refine D.pure rfl rfl rfl rfl rfl rfl ?_
          refine D.done [(4, [], _)] ⟨rfl, trivial⟩ (hR _ _ _ rfl ?_); clear hR R
          refine G.retN (G.dropAll (G.fin1 rfl rfl ?_))
          refine ⟨?_, rfl⟩
          rw [if_neg h20', if_pos h29'] at hse
          rw [chkE, if_neg (by rw [h11']; simp), hfin (by rw [hse]; decide), hse]
        · skip
          have h29' : ¬ (0 < k ∧ x ≤ st.getD (k - 1) 0) := fun hh => by
            have : (false : Bool) = true := by rw [← h29]; simpa using hh
            cases this
          refine G.region rfl (fun R hR => ?_)
          refine D.i64 _ rfl rfl rfl rfl rfl (by omega) (by omega) rfl rfl ?_
          refine D.pure rfl rfl rfl rfl rfl rfl ?_
          refine D.done [(0, [], _), (1, [], _), (13, [], _), (14, [], _), (15, [], _)] ⟨rfl, rfl, rfl, rfl, rfl, trivial⟩ (hR _ _ _ rfl ?_); clear hR R
          refine G.again (m' := st.length - (k + 1)) (by omega) (by (repeat (first | exact Mem.le.refl _ | assumption | (apply Mem.le.trans; rotate_left; assumption)))) (fr' := [(0, [], _), (1, [], _), (13, [], _), (14, [], _), (15, [], _)]) ⟨rfl, rfl, rfl, rfl, rfl, trivial⟩ ⟨k + 1, ⟨by omega, by rw [hse, if_neg h20', if_neg h29']⟩, rfl, rfl, rfl⟩
    · skip
      simp only [decide_eq_false_iff_not] at h16
      have hkl : k = st.length := by omega
      subst hkl
      refine G.region rfl (fun R hR => ?_)
      refine D.pure rfl rfl rfl rfl rfl rfl ?_
      refine D.done [(4, [], _)] ⟨rfl, trivial⟩ (hR _ _ _ rfl ?_); clear hR R
      refine G.retN (G.dropAll (G.fin1 rfl rfl ?_))
      exact ⟨by rw [chkE, if_neg (by rw [h11']; simp), hz], rfl⟩
end Go.Proofs.YtcghlfepfcagbaaGreat
namespace Go.Proofs.YtcghlfepfcagbaaGreat
open Go Go.Jog
set_option maxRecDepth 100000

def InvRes (C : Mem) (l : List Rel) (r : Value) : Prop :=
  (errU l ≠ 0 ∧ r = .tuple #[nilV, .int .i64 (errU l)]) ∨ (errU l = 0 ∧ ∃ q v, Invs l q l.length ∧ r = .tuple #[v, .int .i64 0] ∧ Sl C 1 v (q.map encN))
theorem involvedR_fn (C : Mem) (v : Value) (l : List Rel) (hv : Sl C 3 v (l.map Rel.enc)) (hl : l.length ≤ 100000) (hsh : ∀ x ∈ l, x.short) : Pur cx.P 25 [v] C fun r C' => InvRes C' l r := by
  obtain ⟨A0, c0, rfl, _⟩ := id hv
  refine Fn.intro (by kernel_rfl) Tryz.func25 rfl 13 rfl rfl (fun w0 => ?_)
  refine G.region rfl (fun R hR => ?_)
  iterate 2 refine D.pure rfl rfl rfl rfl rfl rfl ?_
  refine D.done [(0, [], _)] ⟨rfl, trivial⟩ (hR _ _ _ rfl ?_); clear hR R
  refine G.region rfl (fun R hR => ?_)
  refine D.pure rfl rfl rfl rfl rfl rfl ?_
  refine D.gives2 (check_fn _ _ l hv hl hsh) rfl rfl rfl rfl rfl rfl rfl (fun _ => rfl) ?_
  refine D.pure rfl rfl rfl rfl rfl rfl ?_
  refine D.done [(0, [], _), (4, [], _)] ⟨rfl, rfl, trivial⟩ (hR _ _ _ rfl ?_); clear hR R
  refine G.region rfl (fun R hR => ?_)
  iterate 2 refine D.pure rfl rfl rfl rfl rfl rfl ?_
  refine D.done [(0, [], _), (4, [], _), (8, [], _)] ⟨rfl, rfl, rfl, trivial⟩ (hR _ _ _ rfl ?_); clear hR R
  refine G.cond rfl (fun h8 => ?_) (fun h8 => ?_)
  · skip
    have h8' : errU l ≠ 0 := by simpa using h8
    refine G.region rfl (fun R hR => ?_)
    iterate 3 refine D.pure rfl rfl rfl rfl rfl rfl ?_
    refine D.done [(2, [], _), (3, [], _)] ⟨rfl, rfl, trivial⟩ (hR _ _ _ rfl ?_); clear hR R
    refine G.retN (G.dropAll (G.fin2 rfl rfl rfl ?_))
    exact ⟨rfl, .inl ⟨h8', rfl⟩⟩
  · skip
    have h8' : errU l = 0 := by simpa using h8
    refine G.region rfl (fun R hR => ?_)
    refine D.pure rfl rfl rfl rfl rfl rfl ?_
    refine D.callP (open_fn _ _ l (hv.mono (by (repeat (first | exact Mem.le.refl _ | assumption | (apply Mem.le.trans; rotate_left; assumption))))) hl) rfl rfl rfl rfl rfl rfl rfl (fun _ => rfl) (fun v11 C11 hle11 hq11 => ?_)
    refine D.callP (involved_fn _ _ l hq11 hl) rfl rfl rfl rfl rfl rfl rfl (fun _ => rfl) (fun v12 C12 hle12 hq12 => ?_)
    iterate 2 refine D.pure rfl rfl rfl rfl rfl rfl ?_
    refine D.done [(2, [], _), (3, [], _)] ⟨rfl, rfl, trivial⟩ (hR _ _ _ rfl ?_); clear hR R
    refine G.retN (G.dropAll (G.fin2 rfl rfl rfl ?_))
    obtain ⟨q, h1, h2⟩ := hq12
    exact ⟨rfl, .inr ⟨h8', q, _, h1, rfl, h2⟩⟩
theorem setE_zero {m : Nat} {st : List Int} : ∀ {n : Nat}, n ≤ st.length → setE m st n = 0 → ∀ k, k < n → ∀ x, st[k]? = some x → 0 ≤ x ∧ x < m ∧ (0 < k → st.getD (k - 1) 0 < x)
  | 0, _, _, k, h, _, _ => by omega
  | n + 1, hn, h0, k, hk, x, hx => by
    simp only [setE] at h0
    by_cases h1 : setE m st n = 0
    · rw [if_neg (by rw [h1]; simp)] at h0
      rcases Nat.lt_or_ge k n with h2 | h2
      · exact setE_zero (by omega) h1 k h2 x hx
      · have : k = n := by omega
        subst this
        rw [hx] at h0
        simp only at h0
        split at h0
        · cases h0
        · rename_i h3
          split at h0
          · cases h0
          · rename_i h4
            refine ⟨by omega, by omega, fun h5 => ?_⟩
            rcases (show st.getD (k - 1) 0 < x ∨ x ≤ st.getD (k - 1) 0 by omega) with h6 | h6
            · exact h6
            · exact absurd ⟨h5, h6⟩ h4
    · rw [if_pos h1] at h0; exact absurd h0 h1
def natsOf (st : List Int) : List Nat := st.map Int.toNat
theorem natsOf_enc {m : Nat} {st : List Int} (h : setE m st st.length = 0) : st.map encI = (natsOf st).map encN := by
  unfold natsOf
  rw [List.map_map]
  refine List.map_congr_left (fun x hx => ?_)
  obtain ⟨k, hk⟩ := List.getElem?_of_mem hx
  have := (setE_zero (Nat.le_refl _) h k (List.getElem?_eq_some_iff.1 hk).1 x hk).1
  show [Value.int .i64 x] = [Value.int .i64 ((x.toNat : Nat) : Int)]
  rw [Int.toNat_of_nonneg this]
theorem chk_zero {l : List Rel} {st : List Int} (h : chkE l st = 0) : errU l = 0 ∧ setE l.length st st.length = 0 := by
  unfold chkE at h
  split at h
  · rename_i h1; exact absurd h h1
  · rename_i h1; exact ⟨Classical.not_not.1 h1, h⟩
def WoRes (C : Mem) (l : List Rel) (st : List Int) (r : Value) : Prop :=
  (chkE l st ≠ 0 ∧ r = .tuple #[nilV, .int .i64 (chkE l st)]) ∨ (chkE l st = 0 ∧ ∃ v, r = .tuple #[v, .int .i64 0] ∧ Sl C 3 v ((woL l (natsOf st)).map Rel.enc))
theorem withoutR_fn (C : Mem) (v vs : Value) (l : List Rel) (st : List Int) (hv : Sl C 3 v (l.map Rel.enc)) (hl : l.length ≤ 100000) (hsh : ∀ x ∈ l, x.short) (hvs : Sl C 1 vs (st.map encI)) (hsl : st.length ≤ 100000) :
    Pur cx.P 28 [v, vs] C fun r C' => WoRes C' l st r := by
  refine Fn.intro (by kernel_rfl) Tryz.func28 rfl 16 rfl rfl (fun w0 => ?_)
  refine G.region rfl (fun R hR => ?_)
  iterate 2 refine D.pure rfl rfl rfl rfl rfl rfl ?_
  refine D.done [(0, [], _), (1, [], _)] ⟨rfl, rfl, trivial⟩ (hR _ _ _ rfl ?_); clear hR R
  refine G.region rfl (fun R hR => ?_)
  iterate 2 refine D.pure rfl rfl rfl rfl rfl rfl ?_
  refine D.gives2 (checkS_fn _ _ _ l st hv hl hsh hvs hsl) rfl rfl rfl rfl rfl rfl rfl (fun _ => rfl) ?_
  refine D.pure rfl rfl rfl rfl rfl rfl ?_
  refine D.done [(0, [], _), (1, [], _), (6, [], _)] ⟨rfl, rfl, rfl, trivial⟩ (hR _ _ _ rfl ?_); clear hR R
  refine G.region rfl (fun R hR => ?_)
  iterate 2 refine D.pure rfl rfl rfl rfl rfl rfl ?_
  refine D.done [(0, [], _), (1, [], _), (6, [], _), (11, [], _)] ⟨rfl, rfl, rfl, rfl, trivial⟩ (hR _ _ _ rfl ?_); clear hR R
  refine G.cond rfl (fun h11 => ?_) (fun h11 => ?_)
  · skip
    have h11' : chkE l st ≠ 0 := by simpa using h11
    refine G.region rfl (fun R hR => ?_)
    iterate 3 refine D.pure rfl rfl rfl rfl rfl rfl ?_
    refine D.done [(4, [], _), (5, [], _)] ⟨rfl, rfl, trivial⟩ (hR _ _ _ rfl ?_); clear hR R
    refine G.retN (G.dropAll (G.fin2 rfl rfl rfl ?_))
    exact ⟨rfl, .inl ⟨h11', rfl⟩⟩
  · skip
    have h11' : chkE l st = 0 := by simpa using h11
    have hvn := hvs
    rw [natsOf_enc (chk_zero h11').2] at hvn
    refine G.region rfl (fun R hR => ?_)
    iterate 2 refine D.pure rfl rfl rfl rfl rfl rfl ?_
    refine D.callP (without_fn _ _ _ l (natsOf st) (hv.mono (by (repeat (first | exact Mem.le.refl _ | assumption | (apply Mem.le.trans; rotate_left; assumption))))) hl (hvn.mono (by (repeat (first | exact Mem.le.refl _ | assumption | (apply Mem.le.trans; rotate_left; assumption))))) (by simpa [natsOf] using hsl)) rfl rfl rfl rfl rfl rfl rfl (fun _ => rfl) (fun v15 C15 hle15 hq15 => ?_)
    iterate 2 refine D.pure rfl rfl rfl rfl rfl rfl ?_
    refine D.done [(4, [], _), (5, [], _)] ⟨rfl, rfl, trivial⟩ (hR _ _ _ rfl ?_); clear hR R
    refine G.retN (G.dropAll (G.fin2 rfl rfl rfl ?_))
    exact ⟨rfl, .inr ⟨h11', _, rfl, hq15⟩⟩
end Go.Proofs.YtcghlfepfcagbaaGreat
