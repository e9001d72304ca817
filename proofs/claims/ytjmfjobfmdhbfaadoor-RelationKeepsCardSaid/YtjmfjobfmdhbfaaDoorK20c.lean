/- Layer 20: comparisons and the sorts. -/
import Derived.Test.YtjmfjobfmdhbfaaDoorK20b
import Derived.Test.YtjmfjobfmdhbfaaDoorShelf
namespace Go.Proofs.YtjmfjobfmdhbfaaDoor
open Go Go.Jog
def cmpI (a b : Int) : Int := if a < b then -1 else if a = b then 0 else 1
def cmpS (a b : Str) : Int := if Op.bytesLess a b = true then -1 else if a = b then 0 else 1
def orI : List Int → Int
  | [] => 0
  | x :: l => if x = 0 then orI l else x

set_option maxRecDepth 100000
theorem isNaN_int (C : Mem) (a : Int) : Gives cx.P 71 [.int .i64 a] C (.bool false) := by
  refine Fn.intro (by kernel_rfl) Tryd.func71 rfl 6 rfl rfl (fun w0 => ?_)
  refine G.region rfl (fun R hR => ?_)
  refine D.pure rfl rfl rfl rfl rfl rfl ?_
  refine D.done [(0, [], _)] ⟨rfl, trivial⟩ (hR _ _ _ rfl ?_); clear hR R
  refine G.region rfl (fun R hR => ?_)
  iterate 4 refine D.pure rfl rfl rfl rfl rfl rfl ?_
  refine D.done [(2, [], _)] ⟨rfl, trivial⟩ (hR _ _ _ rfl ?_); clear hR R
  refine G.retN (G.dropAll (G.fin1 rfl rfl ?_))
  exact ⟨by simp, rfl⟩
theorem isNaN_str (C : Mem) (a : Str) : Gives cx.P 60 [strV a] C (.bool false) := by
  refine Fn.intro (by kernel_rfl) Tryd.func60 rfl 6 rfl rfl (fun w0 => ?_)
  refine G.region rfl (fun R hR => ?_)
  refine D.pure rfl rfl rfl rfl rfl rfl ?_
  refine D.done [(0, [], _)] ⟨rfl, trivial⟩ (hR _ _ _ rfl ?_); clear hR R
  refine G.region rfl (fun R hR => ?_)
  iterate 4 refine D.pure rfl rfl rfl rfl rfl rfl ?_
  refine D.done [(2, [], _)] ⟨rfl, trivial⟩ (hR _ _ _ rfl ?_); clear hR R
  refine G.retN (G.dropAll (G.fin1 rfl rfl ?_))
  exact ⟨by simp, rfl⟩
theorem compare_int (C : Mem) (a b : Int) : Gives cx.P 53 [.int .i64 a, .int .i64 b] C (.int .i64 (cmpI a b)) := by
  refine Fn.intro (by kernel_rfl) Tryd.func53 rfl 20 rfl rfl (fun w0 => ?_)
  refine G.region rfl (fun R hR => ?_)
  refine D.pure rfl rfl rfl rfl rfl rfl ?_
  refine D.done [(0, [], _), (1, [], _)] ⟨rfl, rfl, trivial⟩ (hR _ _ _ rfl ?_); clear hR R
  refine G.region rfl (fun R hR => ?_)
  refine D.pure rfl rfl rfl rfl rfl rfl ?_
  refine D.gives2 (isNaN_int _ _) rfl rfl rfl rfl rfl rfl rfl (fun _ => rfl) ?_
  refine D.pure rfl rfl rfl rfl rfl rfl ?_
  refine D.done [(0, [], _), (1, [], _), (5, [], _)] ⟨rfl, rfl, rfl, trivial⟩ (hR _ _ _ rfl ?_); clear hR R
  refine G.region rfl (fun R hR => ?_)
  refine D.pure rfl rfl rfl rfl rfl rfl ?_
  refine D.gives2 (isNaN_int _ _) rfl rfl rfl rfl rfl rfl rfl (fun _ => rfl) ?_
  refine D.pure rfl rfl rfl rfl rfl rfl ?_
  refine D.done [(0, [], _), (1, [], _), (5, [], _), (6, [], _)] ⟨rfl, rfl, rfl, rfl, trivial⟩ (hR _ _ _ rfl ?_); clear hR R
  refine G.region rfl (fun R hR => ?_)
  refine D.pure rfl rfl rfl rfl rfl rfl ?_
  refine D.done [(0, [], _), (1, [], _), (6, [], _), (11, [], _)] ⟨rfl, rfl, rfl, rfl, trivial⟩ (hR _ _ _ rfl ?_); clear hR R
  refine G.cond rfl (fun h11 => ?_) (fun h11 => ?_)
  · skip
    cases h11
  · skip
    refine G.region rfl (fun R hR => ?_)
    refine D.pure rfl rfl rfl rfl rfl rfl ?_
    refine D.done [(0, [], _), (1, [], _), (13, [], _)] ⟨rfl, rfl, rfl, trivial⟩ (hR _ _ _ rfl ?_); clear hR R
    refine G.cond rfl (fun h13 => ?_) (fun h13 => ?_)
    · skip
      cases h13
    · skip
      refine G.region rfl (fun R hR => ?_)
      iterate 3 refine D.pure rfl rfl rfl rfl rfl rfl ?_
      refine D.done [(0, [], _), (1, [], _), (16, [], _)] ⟨rfl, rfl, rfl, trivial⟩ (hR _ _ _ rfl ?_); clear hR R
      refine G.cond rfl (fun h16 => ?_) (fun h16 => ?_)
      · skip
        refine G.region rfl (fun R hR => ?_)
        refine D.pure rfl rfl rfl rfl rfl rfl ?_
        refine D.done [(4, [], _)] ⟨rfl, trivial⟩ (hR _ _ _ rfl ?_); clear hR R
        refine G.retN (G.dropAll (G.fin1 rfl rfl ?_))
        simp only [decide_eq_true_eq] at h16
        exact ⟨by rw [cmpI, if_pos h16], rfl⟩
      · skip
        refine G.region rfl (fun R hR => ?_)
        iterate 3 refine D.pure rfl rfl rfl rfl rfl rfl ?_
        refine D.done [(19, [], _)] ⟨rfl, trivial⟩ (hR _ _ _ rfl ?_); clear hR R
        refine G.cond rfl (fun h19 => ?_) (fun h19 => ?_)
        · skip
          refine G.region rfl (fun R hR => ?_)
          refine D.pure rfl rfl rfl rfl rfl rfl ?_
          refine D.done [(4, [], _)] ⟨rfl, trivial⟩ (hR _ _ _ rfl ?_); clear hR R
          refine G.retN (G.dropAll (G.fin1 rfl rfl ?_))
          simp only [decide_eq_true_eq, decide_eq_false_iff_not] at h16 h19
          exact ⟨by rw [cmpI, if_neg h16, if_neg (by omega)], rfl⟩
        · skip
          refine G.region rfl (fun R hR => ?_)
          refine D.pure rfl rfl rfl rfl rfl rfl ?_
          refine D.done [(4, [], _)] ⟨rfl, trivial⟩ (hR _ _ _ rfl ?_); clear hR R
          refine G.retN (G.dropAll (G.fin1 rfl rfl ?_))
          simp only [decide_eq_false_iff_not] at h16 h19
          exact ⟨by rw [cmpI, if_neg h16, if_pos (by omega)], rfl⟩
theorem compare_str (C : Mem) (a b : Str) : Gives cx.P 49 [strV a, strV b] C (.int .i64 (cmpS a b)) := by
  refine Fn.intro (by kernel_rfl) Tryd.func49 rfl 20 rfl rfl (fun w0 => ?_)
  refine G.region rfl (fun R hR => ?_)
  refine D.pure rfl rfl rfl rfl rfl rfl ?_
  refine D.done [(0, [], _), (1, [], _)] ⟨rfl, rfl, trivial⟩ (hR _ _ _ rfl ?_); clear hR R
  refine G.region rfl (fun R hR => ?_)
  refine D.pure rfl rfl rfl rfl rfl rfl ?_
  refine D.gives2 (isNaN_str _ _) rfl rfl rfl rfl rfl rfl rfl (fun _ => rfl) ?_
  refine D.pure rfl rfl rfl rfl rfl rfl ?_
  refine D.done [(0, [], _), (1, [], _), (5, [], _)] ⟨rfl, rfl, rfl, trivial⟩ (hR _ _ _ rfl ?_); clear hR R
  refine G.region rfl (fun R hR => ?_)
  refine D.pure rfl rfl rfl rfl rfl rfl ?_
  refine D.gives2 (isNaN_str _ _) rfl rfl rfl rfl rfl rfl rfl (fun _ => rfl) ?_
  refine D.pure rfl rfl rfl rfl rfl rfl ?_
  refine D.done [(0, [], _), (1, [], _), (5, [], _), (6, [], _)] ⟨rfl, rfl, rfl, rfl, trivial⟩ (hR _ _ _ rfl ?_); clear hR R
  refine G.region rfl (fun R hR => ?_)
  refine D.pure rfl rfl rfl rfl rfl rfl ?_
  refine D.done [(0, [], _), (1, [], _), (6, [], _), (11, [], _)] ⟨rfl, rfl, rfl, rfl, trivial⟩ (hR _ _ _ rfl ?_); clear hR R
  refine G.cond rfl (fun h11 => ?_) (fun h11 => ?_)
  · skip
    cases h11
  · skip
    refine G.region rfl (fun R hR => ?_)
    refine D.pure rfl rfl rfl rfl rfl rfl ?_
    refine D.done [(0, [], _), (1, [], _), (13, [], _)] ⟨rfl, rfl, rfl, trivial⟩ (hR _ _ _ rfl ?_); clear hR R
    refine G.cond rfl (fun h13 => ?_) (fun h13 => ?_)
    · skip
      cases h13
    · skip
      refine G.region rfl (fun R hR => ?_)
      iterate 3 refine D.pure rfl rfl rfl rfl rfl rfl ?_
      refine D.done [(0, [], _), (1, [], _), (16, [], _)] ⟨rfl, rfl, rfl, trivial⟩ (hR _ _ _ rfl ?_); clear hR R
      refine G.cond rfl (fun h16 => ?_) (fun h16 => ?_)
      · skip
        refine G.region rfl (fun R hR => ?_)
        refine D.pure rfl rfl rfl rfl rfl rfl ?_
        refine D.done [(4, [], _)] ⟨rfl, trivial⟩ (hR _ _ _ rfl ?_); clear hR R
        refine G.retN (G.dropAll (G.fin1 rfl rfl ?_))
        exact ⟨by rw [cmpS, if_pos h16], rfl⟩
      · skip
        refine G.region rfl (fun R hR => ?_)
        iterate 3 refine D.pure rfl rfl rfl rfl rfl rfl ?_
        refine D.done [(19, [], _)] ⟨rfl, trivial⟩ (hR _ _ _ rfl ?_); clear hR R
        refine G.cond rfl (fun h19 => ?_) (fun h19 => ?_)
        · skip
          refine G.region rfl (fun R hR => ?_)
          refine D.pure rfl rfl rfl rfl rfl rfl ?_
          refine D.done [(4, [], _)] ⟨rfl, trivial⟩ (hR _ _ _ rfl ?_); clear hR R
          refine G.retN (G.dropAll (G.fin1 rfl rfl ?_))
          replace h16 : Op.bytesLess a b = false := h16
          replace h19 : (!(Op.bytesLess a b || a == b)) = true := h19
          rw [h16] at h19
          exact ⟨by rw [cmpS, if_neg (by rw [h16]; decide), if_neg (by simpa using h19)], rfl⟩
        · skip
          refine G.region rfl (fun R hR => ?_)
          refine D.pure rfl rfl rfl rfl rfl rfl ?_
          refine D.done [(4, [], _)] ⟨rfl, trivial⟩ (hR _ _ _ rfl ?_); clear hR R
          refine G.retN (G.dropAll (G.fin1 rfl rfl ?_))
          replace h16 : Op.bytesLess a b = false := h16
          replace h19 : (!(Op.bytesLess a b || a == b)) = false := h19
          rw [h16] at h19
          exact ⟨by rw [cmpS, if_neg (by rw [h16]; decide), if_pos (by simpa using h19)], rfl⟩
theorem orI_at : ∀ {l : List Int} {k : Nat} {x : Int}, l[k]? = some x → (∀ y ∈ l.take k, y = 0) → x ≠ 0 → orI l = x
  | [], k, x, h, _, _ => by simp at h
  | y :: l, 0, x, h, _, hn => by
    simp at h
    subst h
    simp [orI, hn]
  | y :: l, k + 1, x, h, ha, hn => by
    have := orI_at (l := l) (k := k) (by simpa using h) (fun z hz => ha z (by simp [hz])) hn
    simp [orI, ha y (by simp), this]
theorem orI_zero : ∀ {l : List Int}, (∀ y ∈ l, y = 0) → orI l = 0
  | [], _ => rfl
  | y :: l, h => by simp [orI, h y (by simp), orI_zero (l := l) (fun z hz => h z (by simp [hz]))]
def encI (x : Int) : List Value := [.int .i64 x]
theorem or_int (C : Mem) (v : Value) (l : List Int) (hv : Sl C 1 v (l.map encI)) (hl : l.length ≤ 1000000) : Gives cx.P 48 [v] C (.int .i64 (orI l)) := by
  have hv0 := hv
  obtain ⟨A, c, rfl, _⟩ := hv0
  refine Fn.intro (by kernel_rfl) Tryd.func48 rfl 18 rfl rfl (fun w0 => ?_)
  refine G.region rfl (fun R hR => ?_)
  refine D.pure rfl rfl rfl rfl rfl rfl ?_
  refine D.done [(0, [], _)] ⟨rfl, trivial⟩ (hR _ _ _ rfl ?_); clear hR R
  refine G.region rfl (fun R hR => ?_)
  refine D.pure rfl rfl rfl rfl rfl rfl ?_
  refine D.done [(0, [], _), (3, [], _)] ⟨rfl, rfl, trivial⟩ (hR _ _ _ rfl ?_); clear hR R
  refine G.region rfl (fun R hR => ?_)
  iterate 3 refine D.pure rfl rfl rfl rfl rfl rfl ?_
  refine D.done [(3, [], _), (6, [], _), (7, [], _), (8, [], _)] ⟨rfl, rfl, rfl, rfl, trivial⟩ (hR _ _ _ rfl ?_); clear hR R
  refine G.loop (fun fr C' L' μ => ∃ (k : Nat), (k ≤ l.length ∧ ∀ y ∈ l.take k, y = 0) ∧ fr = [(3, [], .int .i64 0), (6, [], .slice A (l.map encI).length c), (7, [], .int .i64 (l.map encI).length), (8, [], .int .i64 k)] ∧ L' = [] ∧ μ = l.length - k) (fr' := [(3, [], _), (6, [], _), (7, [], _), (8, [], _)]) ⟨rfl, rfl, rfl, rfl, trivial⟩ ⟨0, ⟨Nat.zero_le _, by simp⟩, rfl, rfl, rfl⟩ (fun fr C0' L0' m hle0 hI => ?_)
  obtain ⟨k, ⟨hk, hall⟩, rfl, rfl, rfl⟩ := hI
  refine G.region rfl (fun R hR => ?_)
  refine D.pure rfl rfl rfl rfl rfl rfl ?_
  refine D.done [(3, [], _), (6, [], _), (7, [], _), (8, [], _), (9, [], _)] ⟨rfl, rfl, rfl, rfl, rfl, trivial⟩ (hR _ _ _ rfl ?_); clear hR R
  refine G.cond rfl (fun h9 => ?_) (fun h9 => ?_)
  · skip
    simp only [List.length_map, decide_eq_true_eq] at h9
    have hkl : k < l.length := by omega
    have hv1 := hv.mono hle0
    refine G.region rfl (fun R hR => ?_)
    refine D.index0 hv1 rfl rfl rfl rfl rfl rfl rfl rfl rfl rfl (by omega) (row := encI l[k]) (by simp [hkl]) (fun _ => rfl) (fun p10 hp10 => ?_)
    refine D.loadP0 hp10 rfl rfl rfl rfl rfl rfl rfl rfl ?_
    refine D.pure rfl rfl rfl rfl rfl rfl ?_
    refine D.done [(3, [], _), (5, [], _), (6, [], _), (7, [], _), (8, [], _)] ⟨rfl, rfl, rfl, rfl, rfl, trivial⟩ (hR _ _ _ rfl ?_); clear hR R
    refine G.region rfl (fun R hR => ?_)
    iterate 3 refine D.pure rfl rfl rfl rfl rfl rfl ?_
    refine D.done [(3, [], _), (5, [], _), (6, [], _), (7, [], _), (8, [], _), (14, [], _)] ⟨rfl, rfl, rfl, rfl, rfl, rfl, trivial⟩ (hR _ _ _ rfl ?_); clear hR R
    refine G.cond rfl (fun h14 => ?_) (fun h14 => ?_)
    · skip
      simp only [bne_iff_ne, ne_eq] at h14
      refine G.region rfl (fun R hR => ?_)
      iterate 2 refine D.pure rfl rfl rfl rfl rfl rfl ?_
      refine D.done [(2, [], _)] ⟨rfl, trivial⟩ (hR _ _ _ rfl ?_); clear hR R
      refine G.retN (G.dropAll (G.fin1 rfl rfl ?_))
      exact ⟨by rw [orI_at (List.getElem?_eq_getElem hkl) hall h14], rfl⟩
    · skip
      simp only [bne_eq_false_iff_eq] at h14
      refine G.region rfl (fun R hR => ?_)
      refine D.i64 (((k + 1 : Nat) : Int)) rfl rfl rfl rfl (by omega) (by omega) (by omega) rfl rfl ?_
      refine D.pure rfl rfl rfl rfl rfl rfl ?_
      refine D.done [(3, [], _), (6, [], _), (7, [], _), (8, [], _)] ⟨rfl, rfl, rfl, rfl, trivial⟩ (hR _ _ _ rfl ?_); clear hR R
      refine G.again (m' := l.length - (k + 1)) (by omega) hle0 (fr' := [(3, [], _), (6, [], _), (7, [], _), (8, [], _)]) ⟨rfl, rfl, rfl, rfl, trivial⟩ ⟨k + 1, ⟨by omega, fun y hy => by
        rw [List.take_succ_eq_append_getElem hkl] at hy
        rcases List.mem_append.1 hy with h6 | h6
        · exact hall y h6
        · simp only [List.mem_singleton] at h6
          subst h6
          exact h14⟩, rfl, rfl, rfl⟩
  · skip
    simp only [List.length_map, decide_eq_false_iff_not] at h9
    refine G.region rfl (fun R hR => ?_)
    iterate 2 refine D.pure rfl rfl rfl rfl rfl rfl ?_
    refine D.done [(2, [], _)] ⟨rfl, trivial⟩ (hR _ _ _ rfl ?_); clear hR R
    refine G.retN (G.dropAll (G.fin1 rfl rfl ?_))
    rw [List.take_of_length_le (by omega)] at hall
    exact ⟨by rw [orI_zero hall], rfl⟩

/-! ### The order of the relations, and of the arcs -/
def cmpR (x y : Rel) : Int := orI [cmpI x.kind y.kind, cmpS x.upper y.upper, cmpS x.lower y.lower]
def cmpA (x y : ArcE) : Int := orI [cmpS x.lower y.lower, cmpS x.upper y.upper]
theorem relCompare (C : Mem) (x y : Rel) : Gives cx.P 33 [.agg ⟨x.enc⟩, .agg ⟨y.enc⟩] C (.int .i64 (cmpR x y)) := by
  refine Fn.intro (by kernel_rfl) Tryd.func33 rfl 22 rfl rfl (fun w0 => ?_)
  refine G.region rfl (fun R hR => ?_)
  refine D.box rfl rfl rfl rfl rfl rfl (fun _ => rfl) (fun b2 => ?_)
  refine D.box rfl rfl rfl rfl rfl rfl (fun _ => rfl) (fun b3 => ?_)
  refine D.pure rfl rfl rfl rfl rfl rfl ?_
  refine D.done [(2, [], _), (3, [], _)] ⟨rfl, rfl, trivial⟩ (hR _ _ _ rfl ?_); clear hR R
  refine G.draw [0, 1, 2, 3, 4, 5, 6, 7, 8, 9, 10, 11, 12, 13, 14, 15, 16, 17] [(4, 1), (9, 1), (14, 1), (16, 1)] rfl (by kernel_rfl) (fun R hB hR => ?_)
  refine D.pure rfl rfl rfl rfl rfl rfl ?_
  refine D.loadL (.tail _ (.head _)) rfl rfl rfl rfl rfl rfl rfl rfl rfl ?_
  refine D.pure rfl rfl rfl rfl rfl rfl ?_
  refine D.loadL (.head _) rfl rfl rfl rfl rfl rfl rfl rfl rfl ?_
  refine D.gives (fun _ => (compare_int _ _ _)) rfl rfl rfl rfl rfl rfl rfl rfl rfl ?_
  refine D.pure rfl rfl rfl rfl rfl rfl ?_
  refine D.loadL (.tail _ (.head _)) rfl rfl rfl rfl rfl rfl rfl rfl rfl ?_
  refine D.pure rfl rfl rfl rfl rfl rfl ?_
  refine D.loadL (.head _) rfl rfl rfl rfl rfl rfl rfl rfl rfl ?_
  refine D.gives (fun _ => (compare_str _ _ _)) rfl rfl rfl rfl rfl rfl rfl rfl rfl ?_
  refine D.pure rfl rfl rfl rfl rfl rfl ?_
  refine D.loadL (.tail _ (.head _)) rfl rfl rfl rfl rfl rfl rfl rfl rfl ?_
  refine D.pure rfl rfl rfl rfl rfl rfl ?_
  refine D.loadL (.head _) rfl rfl rfl rfl rfl rfl rfl rfl rfl ?_
  refine D.gives (fun _ => (compare_str _ _ _)) rfl rfl rfl rfl rfl rfl rfl rfl rfl ?_
  refine D.buildSlice [encI (cmpI x.kind y.kind), encI (cmpS x.upper y.upper), encI (cmpS x.lower y.lower)] rfl rfl rfl rfl rfl rfl rfl rfl rfl rfl rfl rfl (fun _ => rfl) (fun p20 C20 hle20 hs20 => ?_)
  refine D.gives (fun _ => (or_int _ _ [cmpI x.kind y.kind, cmpS x.upper y.upper, cmpS x.lower y.lower] hs20 (by simp))) rfl rfl rfl rfl rfl rfl rfl rfl rfl ?_
  refine D.pure rfl rfl rfl rfl rfl rfl ?_
  refine D.done [(4, [], _)] ⟨rfl, trivial⟩ (hR _ _ _ rfl ?_); clear hR hB R
  refine G.retN (G.dropAll (G.fin1 rfl rfl ?_))
  exact ⟨rfl, rfl⟩
theorem arcCompare (C : Mem) (x y : ArcE) : Gives cx.P 47 [.agg ⟨x.enc⟩, .agg ⟨y.enc⟩] C (.int .i64 (cmpA x y)) := by
  refine Fn.intro (by kernel_rfl) Tryd.func47 rfl 17 rfl rfl (fun w0 => ?_)
  refine G.region rfl (fun R hR => ?_)
  refine D.box rfl rfl rfl rfl rfl rfl (fun _ => rfl) (fun b2 => ?_)
  refine D.box rfl rfl rfl rfl rfl rfl (fun _ => rfl) (fun b3 => ?_)
  refine D.pure rfl rfl rfl rfl rfl rfl ?_
  refine D.done [(2, [], _), (3, [], _)] ⟨rfl, rfl, trivial⟩ (hR _ _ _ rfl ?_); clear hR R
  refine G.draw [0, 1, 2, 3, 4, 5, 6, 7, 8, 9, 10, 11, 12] [(4, 1), (9, 1), (11, 1)] rfl (by kernel_rfl) (fun R hB hR => ?_)
  refine D.pure rfl rfl rfl rfl rfl rfl ?_
  refine D.loadL (.tail _ (.head _)) rfl rfl rfl rfl rfl rfl rfl rfl rfl ?_
  refine D.pure rfl rfl rfl rfl rfl rfl ?_
  refine D.loadL (.head _) rfl rfl rfl rfl rfl rfl rfl rfl rfl ?_
  refine D.gives (fun _ => (compare_str _ _ _)) rfl rfl rfl rfl rfl rfl rfl rfl rfl ?_
  refine D.pure rfl rfl rfl rfl rfl rfl ?_
  refine D.loadL (.tail _ (.head _)) rfl rfl rfl rfl rfl rfl rfl rfl rfl ?_
  refine D.pure rfl rfl rfl rfl rfl rfl ?_
  refine D.loadL (.head _) rfl rfl rfl rfl rfl rfl rfl rfl rfl ?_
  refine D.gives (fun _ => (compare_str _ _ _)) rfl rfl rfl rfl rfl rfl rfl rfl rfl ?_
  refine D.buildSlice [encI (cmpS x.lower y.lower), encI (cmpS x.upper y.upper)] rfl rfl rfl rfl rfl rfl rfl rfl rfl rfl rfl rfl (fun _ => rfl) (fun p15 C15 hle15 hs15 => ?_)
  refine D.gives (fun _ => (or_int _ _ [cmpS x.lower y.lower, cmpS x.upper y.upper] hs15 (by simp))) rfl rfl rfl rfl rfl rfl rfl rfl rfl ?_
  refine D.pure rfl rfl rfl rfl rfl rfl ?_
  refine D.done [(4, [], _)] ⟨rfl, trivial⟩ (hR _ _ _ rfl ?_); clear hR hB R
  refine G.retN (G.dropAll (G.fin1 rfl rfl ?_))
  exact ⟨rfl, rfl⟩
end Go.Proofs.YtjmfjobfmdhbfaaDoor
