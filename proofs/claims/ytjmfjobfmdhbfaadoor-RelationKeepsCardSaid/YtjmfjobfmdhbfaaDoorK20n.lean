/- Layer 20: Text, and the function of the statement RelationTexts. -/
import Derived.Test.YtjmfjobfmdhbfaaDoorK20j
namespace Go.Proofs.YtjmfjobfmdhbfaaDoor
open Go Go.Jog
set_option maxRecDepth 100000

theorem nameByte_32 (k : Nat) : nameByte k 32 = false := by
  unfold nameByte
  have h1 : letterB 32 = false := by decide
  have h2 : digitB 32 = false := by decide
  rw [h1, h2]; simp
theorem nameFrom_no : ∀ {s : Str} {k : Nat}, nameFrom k s = true → (32 : UInt8) ∉ s
  | [], _, _ => by simp
  | b :: s, k, h => by
    simp only [nameFrom, Bool.and_eq_true] at h
    intro hm
    rcases List.mem_cons.1 hm with e | hm
    · rw [← e, nameByte_32] at h; cases h.1
    · exact nameFrom_no h.2 hm
theorem isNameB_no {s : Str} (h : isNameB s = true) : (32 : UInt8) ∉ s ∧ s ≠ [] ∧ s.length ≤ 32 := by
  simp only [isNameB, Bool.and_eq_true, Bool.not_eq_true', beq_eq_false_iff_ne, ne_eq, decide_eq_true_eq] at h
  exact ⟨nameFrom_no h.2, h.1.1, h.1.2⟩
theorem errOf_zero {x : Rel} (h : errOf x = 0) : 1 ≤ x.kind ∧ x.kind ≤ 4 ∧ isNameB x.upper = true ∧ isNameB x.lower = true ∧ x.upper ≠ x.lower := by
  unfold errOf at h
  split at h
  · cases h
  · split at h
    · cases h
    · split at h
      · cases h
      · rename_i h1 h2 h3
        refine ⟨by omega, by omega, ?_, ?_, h3⟩
        · cases hx : isNameB x.upper with
          | true => rfl
          | false => exact absurd (.inl hx) h2
        · cases hx : isNameB x.lower with
          | true => rfl
          | false => exact absurd (.inr hx) h2
def textOf (x : Rel) : Str := (((x.upper ++ [32]) ++ wordK x.kind) ++ [32]) ++ x.lower
theorem wordK_no {k : Int} (h1 : 1 ≤ k) (h2 : k ≤ 4) : (32 : UInt8) ∉ wordK k ∧ wordK k ≠ [] ∧ (wordK k).length ≤ 8 ∧ idxI (wordK k) wordL 0 = k - 1 := by
  have : k = 1 ∨ k = 2 ∨ k = 3 ∨ k = 4 := by omega
  rcases this with rfl | rfl | rfl | rfl <;> refine ⟨by decide, by decide, by decide, rfl⟩
theorem textOf_length {x : Rel} (h : errOf x = 0) : (textOf x).length ≤ 100 := by
  obtain ⟨h1, h2, h3, h4, _⟩ := errOf_zero h
  have := (isNameB_no h3).2.2
  have := (isNameB_no h4).2.2
  have := (wordK_no h1 h2).2.2.1
  simp only [textOf, List.length_append, List.length_cons, List.length_nil]
  omega
theorem parse_text {x : Rel} (h : errOf x = 0) : parseM (textOf x) = (x, 0) := by
  obtain ⟨h1, h2, h3, h4, _⟩ := errOf_zero h
  obtain ⟨a1, a2, _⟩ := isNameB_no h3
  obtain ⟨b1, b2, _⟩ := isNameB_no h4
  obtain ⟨w1, w2, _, w3⟩ := wordK_no h1 h2
  have e : textOf x = x.upper ++ 32 :: (wordK x.kind ++ 32 :: x.lower) := by simp [textOf]
  have hn : ¬ (x.upper = [] ∨ wordK x.kind = [] ∨ x.lower = []) := by simp [a2, b2, w2]
  have e2 : 1 + (x.kind - 1) = x.kind := by omega
  rw [e, parseM, splitOn_hit 32 _ _ a1, splitOn_hit 32 _ _ w1, splitOn_miss 32 _ b1]
  simp only [parseL, if_neg hn, w3]
  rw [if_neg (by omega), e2]
  rw [if_pos h]

theorem text_spec (C : Mem) (x : Rel) (hx : x.short) : Gives cx.P 20 [.agg ⟨x.enc⟩] C (.tuple #[strV (if errOf x = 0 then textOf x else []), .int .i64 (errOf x)]) := by
  refine Fn.intro (by kernel_rfl) Tryd.func20 rfl 23 rfl rfl (fun w0 => ?_)
  refine G.region rfl (fun R hR => ?_)
  refine D.box rfl rfl rfl rfl rfl rfl (fun _ => rfl) (fun b1 => ?_)
  iterate 2 refine D.pure rfl rfl rfl rfl rfl rfl ?_
  refine D.done [(1, [], _)] ⟨rfl, trivial⟩ (hR _ _ _ rfl ?_); clear hR R
  refine G.region rfl (fun R hR => ?_)
  refine D.loadL (.head _) rfl rfl rfl rfl rfl rfl rfl rfl rfl ?_
  refine D.gives2 (check_spec _ _ hx.1 hx.2) rfl rfl rfl rfl rfl rfl rfl (fun _ => rfl) ?_
  refine D.pure rfl rfl rfl rfl rfl rfl ?_
  refine D.done [(1, [], _), (4, [], _)] ⟨rfl, rfl, trivial⟩ (hR _ _ _ rfl ?_); clear hR R
  refine G.region rfl (fun R hR => ?_)
  iterate 2 refine D.pure rfl rfl rfl rfl rfl rfl ?_
  refine D.done [(1, [], _), (4, [], _), (8, [], _)] ⟨rfl, rfl, rfl, trivial⟩ (hR _ _ _ rfl ?_); clear hR R
  refine G.cond rfl (fun h8 => ?_) (fun h8 => ?_)
  · skip
    have h8' : errOf x ≠ 0 := by simpa using h8
    refine G.region rfl (fun R hR => ?_)
    iterate 3 refine D.pure rfl rfl rfl rfl rfl rfl ?_
    refine D.done [(2, [], _), (3, [], _)] ⟨rfl, rfl, trivial⟩ (hR _ _ _ rfl ?_); clear hR R
    refine G.retN (G.dropAll (G.fin2 rfl rfl rfl ?_))
    exact ⟨by rw [if_neg h8']; rfl, rfl⟩
  · skip
    have h8' : errOf x = 0 := by simpa using h8
    obtain ⟨k1, k2, n1, n2, _⟩ := errOf_zero h8'
    have l1 := (isNameB_no n1).2.2
    have l2 := (isNameB_no n2).2.2
    have l3 := (wordK_no k1 k2).2.2.1
    have hw : (wordL.map strV)[(x.kind - 1).toNat]? = some (strV (wordK x.kind)) := by
      have : x.kind = 1 ∨ x.kind = 2 ∨ x.kind = 3 ∨ x.kind = 4 := by omega
      rcases this with h | h | h | h <;> rw [h] <;> rfl
    refine G.draw [0, 1, 2, 3, 4, 5, 6, 7, 8, 9, 10, 11, 12, 13, 14] [(3, 1)] rfl (by kernel_rfl) (fun R hB hR => ?_)
    refine D.pure rfl rfl rfl rfl rfl rfl ?_
    refine D.loadL (.head _) rfl rfl rfl rfl rfl rfl rfl rfl rfl ?_
    refine D.concat rfl rfl rfl rfl rfl rfl (fun _ => (by simp only [List.length_append, List.length_cons, List.length_nil]; omega)) rfl rfl ?_
    refine D.gives (fun _ => (words_spec _)) rfl rfl rfl rfl rfl rfl rfl rfl rfl ?_
    refine D.pure rfl rfl rfl rfl rfl rfl ?_
    refine D.loadL (.head _) rfl rfl rfl rfl rfl rfl rfl rfl rfl ?_
    refine D.i64 ((x.kind - 1)) rfl rfl rfl rfl (by omega) (by omega) (by omega) rfl rfl ?_
    refine D.indexArr rfl rfl rfl rfl rfl rfl rfl rfl rfl rfl rfl (fun _ => ⟨by omega, by omega, hw⟩) rfl rfl ?_
    refine D.concat rfl rfl rfl rfl rfl rfl (fun _ => (by simp only [List.length_append, List.length_cons, List.length_nil]; omega)) rfl rfl ?_
    refine D.concat rfl rfl rfl rfl rfl rfl (fun _ => (by simp only [List.length_append, List.length_cons, List.length_nil]; omega)) rfl rfl ?_
    refine D.pure rfl rfl rfl rfl rfl rfl ?_
    refine D.loadL (.head _) rfl rfl rfl rfl rfl rfl rfl rfl rfl ?_
    refine D.concat rfl rfl rfl rfl rfl rfl (fun _ => (by simp only [List.length_append, List.length_cons, List.length_nil]; omega)) rfl rfl ?_
    iterate 2 refine D.pure rfl rfl rfl rfl rfl rfl ?_
    refine D.done [(2, [], _), (3, [], _)] ⟨rfl, rfl, trivial⟩ (hR _ _ _ rfl ?_); clear hR hB R
    refine G.retN (G.dropAll (G.fin2 rfl rfl rfl ?_))
    exact ⟨by rw [if_pos h8', h8']; rfl, rfl⟩

theorem texts_spec (C : Mem) (x : Rel) (hM : MaxLenAt C) : Gives cx.P 5 [.agg ⟨x.enc⟩] C (.bool true) := by
  refine Fn.intro (by kernel_rfl) Tryd.func5 rfl 70 rfl rfl (fun w0 => ?_)
  refine G.region rfl (fun R hR => ?_)
  refine D.box rfl rfl rfl rfl rfl rfl (fun _ => rfl) (fun b1 => ?_)
  refine D.pure rfl rfl rfl rfl rfl rfl ?_
  refine D.done [(1, [], _)] ⟨rfl, trivial⟩ (hR _ _ _ rfl ?_); clear hR R
  refine G.region rfl (fun R hR => ?_)
  refine D.gives2 (known_spec _ hM) rfl rfl rfl rfl rfl rfl rfl (fun _ => rfl) ?_
  iterate 3 refine D.pure rfl rfl rfl rfl rfl rfl ?_
  refine D.loadL (.head _) rfl rfl rfl rfl rfl rfl rfl rfl rfl ?_
  iterate 2 refine D.pure rfl rfl rfl rfl rfl rfl ?_
  refine D.pickOr rfl rfl rfl rfl rfl rfl rfl rfl ?_
  iterate 2 refine D.pure rfl rfl rfl rfl rfl rfl ?_
  refine D.loadL (.head _) rfl rfl rfl rfl rfl rfl rfl rfl rfl ?_
  iterate 2 refine D.pure rfl rfl rfl rfl rfl rfl ?_
  refine D.pickOr rfl rfl rfl rfl rfl rfl rfl rfl ?_
  refine D.done [(1, [], _), (21, [], _)] ⟨rfl, rfl, trivial⟩ (hR _ _ _ rfl ?_); clear hR R
  refine G.cond rfl (fun h21 => ?_) (fun h21 => ?_)
  · skip
    refine G.region rfl (fun R hR => ?_)
    refine D.gives2 (known_spec _ hM) rfl rfl rfl rfl rfl rfl rfl (fun _ => rfl) ?_
    refine D.pure rfl rfl rfl rfl rfl rfl ?_
    refine D.done [(2, [], _)] ⟨rfl, trivial⟩ (hR _ _ _ rfl ?_); clear hR R
    refine G.retN (G.dropAll (G.fin1 rfl rfl ?_))
    exact ⟨rfl, rfl⟩
  · skip
    replace h21 : ((!true || decide (40 < (x.upper.length : Int))) || decide (40 < (x.lower.length : Int))) = false := h21
    simp only [Bool.not_true, Bool.false_or, Bool.or_eq_false_iff, decide_eq_false_iff_not] at h21
    have hxs : x.short := ⟨by omega, by omega⟩
    obtain ⟨T, hT⟩ : ∃ T, (if errOf x = 0 then textOf x else []) = T := ⟨_, rfl⟩
    have c1 := text_spec C x hxs
    rw [hT] at c1
    refine G.region rfl (fun R hR => ?_)
    refine D.loadL (.head _) rfl rfl rfl rfl rfl rfl rfl rfl rfl ?_
    refine D.gives2 c1 rfl rfl rfl rfl rfl rfl rfl (fun _ => rfl) ?_
    iterate 5 refine D.pure rfl rfl rfl rfl rfl rfl ?_
    refine D.done [(1, [], _), (3, [], _), (4, [], _)] ⟨rfl, rfl, rfl, trivial⟩ (hR _ _ _ rfl ?_); clear hR R
    refine G.region rfl (fun R hR => ?_)
    refine D.loadL (.head _) rfl rfl rfl rfl rfl rfl rfl rfl rfl ?_
    refine D.gives2 (check_law _ x) rfl rfl rfl rfl rfl rfl rfl (fun _ => rfl) ?_
    refine D.pure rfl rfl rfl rfl rfl rfl ?_
    refine D.done [(1, [], _), (3, [], _), (4, [], _), (5, [], _)] ⟨rfl, rfl, rfl, rfl, trivial⟩ (hR _ _ _ rfl ?_); clear hR R
    refine G.region rfl (fun R hR => ?_)
    iterate 2 refine D.pure rfl rfl rfl rfl rfl rfl ?_
    refine D.done [(1, [], _), (3, [], _), (4, [], _), (5, [], _), (31, [], _)] ⟨rfl, rfl, rfl, rfl, rfl, trivial⟩ (hR _ _ _ rfl ?_); clear hR R
    refine G.cond rfl (fun h31 => ?_) (fun h31 => ?_)
    · skip
      have h31' : errOf x ≠ 0 := by simpa using h31
      have hT' : T = [] := by rw [← hT, if_neg h31']
      refine G.region rfl (fun R hR => ?_)
      iterate 6 refine D.pure rfl rfl rfl rfl rfl rfl ?_
      refine D.pickAnd rfl rfl rfl rfl rfl rfl rfl rfl ?_
      refine D.pure rfl rfl rfl rfl rfl rfl ?_
      refine D.done [(2, [], _)] ⟨rfl, trivial⟩ (hR _ _ _ rfl ?_); clear hR R
      refine G.retN (G.dropAll (G.fin1 rfl rfl ?_))
      refine ⟨?_, rfl⟩
      show Value.bool ((T == []) && (errOf x == errOf x)) = _
      rw [hT']; simp
    · skip
      have h31' : errOf x = 0 := by simpa using h31
      have hT' : T = textOf x := by rw [← hT, if_pos h31']
      have hTl : T.length ≤ 100 := by rw [hT']; exact textOf_length h31'
      have c2 := parse_spec C T (by omega) hM
      rw [show parseM T = (x, 0) from by rw [hT']; exact parse_text h31'] at c2
      obtain ⟨k1, k2, n1, n2, _⟩ := errOf_zero h31'
      have l1 := (isNameB_no n1).2.2
      have l2 := (isNameB_no n2).2.2
      have l3 := (wordK_no k1 k2).2.2.1
      refine G.region rfl (fun R hR => ?_)
      refine D.pure rfl rfl rfl rfl rfl rfl ?_
      refine D.gives2 c2 rfl rfl rfl rfl rfl rfl rfl (fun _ => rfl) ?_
      iterate 3 refine D.pure rfl rfl rfl rfl rfl rfl ?_
      refine D.alloc rfl rfl rfl rfl rfl (fun _ => rfl) (fun b6 => ?_)
      refine D.store (j := 0) rfl rfl rfl rfl rfl rfl rfl rfl rfl rfl rfl rfl ?_
      refine D.pure rfl rfl rfl rfl rfl rfl ?_
      refine D.done [(1, [], _), (3, [], _), (4, [], _), (6, [], _), (7, [], _)] ⟨rfl, rfl, rfl, rfl, rfl, trivial⟩ (hR _ _ _ rfl ?_); clear hR R
      refine G.draw [0, 1, 2, 3, 4, 5, 6, 7, 8, 9, 10, 11, 12, 13, 14, 15, 16, 17, 18, 19, 20, 21, 22, 23, 24, 25, 26] [] rfl (by kernel_rfl) (fun R hB hR => ?_)
      iterate 5 refine D.pure rfl rfl rfl rfl rfl rfl ?_
      refine D.loadL (.tail _ (.head _)) rfl rfl rfl rfl rfl rfl rfl rfl rfl ?_
      refine D.concat rfl rfl rfl rfl rfl rfl (fun _ => (by simp only [List.length_append, List.length_cons, List.length_nil]; omega)) rfl rfl ?_
      refine D.pure rfl rfl rfl rfl rfl rfl ?_
      refine D.loadL (.tail _ (.head _)) rfl rfl rfl rfl rfl rfl rfl rfl rfl ?_
      refine D.gives (fun _ => (word_spec _ _ (by omega) (by omega))) rfl rfl rfl rfl rfl rfl rfl rfl rfl ?_
      refine D.concat rfl rfl rfl rfl rfl rfl (fun _ => (by simp only [List.length_append, List.length_cons, List.length_nil]; omega)) rfl rfl ?_
      refine D.concat rfl rfl rfl rfl rfl rfl (fun _ => (by simp only [List.length_append, List.length_cons, List.length_nil]; omega)) rfl rfl ?_
      refine D.pure rfl rfl rfl rfl rfl rfl ?_
      refine D.loadL (.tail _ (.head _)) rfl rfl rfl rfl rfl rfl rfl rfl rfl ?_
      refine D.concat rfl rfl rfl rfl rfl rfl (fun _ => (by simp only [List.length_append, List.length_cons, List.length_nil]; omega)) rfl rfl ?_
      refine D.pure rfl rfl rfl rfl rfl rfl ?_
      refine D.pickAnd rfl rfl rfl rfl rfl rfl rfl rfl ?_
      iterate 3 refine D.pure rfl rfl rfl rfl rfl rfl ?_
      refine D.pickAnd rfl rfl rfl rfl rfl rfl rfl rfl ?_
      refine D.pure rfl rfl rfl rfl rfl rfl ?_
      refine D.loadL (.head _) rfl rfl rfl rfl rfl rfl rfl rfl rfl ?_
      refine D.loadL (.tail _ (.head _)) rfl rfl rfl rfl rfl rfl rfl rfl rfl ?_
      refine D.eqAgg (decide (x = x)) (by kernel_rfl) rfl rfl rfl rfl rfl rfl rfl rfl (fun _ => (eqRow_rel _ _)) rfl rfl ?_
      refine D.pickAnd rfl rfl rfl rfl rfl rfl rfl rfl ?_
      refine D.pure rfl rfl rfl rfl rfl rfl ?_
      refine D.done [(2, [], _)] ⟨rfl, trivial⟩ (hR _ _ _ rfl ?_); clear hR hB R
      refine G.retN (G.dropAll (G.fin1 rfl rfl ?_))
      refine ⟨?_, rfl⟩
      show Value.bool ((((errOf x == 0) && (T == textOf x)) && ((0 : Int) == 0)) && decide (x = x)) = _
      rw [h31', hT']; simp
end Go.Proofs.YtjmfjobfmdhbfaaDoor
