/- Layer 20: the law's words, word, isName, check. -/
import Derived.Test.YtjmfjobfmdhbfaaDoorK20g
namespace Go.Proofs.YtjmfjobfmdhbfaaDoor
open Go Go.Jog
set_option maxRecDepth 100000

theorem drop_cut {s : Str} {st i : Nat} {b : UInt8} (h1 : st ≤ i) (h2 : s[i]? = some b) : s.drop st = (s.take i).drop st ++ b :: s.drop (i + 1) := by
  obtain ⟨h3, h4⟩ := List.getElem?_eq_some_iff.1 h2
  have e : s = s.take i ++ (b :: s.drop (i + 1)) := by
    rw [← h4, ← List.drop_eq_getElem_cons h3, List.take_append_drop]
  conv => lhs; rw [e]
  rw [List.drop_append_of_le_length (by simp; omega)]

theorem words_law (C : Mem) (s : Str) (hl : s.length ≤ 1000000) : Pur cx.P 17 [strV s] C fun u C' => Sl C' 1 u ((splitOn 32 s).map encS) := by
  refine Fn.intro (by kernel_rfl) Tryd.func17 rfl 31 rfl rfl (fun w0 => ?_)
  refine G.region rfl (fun R hR => ?_)
  refine D.pure rfl rfl rfl rfl rfl rfl ?_
  refine D.done [(0, [], _)] ⟨rfl, trivial⟩ (hR _ _ _ rfl ?_); clear hR R
  refine G.region rfl (fun R hR => ?_)
  refine D.pure rfl rfl rfl rfl rfl rfl ?_
  refine D.done [(0, [], _), (3, [], _)] ⟨rfl, rfl, trivial⟩ (hR _ _ _ rfl ?_); clear hR R
  refine G.region rfl (fun R hR => ?_)
  refine D.pure rfl rfl rfl rfl rfl rfl ?_
  refine D.done [(0, [], _), (3, [], _), (4, [], _)] ⟨rfl, rfl, rfl, trivial⟩ (hR _ _ _ rfl ?_); clear hR R
  refine G.region rfl (fun R hR => ?_)
  refine D.pure rfl rfl rfl rfl rfl rfl ?_
  refine D.done [(0, [], _), (3, [], _), (4, [], _), (5, [], _)] ⟨rfl, rfl, rfl, rfl, trivial⟩ (hR _ _ _ rfl ?_); clear hR R
  refine G.nilArr 9 1 ?_
  refine G.loop (fun fr C' L' μ => ∃ (k : Nat) (st : Nat) (acc : List Str) (w3 : Value), (k ≤ s.length ∧ st ≤ k ∧ acc.length ≤ k ∧ splitOn 32 s = acc ++ splitOn 32 (s.drop st) ∧ ∀ j b, st ≤ j → j < k → s[j]? = some b → b ≠ 32) ∧ fr = [(0, [], strV s), (3, [], w3), (4, [], .int .i64 st), (5, [], .int .i64 k)] ∧ L' = [.arr w3 9 1 acc.length (acc.map encS).flatten] ∧ μ = s.length - k) (fr' := [(0, [], _), (3, [], _), (4, [], _), (5, [], _)]) ⟨rfl, rfl, rfl, rfl, trivial⟩ ⟨0, 0, [], .slice none 0 0, ⟨Nat.zero_le _, Nat.le_refl _, Nat.le_refl _, by simp, by intro j b h1 h2; omega⟩, rfl, rfl, rfl⟩ (fun fr C0' L0' m hle0 hI => ?_)
  obtain ⟨k, st, acc, w3, ⟨hk, hst, hal, hsp, hno⟩, rfl, rfl, rfl⟩ := hI
  refine G.region rfl (fun R hR => ?_)
  iterate 4 refine D.pure rfl rfl rfl rfl rfl rfl ?_
  refine D.done [(0, [], _), (3, [], _), (4, [], _), (5, [], _), (9, [], _)] ⟨rfl, rfl, rfl, rfl, rfl, trivial⟩ (hR _ _ _ rfl ?_); clear hR R
  refine G.cond rfl (fun h9 => ?_) (fun h9 => ?_)
  · skip
    replace h9 : decide ((k : Int) < (s.length : Int)) = true := h9
    simp only [decide_eq_true_eq] at h9
    have hkl : k < s.length := by omega
    obtain ⟨b, hb⟩ : ∃ b, s[k]? = some b := ⟨s[k], List.getElem?_eq_getElem hkl⟩
    have hcut := drop_cut hst hb
    have hmiss : (32 : UInt8) ∉ (s.take k).drop st := fun hm => by
      obtain ⟨j, hj⟩ := List.getElem?_of_mem hm
      rw [List.getElem?_drop, List.getElem?_take] at hj
      split at hj
      · exact hno (st + j) 32 (by omega) (by omega) hj rfl
      · cases hj
    refine G.region rfl (fun R hR => ?_)
    iterate 2 refine D.pure rfl rfl rfl rfl rfl rfl ?_
    refine D.indexStr rfl rfl rfl rfl rfl rfl rfl rfl (fun _ => ⟨by omega, hb⟩) rfl rfl ?_
    refine D.pure rfl rfl rfl rfl rfl rfl ?_
    refine D.done [(0, [], _), (3, [], _), (4, [], _), (5, [], _), (15, [], _)] ⟨rfl, rfl, rfl, rfl, rfl, trivial⟩ (hR _ _ _ rfl ?_); clear hR R
    refine G.cond rfl (fun h15 => ?_) (fun h15 => ?_)
    · skip
      have hb32 : b = 32 := by
        simp only [beq_iff_eq] at h15
        exact UInt8.toNat_inj.1 (by have : (32 : UInt8).toNat = 32 := rfl
                                    omega)
      subst hb32
      have hsp2 : splitOn 32 s = (acc ++ [(s.take k).drop st]) ++ splitOn 32 (s.drop (k + 1)) := by
        rw [hsp, hcut, splitOn_hit 32 _ _ hmiss]; simp
      refine G.region rfl (fun R hR => ?_)
      iterate 4 refine D.pure rfl rfl rfl rfl rfl rfl ?_
      refine D.sliceStr st k rfl rfl rfl rfl rfl rfl rfl rfl rfl (fun _ => ⟨.inr ⟨_, rfl⟩, .inr ⟨_, rfl⟩, .inl ⟨rfl, rfl⟩, hst, by omega, Nat.le_refl _⟩) rfl rfl ?_
      refine D.buildSlice [[strV ((s.take k).drop st)]] rfl rfl rfl rfl rfl rfl rfl rfl rfl rfl rfl rfl (fun _ => rfl) (fun p21 C21 hle21 hs21 => ?_)
      refine D.append (j := 0) rfl rfl rfl rfl rfl rfl rfl rfl rfl rfl rfl hs21 rfl (by simp only [List.length_singleton, maxLen]; omega) (by simp only [List.length_singleton]; omega) (fun _ => rfl) (fun v22 => ?_)
      refine D.pure rfl rfl rfl rfl rfl rfl ?_
      refine D.done [(0, [], _), (3, [], _), (5, [], _)] ⟨rfl, rfl, rfl, trivial⟩ (hR _ _ _ rfl ?_); clear hR R
      refine G.region rfl (fun R hR => ?_)
      refine D.pure rfl rfl rfl rfl rfl rfl ?_
      refine D.i64 (((k + 1 : Nat) : Int)) rfl rfl rfl rfl (by omega) (by omega) (by omega) rfl rfl ?_
      refine D.pure rfl rfl rfl rfl rfl rfl ?_
      refine D.done [(0, [], _), (3, [], _), (4, [], _), (5, [], _)] ⟨rfl, rfl, rfl, rfl, trivial⟩ (hR _ _ _ rfl ?_); clear hR R
      refine G.region rfl (fun R hR => ?_)
      refine D.pure rfl rfl rfl rfl rfl rfl ?_
      refine D.i64 (((k + 1 : Nat) : Int)) rfl rfl rfl rfl (by omega) (by omega) (by omega) rfl rfl ?_
      refine D.pure rfl rfl rfl rfl rfl rfl ?_
      refine D.done [(0, [], _), (3, [], _), (4, [], _), (5, [], _)] ⟨rfl, rfl, rfl, rfl, trivial⟩ (hR _ _ _ rfl ?_); clear hR R
      refine G.eqL (L' := [.arr v22 9 1 (acc ++ [(s.take k).drop st]).length ((acc ++ [(s.take k).drop st]).map encS).flatten]) (by simp [encS]) ?_
      refine G.again (m' := s.length - (k + 1)) (by omega) (hle0.trans hle21) (fr' := [(0, [], _), (3, [], _), (4, [], _), (5, [], _)]) ⟨rfl, rfl, rfl, rfl, trivial⟩ ⟨k + 1, k + 1, acc ++ [(s.take k).drop st], v22, ⟨by omega, Nat.le_refl _, by simp; omega, hsp2, by intro j b h1 h2; omega⟩, rfl, rfl, rfl⟩
    · skip
      have hb32 : b ≠ 32 := by
        simp only [beq_eq_false_iff_ne, ne_eq] at h15
        exact fun e => h15 (by rw [e]; rfl)
      refine G.region rfl (fun R hR => ?_)
      refine D.pure rfl rfl rfl rfl rfl rfl ?_
      refine D.i64 (((k + 1 : Nat) : Int)) rfl rfl rfl rfl (by omega) (by omega) (by omega) rfl rfl ?_
      refine D.pure rfl rfl rfl rfl rfl rfl ?_
      refine D.done [(0, [], _), (3, [], _), (4, [], _), (5, [], _)] ⟨rfl, rfl, rfl, rfl, trivial⟩ (hR _ _ _ rfl ?_); clear hR R
      refine G.again (m' := s.length - (k + 1)) (by omega) hle0 (fr' := [(0, [], _), (3, [], _), (4, [], _), (5, [], _)]) ⟨rfl, rfl, rfl, rfl, trivial⟩ ⟨k + 1, st, acc, w3, ⟨by omega, by omega, by omega, hsp, by
        intro j b' h1 h2 h3
        by_cases hj : j < k
        · exact hno j b' h1 hj h3
        · have : j = k := by omega
          subst this
          rw [hb] at h3
          cases h3
          exact hb32⟩, rfl, rfl, rfl⟩
  · skip
    replace h9 : decide ((k : Int) < (s.length : Int)) = false := h9
    simp only [decide_eq_false_iff_not] at h9
    have hmiss : (32 : UInt8) ∉ s.drop st := fun hm => by
      obtain ⟨j, hj⟩ := List.getElem?_of_mem hm
      rw [List.getElem?_drop] at hj
      exact hno (st + j) 32 (by omega) (by have := (List.getElem?_eq_some_iff.1 hj).1; omega) hj rfl
    have hfin : splitOn 32 s = acc ++ [s.drop st] := by rw [hsp, splitOn_miss 32 _ hmiss]
    refine G.region rfl (fun R hR => ?_)
    iterate 3 refine D.pure rfl rfl rfl rfl rfl rfl ?_
    refine D.sliceStr st s.length rfl rfl rfl rfl rfl rfl rfl rfl rfl (fun _ => ⟨.inr ⟨_, rfl⟩, .inl ⟨rfl, rfl⟩, .inl ⟨rfl, rfl⟩, by omega, Nat.le_refl _, Nat.le_refl _⟩) rfl rfl ?_
    refine D.buildSlice [[strV ((s.take s.length).drop st)]] rfl rfl rfl rfl rfl rfl rfl rfl rfl rfl rfl rfl (fun _ => rfl) (fun p29 C29 hle29 hs29 => ?_)
    refine D.append (j := 0) rfl rfl rfl rfl rfl rfl rfl rfl rfl rfl rfl hs29 rfl (by simp only [List.length_singleton, maxLen]; omega) (by simp only [List.length_singleton]; omega) (fun _ => rfl) (fun v30 => ?_)
    refine D.pure rfl rfl rfl rfl rfl rfl ?_
    refine D.done [(2, [], _)] ⟨rfl, trivial⟩ (hR _ _ _ rfl ?_); clear hR R
    refine G.freezeArr 0 ((splitOn 32 s).map encS) rfl (by rw [hfin]; simp [encS]) (by intro r hr; obtain ⟨y, _, rfl⟩ := List.mem_map.1 hr; exact str_len y) (by rw [hfin]; simp) (fun Cf hlef hsf => G.retN (G.fin1 rfl rfl ?_))
    exact ⟨rfl, hsf⟩

def wordK (k : Int) : Str := (([] : Str) :: wordL).getD k.toNat []
theorem word_spec (C : Mem) (k : Int) (h0 : 0 ≤ k) (h1 : k ≤ 4) : Gives cx.P 18 [.int .i64 k] C (strV (wordK k)) := by
  have hk : ∃ n : Nat, k = n ∧ n ≤ 4 := ⟨k.toNat, by omega, by omega⟩
  obtain ⟨n, rfl, hn⟩ := hk
  have hg : ((([] : Str) :: wordL).map strV)[n]? = some (strV (wordK n)) := by
    have : n = 0 ∨ n = 1 ∨ n = 2 ∨ n = 3 ∨ n = 4 := by omega
    rcases this with rfl | rfl | rfl | rfl | rfl <;> rfl
  refine Fn.intro (by kernel_rfl) Tryd.func18 rfl 6 rfl rfl (fun w0 => ?_)
  refine G.region rfl (fun R hR => ?_)
  refine D.pure rfl rfl rfl rfl rfl rfl ?_
  refine D.done [(0, [], _)] ⟨rfl, trivial⟩ (hR _ _ _ rfl ?_); clear hR R
  refine G.region rfl (fun R hR => ?_)
  refine D.build ((([] : Str) :: wordL).map strV) rfl rfl rfl rfl rfl rfl rfl rfl ?_
  refine D.pure rfl rfl rfl rfl rfl rfl ?_
  refine D.indexArr rfl rfl rfl rfl rfl rfl rfl rfl rfl rfl rfl (fun _ => ⟨by omega, by omega, hg⟩) rfl rfl ?_
  refine D.pure rfl rfl rfl rfl rfl rfl ?_
  refine D.done [(2, [], _)] ⟨rfl, trivial⟩ (hR _ _ _ rfl ?_); clear hR R
  refine G.retN (G.dropAll (G.fin1 rfl rfl ?_))
  exact ⟨rfl, rfl⟩

theorem isName_law (C : Mem) (s : Str) : Gives cx.P 27 [strV s] C (.bool (isNameB s)) := by
  refine Fn.intro (by kernel_rfl) Tryd.func27 rfl 68 rfl rfl (fun w0 => ?_)
  refine G.region rfl (fun R hR => ?_)
  refine D.pure rfl rfl rfl rfl rfl rfl ?_
  refine D.done [(0, [], _)] ⟨rfl, trivial⟩ (hR _ _ _ rfl ?_); clear hR R
  refine G.region rfl (fun R hR => ?_)
  iterate 7 refine D.pure rfl rfl rfl rfl rfl rfl ?_
  refine D.pickOr rfl rfl rfl rfl rfl rfl rfl rfl ?_
  refine D.done [(0, [], _), (13, [], _)] ⟨rfl, rfl, trivial⟩ (hR _ _ _ rfl ?_); clear hR R
  refine G.cond rfl (fun h13 => ?_) (fun h13 => ?_)
  · skip
    replace h13 : (decide ((s.length : Int) < 1) || decide (32 < (s.length : Int))) = true := h13
    simp only [Bool.or_eq_true, decide_eq_true_eq] at h13
    refine G.region rfl (fun R hR => ?_)
    refine D.pure rfl rfl rfl rfl rfl rfl ?_
    refine D.done [(2, [], _)] ⟨rfl, trivial⟩ (hR _ _ _ rfl ?_); clear hR R
    refine G.retN (G.dropAll (G.fin1 rfl rfl ?_))
    refine ⟨?_, rfl⟩
    congr 1
    unfold isNameB
    rcases h13 with h | h
    · have : s = [] := List.eq_nil_of_length_eq_zero (by omega)
      simp [this]
    · have h2 : ¬ s.length ≤ 32 := by omega
      simp [h2]
  · skip
    replace h13 : (decide ((s.length : Int) < 1) || decide (32 < (s.length : Int))) = false := h13
    simp only [Bool.or_eq_false_iff, decide_eq_false_iff_not] at h13
    have hne : s ≠ [] := fun e => by subst e; simp at h13
    have h32 : s.length ≤ 32 := by omega
    refine G.region rfl (fun R hR => ?_)
    refine D.pure rfl rfl rfl rfl rfl rfl ?_
    refine D.done [(0, [], _), (3, [], _)] ⟨rfl, rfl, trivial⟩ (hR _ _ _ rfl ?_); clear hR R
    refine G.loop (fun fr C' L' μ => ∃ (k : Nat), (k ≤ s.length ∧ ∀ i b, i < k → s[i]? = some b → nameByte (0 + i) b = true) ∧ fr = [(0, [], strV s), (3, [], .int .i64 k)] ∧ L' = [] ∧ μ = s.length - k) (fr' := [(0, [], _), (3, [], _)]) ⟨rfl, rfl, trivial⟩ ⟨0, ⟨Nat.zero_le _, fun i b hi => by omega⟩, rfl, rfl, rfl⟩ (fun fr C0' L0' m hle0 hI => ?_)
    obtain ⟨k, ⟨hk, hall⟩, rfl, rfl, rfl⟩ := hI
    refine G.region rfl (fun R hR => ?_)
    iterate 4 refine D.pure rfl rfl rfl rfl rfl rfl ?_
    refine D.done [(0, [], _), (3, [], _), (17, [], _)] ⟨rfl, rfl, rfl, trivial⟩ (hR _ _ _ rfl ?_); clear hR R
    refine G.cond rfl (fun h17 => ?_) (fun h17 => ?_)
    · skip
      replace h17 : decide ((k : Int) < (s.length : Int)) = true := h17
      simp only [decide_eq_true_eq] at h17
      have hkl : k < s.length := by omega
      obtain ⟨b, hb⟩ : ∃ b, s[k]? = some b := ⟨s[k], List.getElem?_eq_getElem hkl⟩
      refine G.region rfl (fun R hR => ?_)
      iterate 2 refine D.pure rfl rfl rfl rfl rfl rfl ?_
      refine D.indexStr rfl rfl rfl rfl rfl rfl rfl rfl (fun _ => ⟨by omega, hb⟩) rfl rfl ?_
      iterate 4 refine D.pure rfl rfl rfl rfl rfl rfl ?_
      refine D.indexStr rfl rfl rfl rfl rfl rfl rfl rfl (fun _ => ⟨by omega, hb⟩) rfl rfl ?_
      refine D.pure rfl rfl rfl rfl rfl rfl ?_
      refine D.pickAnd rfl rfl rfl rfl rfl rfl rfl rfl ?_
      iterate 3 refine D.pure rfl rfl rfl rfl rfl rfl ?_
      refine D.indexStr rfl rfl rfl rfl rfl rfl rfl rfl (fun _ => ⟨by omega, hb⟩) rfl rfl ?_
      iterate 4 refine D.pure rfl rfl rfl rfl rfl rfl ?_
      refine D.indexStr rfl rfl rfl rfl rfl rfl rfl rfl (fun _ => ⟨by omega, hb⟩) rfl rfl ?_
      refine D.pure rfl rfl rfl rfl rfl rfl ?_
      refine D.pickAnd rfl rfl rfl rfl rfl rfl rfl rfl ?_
      refine D.pickOr rfl rfl rfl rfl rfl rfl rfl rfl ?_
      refine D.pure rfl rfl rfl rfl rfl rfl ?_
      refine D.done [(0, [], _), (3, [], _), (4, [], (.bool (letterB b)))] ⟨rfl, rfl, rfl, trivial⟩ (hR _ _ _ rfl ?_); clear hR R
      refine G.region rfl (fun R hR => ?_)
      iterate 2 refine D.pure rfl rfl rfl rfl rfl rfl ?_
      refine D.indexStr rfl rfl rfl rfl rfl rfl rfl rfl (fun _ => ⟨by omega, hb⟩) rfl rfl ?_
      iterate 4 refine D.pure rfl rfl rfl rfl rfl rfl ?_
      refine D.indexStr rfl rfl rfl rfl rfl rfl rfl rfl (fun _ => ⟨by omega, hb⟩) rfl rfl ?_
      refine D.pure rfl rfl rfl rfl rfl rfl ?_
      refine D.pickAnd rfl rfl rfl rfl rfl rfl rfl rfl ?_
      iterate 3 refine D.pure rfl rfl rfl rfl rfl rfl ?_
      refine D.indexStr rfl rfl rfl rfl rfl rfl rfl rfl (fun _ => ⟨by omega, hb⟩) rfl rfl ?_
      refine D.pure rfl rfl rfl rfl rfl rfl ?_
      refine D.pickOr rfl rfl rfl rfl rfl rfl rfl rfl ?_
      refine D.pure rfl rfl rfl rfl rfl rfl ?_
      refine D.done [(0, [], _), (3, [], _), (4, [], _), (5, [], (.bool (digitB b)))] ⟨rfl, rfl, rfl, rfl, trivial⟩ (hR _ _ _ rfl ?_); clear hR R
      refine G.region rfl (fun R hR => ?_)
      iterate 8 refine D.pure rfl rfl rfl rfl rfl rfl ?_
      refine D.pickOr rfl rfl rfl rfl rfl rfl rfl rfl ?_
      refine D.pickAnd rfl rfl rfl rfl rfl rfl rfl rfl ?_
      have hbyte : (!(letterB b) && (((k : Int) == 0) || !(digitB b))) = !(nameByte (0 + k) b) := by
        have e : ((k : Int) == 0) = (0 + k == 0) := by
          rw [Nat.zero_add]
          by_cases hk0 : k = 0
          · subst hk0; rfl
          · have : ¬ (k : Int) = 0 := by omega
            rw [beq_eq_false_iff_ne.2 this, beq_eq_false_iff_ne.2 hk0]
        unfold nameByte
        rw [e]
        cases letterB b <;> cases digitB b <;> cases (0 + k == 0) <;> rfl
      refine D.done [(0, [], _), (3, [], _), (67, [], (.bool (!(letterB b) && (((k : Int) == 0) || !(digitB b)))))] ⟨rfl, rfl, rfl, trivial⟩ (hR _ _ _ rfl ?_); clear hR R
      refine G.cond rfl (fun h67 => ?_) (fun h67 => ?_)
      · skip
        rw [hbyte] at h67
        refine G.region rfl (fun R hR => ?_)
        refine D.pure rfl rfl rfl rfl rfl rfl ?_
        refine D.done [(2, [], _)] ⟨rfl, trivial⟩ (hR _ _ _ rfl ?_); clear hR R
        refine G.retN (G.dropAll (G.fin1 rfl rfl ?_))
        refine ⟨?_, rfl⟩
        have := nameFrom_at (k := 0) hb (by simpa using h67)
        simp [isNameB, this]
      · skip
        rw [hbyte] at h67
        refine G.region rfl (fun R hR => ?_)
        refine D.pure rfl rfl rfl rfl rfl rfl ?_
        refine D.i64 (((k + 1 : Nat) : Int)) rfl rfl rfl rfl (by omega) (by omega) (by omega) rfl rfl ?_
        refine D.pure rfl rfl rfl rfl rfl rfl ?_
        refine D.done [(0, [], _), (3, [], _)] ⟨rfl, rfl, trivial⟩ (hR _ _ _ rfl ?_); clear hR R
        refine G.again (m' := s.length - (k + 1)) (by omega) hle0 (fr' := [(0, [], _), (3, [], _)]) ⟨rfl, rfl, trivial⟩ ⟨k + 1, ⟨by omega, fun i b' hi hb' => by
          by_cases h1 : i < k
          · exact hall i b' h1 hb'
          · have : i = k := by omega
            subst this
            rw [hb] at hb'
            cases hb'
            simpa using h67⟩, rfl, rfl, rfl⟩
    · skip
      replace h17 : decide ((k : Int) < (s.length : Int)) = false := h17
      simp only [decide_eq_false_iff_not] at h17
      refine G.region rfl (fun R hR => ?_)
      refine D.pure rfl rfl rfl rfl rfl rfl ?_
      refine D.done [(2, [], _)] ⟨rfl, trivial⟩ (hR _ _ _ rfl ?_); clear hR R
      refine G.retN (G.dropAll (G.fin1 rfl rfl ?_))
      refine ⟨?_, rfl⟩
      have := nameFrom_all (s := s) (k := 0) (fun i b hb => hall i b (by have := (List.getElem?_eq_some_iff.1 hb).1; omega) hb)
      simp [isNameB, this, hne, h32]

theorem check_law (C : Mem) (x : Rel) : Gives cx.P 19 [.agg ⟨x.enc⟩] C (.int .i64 (errOf x)) := by
  refine Fn.intro (by kernel_rfl) Tryd.func19 rfl 29 rfl rfl (fun w0 => ?_)
  refine G.region rfl (fun R hR => ?_)
  refine D.box rfl rfl rfl rfl rfl rfl (fun _ => rfl) (fun b1 => ?_)
  refine D.pure rfl rfl rfl rfl rfl rfl ?_
  refine D.done [(1, [], _)] ⟨rfl, trivial⟩ (hR _ _ _ rfl ?_); clear hR R
  refine G.region rfl (fun R hR => ?_)
  refine D.pure rfl rfl rfl rfl rfl rfl ?_
  refine D.loadL (.head _) rfl rfl rfl rfl rfl rfl rfl rfl rfl ?_
  iterate 3 refine D.pure rfl rfl rfl rfl rfl rfl ?_
  refine D.loadL (.head _) rfl rfl rfl rfl rfl rfl rfl rfl rfl ?_
  refine D.pure rfl rfl rfl rfl rfl rfl ?_
  refine D.pickOr rfl rfl rfl rfl rfl rfl rfl rfl ?_
  refine D.pure rfl rfl rfl rfl rfl rfl ?_
  refine D.done [(1, [], _), (3, [], _)] ⟨rfl, rfl, trivial⟩ (hR _ _ _ rfl ?_); clear hR R
  refine G.cond rfl (fun h3 => ?_) (fun h3 => ?_)
  · skip
    have h3' : x.kind < 1 ∨ 4 < x.kind := by simpa using h3
    refine G.region rfl (fun R hR => ?_)
    refine D.pure rfl rfl rfl rfl rfl rfl ?_
    refine D.done [(2, [], _)] ⟨rfl, trivial⟩ (hR _ _ _ rfl ?_); clear hR R
    refine G.retN (G.dropAll (G.fin1 rfl rfl ?_))
    exact ⟨by rw [errOf, if_pos h3'], rfl⟩
  · skip
    have h3' : ¬ (x.kind < 1 ∨ 4 < x.kind) := by simpa using h3
    refine G.region rfl (fun R hR => ?_)
    refine D.pure rfl rfl rfl rfl rfl rfl ?_
    refine D.loadL (.head _) rfl rfl rfl rfl rfl rfl rfl rfl rfl ?_
    refine D.gives2 (isName_law _ _) rfl rfl rfl rfl rfl rfl rfl (fun _ => rfl) ?_
    iterate 3 refine D.pure rfl rfl rfl rfl rfl rfl ?_
    refine D.loadL (.head _) rfl rfl rfl rfl rfl rfl rfl rfl rfl ?_
    refine D.gives (fun _ => (isName_law _ _)) rfl rfl rfl rfl rfl rfl rfl rfl rfl ?_
    refine D.pure rfl rfl rfl rfl rfl rfl ?_
    refine D.pickOr rfl rfl rfl rfl rfl rfl rfl rfl ?_
    refine D.pure rfl rfl rfl rfl rfl rfl ?_
    refine D.done [(1, [], _), (12, [], _)] ⟨rfl, rfl, trivial⟩ (hR _ _ _ rfl ?_); clear hR R
    refine G.cond rfl (fun h12 => ?_) (fun h12 => ?_)
    · skip
      have h12' : isNameB x.upper = false ∨ isNameB x.lower = false := by simpa using h12
      refine G.region rfl (fun R hR => ?_)
      refine D.pure rfl rfl rfl rfl rfl rfl ?_
      refine D.done [(2, [], _)] ⟨rfl, trivial⟩ (hR _ _ _ rfl ?_); clear hR R
      refine G.retN (G.dropAll (G.fin1 rfl rfl ?_))
      exact ⟨by rw [errOf, if_neg h3', if_pos h12'], rfl⟩
    · skip
      have h12' : ¬ (isNameB x.upper = false ∨ isNameB x.lower = false) := by
        simp only [Bool.or_eq_false_iff, Bool.not_eq_false'] at h12
        rw [h12.1, h12.2]; simp
      refine G.region rfl (fun R hR => ?_)
      refine D.pure rfl rfl rfl rfl rfl rfl ?_
      refine D.loadL (.head _) rfl rfl rfl rfl rfl rfl rfl rfl rfl ?_
      refine D.pure rfl rfl rfl rfl rfl rfl ?_
      refine D.loadL (.head _) rfl rfl rfl rfl rfl rfl rfl rfl rfl ?_
      iterate 2 refine D.pure rfl rfl rfl rfl rfl rfl ?_
      refine D.done [(23, [], _)] ⟨rfl, trivial⟩ (hR _ _ _ rfl ?_); clear hR R
      refine G.cond rfl (fun h23 => ?_) (fun h23 => ?_)
      · skip
        have h23' : x.upper = x.lower := by simpa using h23
        refine G.region rfl (fun R hR => ?_)
        refine D.pure rfl rfl rfl rfl rfl rfl ?_
        refine D.done [(2, [], _)] ⟨rfl, trivial⟩ (hR _ _ _ rfl ?_); clear hR R
        refine G.retN (G.dropAll (G.fin1 rfl rfl ?_))
        exact ⟨by rw [errOf, if_neg h3', if_neg h12', if_pos h23'], rfl⟩
      · skip
        have h23' : ¬ x.upper = x.lower := fun e => by rw [e] at h23; simp at h23
        refine G.region rfl (fun R hR => ?_)
        refine D.pure rfl rfl rfl rfl rfl rfl ?_
        refine D.done [(2, [], _)] ⟨rfl, trivial⟩ (hR _ _ _ rfl ?_); clear hR R
        refine G.retN (G.dropAll (G.fin1 rfl rfl ?_))
        exact ⟨by rw [errOf, if_neg h3', if_neg h12', if_neg h23'], rfl⟩
end Go.Proofs.YtjmfjobfmdhbfaaDoor
