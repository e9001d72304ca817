/- Layer 20: the functions of the statements RelationParses and RelationTexts. -/
import Derived.Test.YtjmfjobfmdhbfaaDoorK20i
namespace Go.Proofs.YtjmfjobfmdhbfaaDoor
open Go Go.Jog
set_option maxRecDepth 100000

theorem wordK_eq (k : Nat) (h : k < 4) : wordL[k]? = some (wordK ((k + 1 : Nat) : Int)) := by
  have : k = 0 ∨ k = 1 ∨ k = 2 ∨ k = 3 := by omega
  rcases this with rfl | rfl | rfl | rfl <;> rfl
theorem idx_word {w : Str} {m : Nat} (h : (m = 0 ∧ ∀ j : Nat, 1 ≤ j → j < 5 → w ≠ wordK j) ∨ (1 ≤ m ∧ m < 5 ∧ w = wordK m)) : (m : Int) = 1 + idxI w wordL 0 := by
  rcases h with ⟨rfl, h⟩ | ⟨h1, h2, rfl⟩
  · have : idxI w wordL 0 = -1 := idxI_none (fun y hy => by
      obtain ⟨i, hi⟩ := List.getElem?_of_mem hy
      have hlt := (List.getElem?_eq_some_iff.1 hi).1
      have h4 : i < 4 := hlt
      rw [wordK_eq i h4] at hi
      cases hi
      exact h (i + 1) (by omega) (by omega))
    rw [this]; rfl
  · have : m = 1 ∨ m = 2 ∨ m = 3 ∨ m = 4 := by omega
    rcases this with rfl | rfl | rfl | rfl <;> rfl

theorem parses_spec (C : Mem) (s : Str) (hM : MaxLenAt C) : Gives cx.P 4 [strV s] C (.bool true) := by
  refine Fn.intro (by kernel_rfl) Tryd.func4 rfl 87 rfl rfl (fun w0 => ?_)
  refine G.region rfl (fun R hR => ?_)
  refine D.pure rfl rfl rfl rfl rfl rfl ?_
  refine D.done [(0, [], _)] ⟨rfl, trivial⟩ (hR _ _ _ rfl ?_); clear hR R
  refine G.region rfl (fun R hR => ?_)
  refine D.gives2 (known_spec _ hM) rfl rfl rfl rfl rfl rfl rfl (fun _ => rfl) ?_
  iterate 5 refine D.pure rfl rfl rfl rfl rfl rfl ?_
  refine D.pickOr rfl rfl rfl rfl rfl rfl rfl rfl ?_
  refine D.done [(0, [], _), (16, [], _)] ⟨rfl, rfl, trivial⟩ (hR _ _ _ rfl ?_); clear hR R
  refine G.cond rfl (fun h16 => ?_) (fun h16 => ?_)
  · skip
    refine G.region rfl (fun R hR => ?_)
    refine D.gives2 (known_spec _ hM) rfl rfl rfl rfl rfl rfl rfl (fun _ => rfl) ?_
    refine D.pure rfl rfl rfl rfl rfl rfl ?_
    refine D.done [(2, [], _)] ⟨rfl, trivial⟩ (hR _ _ _ rfl ?_); clear hR R
    refine G.retN (G.dropAll (G.fin1 rfl rfl ?_))
    exact ⟨rfl, rfl⟩
  · skip
    replace h16 : (!true || decide (100 < (s.length : Int))) = false := h16
    simp only [Bool.not_true, Bool.false_or, decide_eq_false_iff_not] at h16
    refine G.region rfl (fun R hR => ?_)
    refine D.pure rfl rfl rfl rfl rfl rfl ?_
    refine D.gives2 (parse_spec _ s (by omega) hM) rfl rfl rfl rfl rfl rfl rfl (fun _ => rfl) ?_
    iterate 3 refine D.pure rfl rfl rfl rfl rfl rfl ?_
    refine D.alloc rfl rfl rfl rfl rfl (fun _ => rfl) (fun b3 => ?_)
    refine D.store (j := 0) rfl rfl rfl rfl rfl rfl rfl rfl rfl rfl rfl rfl ?_
    refine D.pure rfl rfl rfl rfl rfl rfl ?_
    refine D.done [(0, [], _), (3, [], _), (4, [], _)] ⟨rfl, rfl, rfl, trivial⟩ (hR _ _ _ rfl ?_); clear hR R
    refine G.region rfl (fun R hR => ?_)
    refine D.pure rfl rfl rfl rfl rfl rfl ?_
    refine D.callP (words_law _ s (by omega)) rfl rfl rfl rfl rfl rfl rfl (fun _ => rfl) (fun v24 C24 hle24 hq24 => ?_)
    have hsp := hq24
    obtain ⟨A, c, hv24, _⟩ := id hq24
    subst hv24
    obtain ⟨ps, hps⟩ : ∃ ps, splitOn 32 s = ps := ⟨_, rfl⟩
    rw [hps] at hsp
    rw [hps]
    refine D.pure rfl rfl rfl rfl rfl rfl ?_
    refine D.done [(3, [], _), (4, [], _), (5, [], _)] ⟨rfl, rfl, rfl, trivial⟩ (hR _ _ _ rfl ?_); clear hR R
    refine G.region rfl (fun R hR => ?_)
    refine D.pure rfl rfl rfl rfl rfl rfl ?_
    refine D.done [(3, [], _), (4, [], _), (5, [], _), (6, [], _)] ⟨rfl, rfl, rfl, rfl, trivial⟩ (hR _ _ _ rfl ?_); clear hR R
    refine G.region rfl (fun R hR => ?_)
    iterate 3 refine D.pure rfl rfl rfl rfl rfl rfl ?_
    refine D.done [(3, [], _), (4, [], _), (5, [], _), (6, [], _), (27, [], _)] ⟨rfl, rfl, rfl, rfl, rfl, trivial⟩ (hR _ _ _ rfl ?_); clear hR R
    refine G.cut (fun fr C' L' μ => ∃ (kk : Int), ((ps.length = 3 → ∀ w, ps[1]? = some w → kk = 1 + idxI w wordL 0) ∧ (ps.length ≠ 3 → kk = 0)) ∧ fr = [(3, [], .pointer (some ⟨b3, 0, none⟩)), (4, [], .int .i64 (parseM s).2), (5, [], .slice A (ps.map encS).length c), (6, [], .int .i64 kk)] ∧ L' = [.obj b3 (.cells ⟨(parseM s).1.enc⟩ 33 (0, 0))]) ?_ (fun fr C27 L27 μ hle27 hI => ?_)
    · skip
      refine G.cond rfl (fun h27 => ?_) (fun h27 => ?_)
      · skip
        have h27' : ps.length = 3 := by simp only [List.length_map, beq_iff_eq] at h27; omega
        obtain ⟨w, hw⟩ : ∃ w, ps[1]? = some w := ⟨ps[1]'(by omega), List.getElem?_eq_getElem (by omega)⟩
        refine G.region rfl (fun R hR => ?_)
        refine D.pure rfl rfl rfl rfl rfl rfl ?_
        refine D.done [(3, [], _), (4, [], _), (5, [], _), (6, [], _), (7, [], _)] ⟨rfl, rfl, rfl, rfl, rfl, trivial⟩ (hR _ _ _ rfl ?_); clear hR R
        refine G.loop (fun fr C' L' μ => ∃ (k : Nat) (m6 : Nat), (1 ≤ k ∧ k ≤ 5 ∧ ((m6 = 0 ∧ ∀ j : Nat, 1 ≤ j → j < k → w ≠ wordK j) ∨ (1 ≤ m6 ∧ m6 < k ∧ w = wordK m6))) ∧ fr = [(3, [], .pointer (some ⟨b3, 0, none⟩)), (4, [], .int .i64 (parseM s).2), (5, [], .slice A (ps.map encS).length c), (6, [], .int .i64 m6), (7, [], .int .i64 k)] ∧ L' = [.obj b3 (.cells ⟨(parseM s).1.enc⟩ 33 (0, 0))] ∧ μ = 5 - k) (fr' := [(3, [], _), (4, [], _), (5, [], _), (6, [], _), (7, [], _)]) ⟨rfl, rfl, rfl, rfl, rfl, trivial⟩ ⟨1, 0, ⟨by omega, by omega, .inl ⟨rfl, by intro j h1 h2; omega⟩⟩, rfl, rfl, rfl⟩ (fun fr C0' L0' m hle0 hI => ?_)
        obtain ⟨k, m6, ⟨hk1, hk5, hm6⟩, rfl, rfl, rfl⟩ := hI
        refine G.region rfl (fun R hR => ?_)
        iterate 2 refine D.pure rfl rfl rfl rfl rfl rfl ?_
        refine D.done [(3, [], _), (4, [], _), (5, [], _), (6, [], _), (7, [], _), (29, [], _)] ⟨rfl, rfl, rfl, rfl, rfl, rfl, trivial⟩ (hR _ _ _ rfl ?_); clear hR R
        refine G.cond rfl (fun h29 => ?_) (fun h29 => ?_)
        · skip
          simp only [decide_eq_true_eq] at h29
          refine G.draw [0, 1, 2, 3, 4, 5] [(4, 1)] rfl (by kernel_rfl) (fun R hB hR => ?_)
          refine D.pure rfl rfl rfl rfl rfl rfl ?_
          refine D.index0 (hsp.mono hle0) rfl rfl rfl rfl rfl rfl rfl rfl rfl rfl (by omega) (row := encS w) (by simp [hw]) (fun _ => rfl) (fun p33 hp33 => ?_)
          refine D.loadP0 hp33 rfl rfl rfl rfl rfl rfl rfl rfl ?_
          refine D.pure rfl rfl rfl rfl rfl rfl ?_
          refine D.gives (fun _ => (word_spec _ _ (by omega) (by omega))) rfl rfl rfl rfl rfl rfl rfl rfl rfl ?_
          refine D.pure rfl rfl rfl rfl rfl rfl ?_
          refine D.done [(3, [], _), (4, [], _), (5, [], _), (6, [], _), (7, [], _), (37, [], (.bool (w == wordK k)))] ⟨rfl, rfl, rfl, rfl, rfl, rfl, trivial⟩ (hR _ _ _ rfl ?_); clear hR hB R
          refine G.cond rfl (fun h37 => ?_) (fun h37 => ?_)
          · skip
            have h37' : w = wordK k := by simpa using h37
            refine G.region rfl (fun R hR => ?_)
            iterate 2 refine D.pure rfl rfl rfl rfl rfl rfl ?_
            refine D.done [(3, [], _), (4, [], _), (5, [], _), (6, [], _), (7, [], _)] ⟨rfl, rfl, rfl, rfl, rfl, trivial⟩ (hR _ _ _ rfl ?_); clear hR R
            refine G.region rfl (fun R hR => ?_)
            refine D.pure rfl rfl rfl rfl rfl rfl ?_
            refine D.i64 (((k + 1 : Nat) : Int)) rfl rfl rfl rfl (by omega) (by omega) (by omega) rfl rfl ?_
            refine D.pure rfl rfl rfl rfl rfl rfl ?_
            refine D.done [(3, [], _), (4, [], _), (5, [], _), (6, [], _), (7, [], _)] ⟨rfl, rfl, rfl, rfl, rfl, trivial⟩ (hR _ _ _ rfl ?_); clear hR R
            refine G.again (m' := 5 - (k + 1)) (by omega) hle0 (fr' := [(3, [], _), (4, [], _), (5, [], _), (6, [], _), (7, [], _)]) ⟨rfl, rfl, rfl, rfl, rfl, trivial⟩ ⟨k + 1, k, ⟨by omega, by omega, .inr ⟨hk1, by omega, h37'⟩⟩, rfl, rfl, rfl⟩
          · skip
            have h37' : ¬ w = wordK k := by simpa using h37
            refine G.region rfl (fun R hR => ?_)
            refine D.pure rfl rfl rfl rfl rfl rfl ?_
            refine D.i64 (((k + 1 : Nat) : Int)) rfl rfl rfl rfl (by omega) (by omega) (by omega) rfl rfl ?_
            refine D.pure rfl rfl rfl rfl rfl rfl ?_
            refine D.done [(3, [], _), (4, [], _), (5, [], _), (6, [], _), (7, [], _)] ⟨rfl, rfl, rfl, rfl, rfl, trivial⟩ (hR _ _ _ rfl ?_); clear hR R
            refine G.again (m' := 5 - (k + 1)) (by omega) hle0 (fr' := [(3, [], _), (4, [], _), (5, [], _), (6, [], _), (7, [], _)]) ⟨rfl, rfl, rfl, rfl, rfl, trivial⟩ ⟨k + 1, m6, ⟨by omega, by omega, by
              rcases hm6 with ⟨h1, h2⟩ | ⟨h1, h2, h3⟩
              · refine .inl ⟨h1, fun j h4 h5 => ?_⟩
                by_cases hj : j < k
                · exact h2 j h4 hj
                · have : j = k := by omega
                  subst this; exact h37'
              · exact .inr ⟨h1, by omega, h3⟩⟩, rfl, rfl, rfl⟩
        · skip
          simp only [decide_eq_false_iff_not] at h29
          refine G.meet 0 hle0 (fr' := [(3, [], _), (4, [], _), (5, [], _), (6, [], _)]) ⟨rfl, rfl, rfl, rfl, trivial⟩ ⟨(m6 : Int), ⟨fun _ w' hw' => by
            rw [hw] at hw'
            cases hw'
            have : k = 5 := by omega
            subst this
            exact idx_word hm6, fun h => absurd h27' h⟩, rfl, rfl⟩
      · skip
        have h27' : ps.length ≠ 3 := by simp only [List.length_map, beq_eq_false_iff_ne, ne_eq] at h27; omega
        refine G.meet 0 (Mem.le.refl _) (fr' := [(3, [], _), (4, [], _), (5, [], _), (6, [], _)]) ⟨rfl, rfl, rfl, rfl, trivial⟩ ⟨0, ⟨fun h => absurd h h27', fun _ => rfl⟩, rfl, rfl⟩
    · skip
      obtain ⟨kk, ⟨hk3, hk0⟩, rfl, rfl⟩ := hI
      have hsp2 := hsp.mono hle27
      have h3 : kk ≠ 0 → ∃ pa pb pc, ps = [pa, pb, pc] ∧ kk = 1 + idxI pb wordL 0 := fun h => by
        have hl : ps.length = 3 := Classical.byContradiction fun hn => h (hk0 hn)
        match ps, hl with
        | [pa, pb, pc], _ => exact ⟨pa, pb, pc, rfl, hk3 rfl pb rfl⟩
      have hget : ∀ i, i < 3 → kk ≠ 0 → (ps.map encS)[i]? = some (encS (ps.getD i [])) := fun i hi h => by
        obtain ⟨pa, pb, pc, rfl, _⟩ := h3 h
        have : i = 0 ∨ i = 1 ∨ i = 2 := by omega
        rcases this with rfl | rfl | rfl <;> rfl
      refine G.region rfl (fun R hR => ?_)
      iterate 4 refine D.pure rfl rfl rfl rfl rfl rfl ?_
      refine D.index rfl rfl rfl rfl rfl rfl rfl rfl rfl rfl (fun hg => ⟨hsp2, by decide, hget 0 (by omega) (by have h4 : (kk == 0) = false := hg.1; simpa using h4)⟩) (fun _ => rfl) rfl (fun p43 hp43 => ?_)
      refine D.loadP rfl rfl rfl rfl rfl rfl hp43 rfl rfl rfl ?_
      refine D.pure rfl rfl rfl rfl rfl rfl ?_
      refine D.pickOr rfl rfl rfl rfl rfl rfl rfl rfl ?_
      iterate 2 refine D.pure rfl rfl rfl rfl rfl rfl ?_
      refine D.index rfl rfl rfl rfl rfl rfl rfl rfl rfl rfl (fun hg => ⟨hsp2, by decide, hget 2 (by omega) (by have h4 : ((kk == 0) || (ps.getD 0 [] == [])) = false := hg.1; simp only [Bool.or_eq_false_iff] at h4; simpa using h4.1)⟩) (fun _ => rfl) rfl (fun p49 hp49 => ?_)
      refine D.loadP rfl rfl rfl rfl rfl rfl hp49 rfl rfl rfl ?_
      refine D.pure rfl rfl rfl rfl rfl rfl ?_
      refine D.pickOr rfl rfl rfl rfl rfl rfl rfl rfl ?_
      refine D.done [(3, [], _), (4, [], _), (5, [], _), (6, [], _), (52, [], (.bool (((kk == 0) || (ps.getD 0 [] == [])) || (ps.getD 2 [] == []))))] ⟨rfl, rfl, rfl, rfl, rfl, trivial⟩ (hR _ _ _ rfl ?_); clear hR R
      refine G.cond rfl (fun h52 => ?_) (fun h52 => ?_)
      · skip
        have hbad : parseM s = (Rel.zero, 15) := by
          rw [parseM, hps]
          by_cases hz : kk = 0
          · match ps, hk3 with
            | [], _ => rfl
            | [_], _ => rfl
            | [_, _], _ => rfl
            | [pa, pb, pc], hk3 =>
              have := hk3 rfl pb rfl
              simp only [parseL]
              split
              · rfl
              · rw [if_pos (by omega)]
            | _ :: _ :: _ :: _ :: _, _ => rfl
          · obtain ⟨pa, pb, pc, rfl, _⟩ := h3 hz
            simp only [Bool.or_eq_true, beq_iff_eq] at h52
            have : pa = [] ∨ pb = [] ∨ pc = [] := by
              rcases h52 with (h | h) | h
              · exact absurd h hz
              · exact .inl h
              · exact .inr (.inr h)
            simp only [parseL, if_pos this]
        refine G.region rfl (fun R hR => ?_)
        refine D.loadL (.head _) rfl rfl rfl rfl rfl rfl rfl rfl rfl ?_
        refine D.build Rel.zero.enc rfl rfl rfl rfl rfl rfl rfl rfl ?_
        refine D.eqAgg (decide ((parseM s).1 = Rel.zero)) (by kernel_rfl) rfl rfl rfl rfl rfl rfl rfl rfl (fun _ => (eqRow_rel _ _)) rfl rfl ?_
        iterate 3 refine D.pure rfl rfl rfl rfl rfl rfl ?_
        refine D.pickAnd rfl rfl rfl rfl rfl rfl rfl rfl ?_
        refine D.pure rfl rfl rfl rfl rfl rfl ?_
        refine D.done [(2, [], _)] ⟨rfl, trivial⟩ (hR _ _ _ rfl ?_); clear hR R
        refine G.retN (G.dropAll (G.fin1 rfl rfl ?_))
        exact ⟨by rw [hbad]; rfl, rfl⟩
      · skip
        simp only [Bool.or_eq_false_iff, beq_eq_false_iff_ne, ne_eq] at h52
        obtain ⟨pa, pb, pc, rfl, hkk⟩ := h3 h52.1.1
        have hpa : pa ≠ [] := h52.1.2
        have hpc : pc ≠ [] := h52.2
        have hpm : parseM s = if errOf ⟨kk, pa, pc⟩ = 0 then (⟨kk, pa, pc⟩, 0) else (Rel.zero, errOf ⟨kk, pa, pc⟩) := by
          have hb : pb ≠ [] := fun e => by
            subst e
            have : idxI [] wordL 0 = -1 := rfl
            exact h52.1.1 (by rw [hkk, this]; rfl)
          rw [parseM, hps, parseL, if_neg (by simp [hpa, hpc, hb]), if_neg (by have := h52.1.1; omega), hkk]
        refine G.draw [0, 1, 2, 3, 4, 5, 6, 7, 8, 9] [] rfl (by kernel_rfl) (fun R hB hR => ?_)
        iterate 2 refine D.pure rfl rfl rfl rfl rfl rfl ?_
        refine D.index0 hsp2 rfl rfl rfl rfl rfl rfl rfl rfl rfl rfl (by omega) (row := encS pa) rfl (fun _ => rfl) (fun p62 hp62 => ?_)
        refine D.loadP0 hp62 rfl rfl rfl rfl rfl rfl rfl rfl ?_
        refine D.pure rfl rfl rfl rfl rfl rfl ?_
        refine D.index0 hsp2 rfl rfl rfl rfl rfl rfl rfl rfl rfl rfl (by omega) (row := encS pc) rfl (fun _ => rfl) (fun p65 hp65 => ?_)
        refine D.loadP0 hp65 rfl rfl rfl rfl rfl rfl rfl rfl ?_
        refine D.build [.int .i64 kk, strV pa, strV pc] rfl rfl rfl rfl rfl rfl rfl rfl ?_
        refine D.alloc rfl rfl rfl rfl rfl (fun _ => rfl) (fun b8 => ?_)
        refine D.store (j := 0) rfl rfl rfl rfl rfl rfl rfl rfl rfl rfl rfl rfl ?_
        refine D.done [(3, [], _), (4, [], _), (8, [], _)] ⟨rfl, rfl, rfl, trivial⟩ (hR _ _ _ rfl ?_); clear hR hB R
        refine G.region rfl (fun R hR => ?_)
        refine D.loadL (.head _) rfl rfl rfl rfl rfl rfl rfl rfl rfl ?_
        refine D.gives2 (check_law _ ⟨kk, pa, pc⟩) rfl rfl rfl rfl rfl rfl rfl (fun _ => rfl) ?_
        refine D.pure rfl rfl rfl rfl rfl rfl ?_
        refine D.done [(3, [], _), (4, [], _), (8, [], _), (9, [], _)] ⟨rfl, rfl, rfl, rfl, trivial⟩ (hR _ _ _ rfl ?_); clear hR R
        refine G.region rfl (fun R hR => ?_)
        iterate 2 refine D.pure rfl rfl rfl rfl rfl rfl ?_
        refine D.done [(3, [], _), (4, [], _), (8, [], _), (9, [], _), (71, [], _)] ⟨rfl, rfl, rfl, rfl, rfl, trivial⟩ (hR _ _ _ rfl ?_); clear hR R
        refine G.cond rfl (fun h71 => ?_) (fun h71 => ?_)
        · skip
          have h71' : ¬ errOf ⟨kk, pa, pc⟩ = 0 := by simpa using h71
          rw [if_neg h71'] at hpm
          refine G.region rfl (fun R hR => ?_)
          refine D.loadL (.tail _ (.head _)) rfl rfl rfl rfl rfl rfl rfl rfl rfl ?_
          refine D.build Rel.zero.enc rfl rfl rfl rfl rfl rfl rfl rfl ?_
          refine D.eqAgg (decide ((parseM s).1 = Rel.zero)) (by kernel_rfl) rfl rfl rfl rfl rfl rfl rfl rfl (fun _ => (eqRow_rel _ _)) rfl rfl ?_
          iterate 4 refine D.pure rfl rfl rfl rfl rfl rfl ?_
          refine D.pickAnd rfl rfl rfl rfl rfl rfl rfl rfl ?_
          refine D.pure rfl rfl rfl rfl rfl rfl ?_
          refine D.done [(2, [], _)] ⟨rfl, trivial⟩ (hR _ _ _ rfl ?_); clear hR R
          refine G.retN (G.dropAll (G.fin1 rfl rfl ?_))
          exact ⟨by rw [hpm]; simp, rfl⟩
        · skip
          have h71' : errOf ⟨kk, pa, pc⟩ = 0 := by simpa using h71
          rw [if_pos h71'] at hpm
          refine G.region rfl (fun R hR => ?_)
          iterate 3 refine D.pure rfl rfl rfl rfl rfl rfl ?_
          refine D.loadL (.tail _ (.head _)) rfl rfl rfl rfl rfl rfl rfl rfl rfl ?_
          refine D.loadL (.head _) rfl rfl rfl rfl rfl rfl rfl rfl rfl ?_
          refine D.eqAgg (decide ((parseM s).1 = ⟨kk, pa, pc⟩)) (by kernel_rfl) rfl rfl rfl rfl rfl rfl rfl rfl (fun _ => (eqRow_rel (parseM s).1 ⟨kk, pa, pc⟩)) rfl rfl ?_
          refine D.pickAnd rfl rfl rfl rfl rfl rfl rfl rfl ?_
          refine D.pure rfl rfl rfl rfl rfl rfl ?_
          refine D.done [(2, [], _)] ⟨rfl, trivial⟩ (hR _ _ _ rfl ?_); clear hR R
          refine G.retN (G.dropAll (G.fin1 rfl rfl ?_))
          exact ⟨by rw [hpm]; simp, rfl⟩
end Go.Proofs.YtjmfjobfmdhbfaaDoor
